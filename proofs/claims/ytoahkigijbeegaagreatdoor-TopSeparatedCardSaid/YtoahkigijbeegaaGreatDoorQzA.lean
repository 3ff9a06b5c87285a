/- A small calculus of weakest preconditions for the printed models: what a call returns, rules for each step, one rule for loops. It holds over any program. -/
import Derived.Test.YtoahkigijbeegaaGreatDoorTm
import Derived.Test.YtoahkigijbeegaaGreatDoorM16
import Derived.KernelRfl
set_option linter.unusedSimpArgs false
set_option linter.unusedVariables false
namespace Vc
open Sx Go
def Ret {α:Type} (m:Option α) (Q:α→Prop):Prop:=∃ x,m=some x∧Q x
def VQ {τ ρ:Type} (P:τ→Prop) (Q:ρ→Prop):τ⊕ρ→Prop
 | .inl t=>P t
 | .inr o=>Q o
theorem T0 {τ ρ:Type} {P:τ→Prop} {Q:ρ→Prop} {t:τ}:VQ P Q (.inl t)=P t:=rfl
theorem E1 {τ ρ:Type} {P:τ→Prop} {Q:ρ→Prop} {t:ρ}:VQ P Q (.inr t)=Q t:=rfl
theorem obs {α β:Type} {x:α} {f:α→Option β}:(some x).bind f=f x:=by
 have h:∀ e:Option α,e=some x→e.bind f=f x:=by rintro _ rfl; rfl
 exact h _ rfl
theorem K0 {α:Type} {x:α} {Q:α→Prop}:Ret (some x) Q=Q x:=by simp [Ret]
theorem Vo {α:Type} {Q:α→Prop}:Ret none Q=False:=by simp [Ret]
theorem O0 {α β:Type} {m:Option α} {f:α→Option β} {Q:β→Prop}:Ret (m.bind f) Q=Ret m (fun x=>Ret (f x) Q):=by
 cases m<;>simp [Ret]
theorem C1 {α:Type} {c:Prop} [Decidable c] {a b:Option α} {Q:α→Prop}:Ret (if c then a else b) Q=((c→Ret a Q)∧(¬ c→Ret b Q)):=by
 split<;>simp_all
theorem Q3 {α:Type} {l:List α} {i:Int} {Q:α→Prop}:Ret (getI l i) Q=(0≤i∧i < l.length∧∀ x,l[i.toNat]?=some x→Q x):=by
 cases i with
 | ofNat k=>
  simp only [Ret,getI]
  apply propext
  constructor
  ·rintro ⟨x,h1,h2⟩
   have:=(C2.1 h1).1
   refine ⟨Int.natCast_nonneg k,by simpa using this,fun y hy=>?_⟩
   have:l[k]?=some y:=hy
   rw [h1] at this; cases this; exact h2
  ·rintro ⟨_,h1,h2⟩
   have VD:k < l.length:=by simpa using h1
   exact ⟨l[k],by simp [VD],h2 _ (by simp [VD])⟩
 | negSucc k=>simp only [Ret,getI]; apply propext; constructor; rintro ⟨x,h,_⟩; cases h; rintro ⟨h,_⟩; omega
theorem V7 {α:Type} {l:List α} {i:Int} {z:α} {Q:List α→Prop}:Ret (setI l i z) Q=(0≤i∧i < l.length∧Q (l.set i.toNat z)):=by
 cases i with
 | ofNat k=>
  simp only [Ret,setI]
  by_cases h:k < l.length
  ·simp [h]
  ·simp [h]
 | negSucc k=>simp only [Ret,setI]; apply propext; constructor; rintro ⟨x,h,_⟩; cases h; rintro ⟨h,_⟩; omega
theorem s5 {α:Type} {l m:List α} {Q:List α→Prop}:Ret (app l m) Q=(l.length+m.length≤1099511627776∧Q (l++m)):=by
 unfold app BIG Ret
 by_cases h:((l.length+m.length:Nat):Int)≤1099511627776
 ·rw [I0 h]; simp; omega
 ·rw [J0 h]; simp; omega
theorem A7 {α:Type} {z:α} {n:Int} {Q:List α→Prop}:Ret (mkL z n) Q=(0≤n∧n≤1099511627776∧Q (List.replicate n.toNat z)):=by
 unfold mkL BIG Ret
 by_cases h:0≤n∧n≤1099511627776
 ·rw [I0 h]; simp [h]
 ·rw [J0 h]; simp; omega
theorem Ae {α:Type} {l:List α} {lo hi:Int} {Q:List α→Prop}:Ret (sli l lo hi) Q=(0≤lo∧lo≤hi∧hi≤l.length∧Q ((l.take hi.toNat).drop lo.toNat)):=by
 unfold sli subL Ret
 by_cases h:0≤lo∧lo≤hi∧hi≤l.length
 ·rw [I0 h]; simp [h]
 ·rw [J0 h]; simp; omega
theorem Nx {x y:Int} {Q:Int→Prop}:Ret (wr x y) Q=(y≠0∧Q (x.tmod y)):=by
 unfold wr Ret
 by_cases h:y=0
 ·simp [h]
 ·simp [h]
theorem Ox {k:IntKind} {x y:Int} {Q:Int→Prop}:Ret (wq k x y) Q=(y≠0∧Q (k.wrap (x.tdiv y))):=by
 unfold wq Ret
 by_cases h:y=0
 ·simp [h]
 ·simp [h]
theorem Ret.mono {α:Type} {m:Option α} {P Q:α→Prop} (h:Ret m P) (h':∀ x,P x→Q x):Ret m Q:=by
 obtain ⟨x,h1,h2⟩:=h; exact ⟨x,h1,h' x h2⟩
theorem lu {α β:Type} {m:Option α} {f:α→Option β} {P:α→Prop} {Q:β→Prop} (h:Ret m P) (g:∀ x,P x→Ret (f x) Q):Ret (m.bind f) Q:=by rw [O0]; exact h.mono g
theorem U1 {α:Type} {m:Option α} {x:α} (h:m=some x) {Q:α→Prop}:Ret m Q=Q x:=by rw [h,K0]
theorem Ret.eq {α:Type} {m:Option α} {x:α} (h:Ret m (fun y=>y=x)):m=some x:=by
 obtain ⟨y,h1,h2⟩:=h; rw [h1,h2]
theorem Y4 {α:Type} {m:Option α} {P Q:α→Prop} (h:Ret m P) (h':∀ x,P x→Q x):Ret m Q:=h.mono h'
theorem Q0 {τ ρ:Type} {step:τ→Option (τ⊕ρ)} {Post:ρ→Prop} (n:Nat) (I:Nat→τ→Prop) {s:τ} (h0:I 0 s)
  (h:∀ k t,k≤n→I k t→Ret (step t) (VQ (fun t'=>k < n∧I (k+1) t') Post)) (hn:n < 9223372036854775808:=by omega):Ret (loop step s) Post:=by
 have key:∀ (m k:Nat) (t:τ) (fuel:Nat),k+m=n→m < fuel→I k t→Ret (loopN step fuel t) Post:=by
  intro m
  induction m with
  | zero=>
   intro k t fuel hk hf hI
   obtain ⟨r,h1,h2⟩:=h k t n0 hI
   cases fuel with
   | zero=>omega
   | succ fuel=>
    cases r with
    | inl t'=>exact absurd h2.1 n0
    | inr o=>exact ⟨o,by simp [loopN,h1],h2⟩
  | succ m ih=>
   intro k t fuel hk hf hI
   obtain ⟨r,h1,h2⟩:=h k t n0 hI
   cases fuel with
   | zero=>omega
   | succ fuel=>
    cases r with
    | inl t'=>
     obtain ⟨o,h3,h4⟩:=ih (k+1) t' fuel n0 n0 h2.2
     exact ⟨o,by simp [loopN,h1,h3],h4⟩
    | inr o=>exact ⟨o,by simp [loopN,h1],h2⟩
 exact key n 0 s FUEL n0 (by unfold FUEL; omega) h0
theorem Q2 {x y:Int} (h1: -9223372036854775808≤x+y) (h2:x+y≤9223372036854775807):wa .i64 x y=x+y:=IntWalk.i64_in _ ⟨h1,h2⟩
theorem ku {k:Nat} (h:(k:Int)+1≤9223372036854775807:=by omega):wa .i64 (k:Int) 1=((k+1:Nat):Int):=by rw [Q2 n0 h]; rfl
theorem H3 {x y:Int} (h1: -9223372036854775808≤x - y) (h2:x - y≤9223372036854775807):ws .i64 x y=x - y:=IntWalk.i64_in _ ⟨h1,h2⟩
theorem Ka {x y:Int} (h1: -9223372036854775808≤x*y) (h2:x*y≤9223372036854775807):wm .i64 x y=x*y:=IntWalk.i64_in _ ⟨h1,h2⟩
attribute [grind =] Q2 H3
theorem mts {α:Type} {l:List α} {k:Nat} {x y:α} (h:l[k]?=some x):y∈l.take (k+1)↔y∈l.take k∨y=x:=by
 simp [xa,h]
theorem Fe {α:Type} {l:List α} {k:Nat} {y:α}:y∈l.take (k+1)↔y∈l.take k∨l[k]?=some y:=by
 cases h:l[k]? with
 | none=>simp [xa,h]
 | some x=>simp [xa,h,eq_comm]
attribute [grind =] Fe
theorem Zv {w:Int}:0≤w→(w.toNat:Int)=w:=fun h=>z8 h
attribute [grind! .] Zv
theorem tks {α:Type} {l:List α} {k:Nat} {x:α} (h:l[k]?=some x):l.take (k+1)=l.take k++[x]:=by
 simp [xa,h]
theorem X2 {α:Type} {l:List α} {k:Nat} {x:α} (h:l[k]?=some x):x∈l:=Qf h
attribute [grind →] X2
theorem O3 {α:Type} {l:List α} {k:Nat} (h:l.length≤k):l.take k=l:=P4 h
abbrev vcC:=And.intro @O0 <| And.intro @C1 <| And.intro @Q3 <| And.intro @V7 <| And.intro @s5 <| And.intro @A7 <| And.intro @Ae <| And.intro @Nx <| And.intro @Ox <| And.intro @K0 <| And.intro @T0 <| And.intro @E1 <| And.intro @H1 <| And.intro @if_true.{1} <| And.intro @if_false.{1} <| And.intro @obs <| And.intro @decide_false <| And.intro @decide_true <| And.intro @U4 <| And.intro @Bool.not_false <| And.intro @not_true_eq_false <| And.intro @not_false_eq_true <| And.intro @true_implies @false_implies
abbrev vcD:=And.intro @vcC <| And.intro @true_and <| And.intro @and_true <| And.intro @false_and <| And.intro @or_false @false_or
end Vc
/- Plain facts on loops, lists and bounded integers, for laws over models. -/
namespace Pl
open Sx Go
theorem Y9 {α:Type} (l:List α) (k:Nat):getI l (k:Int)=l[k]?:=rfl
theorem Sw {α:Type} (l:List α) (k:Nat) (z:α):setI l (k:Int) z=if k < l.length then some (l.set k z) else none:=rfl
theorem setI_lt {α:Type} {l:List α} {k:Nat} {z:α} (h:k < l.length):setI l (k:Int) z=some (l.set k z):=by rw [Sw,I0 h]
theorem getI_lt {α:Type} {l:List α} {k:Nat} (h:k < l.length):getI l (k:Int)=some l[k]:=by rw [Y9]; simp [h]
theorem getI_of {α:Type} {l:List α} {q:Int} {z:α} (hq:0≤q) (h:l[q.toNat]?=some z):getI l q=some z:=by
 obtain ⟨k,rfl⟩:=D3 hq
 rw [Y9]; simpa using h
theorem app_small {α:Type} {l m:List α} (h:l.length+m.length≤1099511627776):app l m=some (l++m):=by
 unfold app BIG; rw [B0]
theorem G4 {α:Type} (z:α) (n:Nat) (h:n≤1099511627776):mkL z (n:Int)=some (List.replicate n z):=by
 unfold mkL BIG; rw [B0]; simp
def InW (n:Int):Prop:=-9223372036854775808≤n∧n≤9223372036854775807
theorem wa_in {x y:Int} (h:InW (x+y)):wa .i64 x y=x+y:=IntWalk.i64_in _ h
theorem ws_in {x y:Int} (h:InW (x - y)):ws .i64 x y=x - y:=IntWalk.i64_in _ h
theorem wm_in {x y:Int} (h:InW (x*y)):wm .i64 x y=x*y:=IntWalk.i64_in _ h
theorem wa1 {k:Nat} (h:k < 4611686018427387904):wa .i64 (k:Int) 1=((k+1:Nat):Int):=by rw [wa_in (by constructor<;>omega)]; rfl
theorem n9 {τ σ ρ:Type} {step:τ→Option (τ⊕ρ)} (mk:Nat→σ→τ) (n:Nat) (hn:n < 1000000000) (I:Nat→σ→Prop) (Post:ρ→Prop) {s0:σ} (h0:I 0 s0)
  (JI:∀ k s,k < n→I k s→(∃ s',step (mk k s)=some (.inl (mk (k+1) s'))∧I (k+1) s')∨(∃ o,step (mk k s)=some (.inr o)∧Post o))
  (PF:∀ s,I n s→∃ o,step (mk n s)=some (.inr o)∧Post o):∃ o,loop step (mk 0 s0)=some o∧Post o:=by
 have key:∀ (m k:Nat) (s:σ) (fuel:Nat),k+m=n→m < fuel→I k s→∃ o,loopN step fuel (mk k s)=some o∧Post o:=by
  intro m
  induction m with
  | zero=>
   intro k s fuel hk hf hI
   obtain rfl:k=n:=n0
   obtain ⟨o,h1,h2⟩:=PF s hI
   cases fuel with
   | zero=>omega
   | succ fuel=>exact ⟨o,by simp [loopN,h1],h2⟩
  | succ m ih=>
   intro k s fuel hk hf hI
   cases fuel with
   | zero=>omega
   | succ fuel=>
    rcases JI k s n0 hI with ⟨s',h1,h2⟩ | ⟨o,h1,h2⟩
    ·obtain ⟨o,h3,h4⟩:=ih (k+1) s' fuel n0 n0 h2
     exact ⟨o,by simp [loopN,h1,h3],h4⟩
    ·exact ⟨o,by simp [loopN,h1],h2⟩
 exact key n 0 s0 FUEL n0 (by unfold FUEL; omega) h0
theorem M9 {τ ρ:Type} {step:τ→Option (τ⊕ρ)} (I:τ→Prop) (Post:ρ→Prop) (μ:τ→Nat) {s:τ} (hs:I s) (hμ:μ s < 1000000000)
  (h:∀ s,I s→(∃ s',step s=some (.inl s')∧I s'∧μ s' < μ s)∨(∃ o,step s=some (.inr o)∧Post o)):∃ o,loop step s=some o∧Post o:=by
 refine Nz I Post μ hs (by unfold FUEL; omega) fun s hI=>?_
 rcases h s hI with ⟨s',h1,h2,h3⟩ | ⟨o,h1,h2⟩
 ·exact ⟨_,h1,h2,h3⟩
 ·exact ⟨_,h1,h2⟩
theorem bindS {α β:Type} {e:Option α} {f:α→Option β} {x:α} (h:e=some x):e.bind f=f x:=by rw [h]; rfl
theorem Qa {α:Type} {l:List α} {k:Nat} (h:k < l.length):l.take (k+1)=l.take k++[l[k]]:=by
 rw [List.take_succ_eq_append_getElem h]
open M
theorem dc {L:LI} (h:L.Nodup) {i j:Nat} {hi:i < L.length} {hj:j < L.length} (he:L[i]=L[j]):i=j:=by
 have h1:=J8.1 h
 by_cases cE:i=j
 ·exact cE
 ·rcases Nat.lt_or_gt_of_ne cE with h2 | h2
  ·exact absurd he (h1 i j hi hj h2)
  ·exact absurd he.symm (h1 j i hj hi h2)
theorem bc {L:LI} (h:L.Nodup) {k:Nat} (hk:k < L.length):L[k]∉L.take k:=by
 intro hm
 rw [At] at hm
 obtain ⟨i,hi,he⟩:=hm
 rw [List.getElem_take] at he
 have:=dc h he
 simp at hi
 omega
structure Gr (adj:L2):Prop where
 asc:∀ (v:Nat) l,adj[v]?=some l→l.Pairwise (· < ·)
 rng:∀ (v:Nat) l x,adj[v]?=some l→x∈l→0≤x∧x < adj.length∧x≠(v:Int)
 sym:∀ (v:Nat) l x,adj[v]?=some l→x∈l→∃ m,adj[x.toNat]?=some m∧(v:Int)∈m
def nbr (b:Nat→Nat→Bool) (k:Nat):Nat→LI
 | 0=>[]
 | m+1=>nbr b k m++(if k≠m∧(b k m=true∨b m k=true) then [(m:Int)] else [])
theorem HD {b:Nat→Nat→Bool} {k:Nat} {x:Int}:∀ m,x∈nbr b k m↔0≤x∧x.toNat < m∧k≠x.toNat∧(b k x.toNat=true∨b x.toNat k=true):=by
 intro m
 induction m with
 | zero=>simp [nbr]
 | succ m ih=>
  rw [nbr,I2,ih]
  constructor
  ·rintro (h | h)
   ·exact ⟨h.1,n0,h.2.2⟩
   ·split at h
    ·rename_i hc
     simp at h; subst h
     exact ⟨n0,n0,by simpa using hc⟩
    ·simp at h
  ·rintro ⟨h1,h2,h3⟩
   by_cases hx:x.toNat=m
   ·right
    rw [hx] at h3
    rw [I0 h3]
    simp; omega
   ·exact .inl ⟨h1,n0,h3⟩
theorem gA (x:Int):m_d4 x=some false:=by unfold m_d4; simp
theorem Yp (x y:Int):m_da x y=some (decide (x < y)):=by
 unfold m_da m_c9; simp
theorem y9 {l:LI} (h:l.Pairwise (· < ·)) {i j:Nat} (hj:j < l.length) (cE:i < j):l[i] < l[j]:=
 J8.1 h i j n0 hj cE
theorem mid_ok (a b:Nat) (h:a < b) (hb:b < 1000000):wc .i64 (wsrc .u64 (wc .u64 (wa .i64 (a:Int) (b:Int))) 1)=(((a+b) / 2:Nat):Int):=by
 rw [wa_in (by constructor<;>omega)]
 have h1:wc .u64 ((a:Int)+(b:Int))=(a:Int)+(b:Int):=IntWalk.u64_in _ n0
 rw [h1]
 have h2:wsrc .u64 ((a:Int)+(b:Int)) 1=(((a+b) / 2:Nat):Int):=by
  unfold wsrc
  have:(2:Int) ^ min 1 IntKind.u64.bits=2:=by rfl
  rw [this,I9 _ n0]
  omega
 rw [h2]
 exact IntWalk.i64_in _ n0
theorem Eo {l:LI} (h:l.Pairwise (· < ·)) (hl:l.length < 1000000) (x:Int):∃ i,m_d7 l x=some (i,decide (x∈l)):=by
 unfold m_d7
 obtain ⟨o,h1,h2⟩:=M9 (step:=m_d6 l x) (s:=(0,(l.length:Int)))
   (fun s=>∃ a b:Nat,s=((a:Int),(b:Int))∧a≤b∧b≤l.length∧(∀ i,∀ hi:i < l.length,i < a→l[i] < x)∧(∀ i,∀ hi:i < l.length,b≤i→x≤l[i]))
   (fun o=>∃ a:Nat,o=(a:Int)∧a≤l.length∧(∀ i,∀ hi:i < l.length,i < a→l[i] < x)∧(∀ i,∀ hi:i < l.length,a≤i→x≤l[i])) (fun s=>(s.2 - s.1).toNat)
   ⟨0,l.length,rfl,n0,n0,fun i _ h=>n0,fun i _ h=>n0⟩ (by simp only; omega) (by
   rintro s ⟨a,b,rfl,nE,hb,oE,mE⟩
   unfold m_d6
   simp only
   by_cases hc:a < b
   ·have hm:(a+b) / 2 < l.length:=n0
    rw [B0,mid_ok a b hc n0,bindS (getI_lt hm),bindS (Yp _ _)]
    unfold m_d5
    by_cases hlt:l[(a+b) / 2] < x
    ·rw [I0 (by simpa using hlt),wa1 n0]
     refine .inl ⟨_,rfl,⟨(a+b) / 2+1,b,rfl,n0,hb,fun i hi dB=>?_,mE⟩,by simp only; omega⟩
     by_cases he:i=(a+b) / 2
     ·subst he; exact hlt
     ·have:=y9 h hm (i:=i) n0
      omega
    ·rw [J0 (by simpa using hlt)]
     refine .inl ⟨_,rfl,⟨a,(a+b) / 2,rfl,n0,n0,oE,fun i hi dB=>?_⟩,by simp only; omega⟩
     by_cases he:i=(a+b) / 2
     ·subst he; omega
     ·have:=y9 h hi (i:=(a+b) / 2) n0
      omega
   ·rw [A0]
    exact .inr ⟨_,rfl,a,rfl,n0,oE,fun i hi dB=>mE i hi n0⟩)
 rw [bindS h1]
 obtain ⟨a,rfl,bD,oE,ZE⟩:=h2
 by_cases hc:a < l.length
 ·rw [B0,bindS (getI_lt hc)]
  by_cases he:l[a]=x
  ·rw [I0 he]
   refine ⟨(a:Int),?_⟩
   have:x∈l:=he▸Z1 hc
   simp [this]
  ·rw [J0 he,bindS (getI_lt hc),bindS (gA _)]
   refine ⟨(a:Int),?_⟩
   have:x∉l:=by
    intro hm
    rw [At] at hm
    obtain ⟨i,hi,hx⟩:=hm
    rcases Nat.lt_trichotomy i a with h3 | h3 | h3
    ·have:=oE i hi h3; omega
    ·subst h3; exact he hx
    ·have:=y9 h hi h3
     have:=ZE a hc (O4 _)
     omega
   simp [this]
 ·rw [A0]
  refine ⟨(a:Int),?_⟩
  have:x∉l:=by
   intro hm
   rw [At] at hm
   obtain ⟨i,hi,hx⟩:=hm
   have:=oE i hi n0; omega
  simp [this]
theorem Th {adj:L2} (hG:Gr adj) {v:Int} {l:LI} (hv:getI adj v=some l) (uE:0≤v) (hl:l.length < 1000000) (x:Int):m_d8 adj v x=some (decide (x∈l)):=by
 unfold m_d8
 rw [bindS hv]
 have WD:adj[v.toNat]?=some l:=by
  obtain ⟨k,rfl⟩:=D3 uE
  exact hv
 obtain ⟨i,h⟩:=Eo (hG.asc _ _ WD) hl x
 rw [bindS h]
theorem HC {l:LI} {n:Nat} (h:l.Pairwise (· < ·)) (hr:∀ x,x∈l→0≤x∧x < n) (hl:l.length < 1000000):m_d3 l (n:Int)=some true:=by
 unfold m_d3
 obtain ⟨o,h1,h2⟩:=n9 (step:=m_d2 l (n:Int)) (fun k (s:Int)=>(s,(k:Int))) l.length n0 (fun k s=>∀ i,∀ hi:i < l.length,k≤i→s < l[i])
   (fun o=>o=.inl ()) (s0:=-1) (fun i hi _=>by have:=hr _ (Z1 hi); omega) (by
    intro k s hk hI
    have h3:=hr _ (Z1 hk)
    have h4:=hI k hk (O4 _)
    unfold m_d2
    simp only
    rw [B0,bindS (getI_lt hk),J0 (by simp; omega),wa1 n0]
    exact .inl ⟨_,rfl,fun i hi zy=>y9 h hi n0⟩) (by
    intro s hI
    unfold m_d2
    simp only
    rw [A0]
    exact ⟨_,rfl,rfl⟩)
 have VD:loop (m_d2 l (n:Int)) (-1,0)=some o:=h1
 rw [bindS VD,h2]
theorem asc_len {l:LI} {n:Nat} (h:l.Pairwise (· < ·)) (hr:∀ x,x∈l→0≤x∧x < n):l.length≤n:=by
 have key:∀ i,∀ hi:i < l.length,(i:Int)≤l[i]:=by
  intro i
  induction i with
  | zero=>intro hi; have:=hr _ (Z1 hi); omega
  | succ i ih=>
   intro hi
   have h1:=ih n0
   have h2:=y9 h hi (i:=i) n0
   omega
 by_cases h0:l.length=0
 ·omega
 ·have h1:=key (l.length - 1) n0
  have h2:=hr _ (Z1 (show l.length - 1 < l.length by omega))
  omega
theorem Gr.len {adj:L2} (hG:Gr adj) {v:Nat} {l:LI} (h:adj[v]?=some l):l.length≤adj.length:=
 asc_len (hG.asc v l h) (fun x hx=>⟨(hG.rng v l x h hx).1,(hG.rng v l x h hx).2.1⟩)
theorem F8 {adj:L2} (hG:Gr adj) (hn:adj.length≤200):m_ec adj=some 0:=by
 unfold m_ec
 rw [A0]
 obtain ⟨o,h1,h2⟩:=n9 (step:=m_eb adj) (fun k (_:Unit)=>(k:Int)) adj.length n0 (fun k _=>True)
   (fun o=>o=.inl ()) (s0:=()) trivial (by
    intro k _ hk _
    have hg:adj[k]?=some adj[k]:=by simp [hk]
    have hlen:=hG.len hg
    have h3:=HC (n:=adj.length) (hG.asc k _ hg) (fun x hx=>⟨(hG.rng k _ x hg hx).1,(hG.rng k _ x hg hx).2.1⟩) n0
    have h4:=Th hG (getI_lt hk) n0 n0 (k:Int)
    have h5:(k:Int)∉adj[k]:=fun hm=>(hG.rng k _ _ hg hm).2.2 rfl
    unfold m_eb
    rw [B0,bindS (getI_lt hk),bindS h3,I0 rfl,bindS h4]
    simp only [h5,decide_false,y6,D2,if_false]
    rw [wa1 n0]
    exact .inl ⟨(),rfl,trivial⟩) (by
    intro _ _
    unfold m_eb
    rw [A0]
    exact ⟨_,rfl,rfl⟩)
 have VD:loop (m_eb adj) 0=some o:=h1
 rw [bindS VD,h2]
 simp only
 obtain ⟨o,h1,h2⟩:=n9 (step:=m_ea adj) (fun k (_:Unit)=>(k:Int)) adj.length n0 (fun k _=>True)
   (fun o=>o=.inl ()) (s0:=()) trivial (by
    intro k _ hk _
    have hg:adj[k]?=some adj[k]:=by simp [hk]
    have hlen:=hG.len hg
    obtain ⟨o,h1,h2⟩:=n9 (step:=m_d9 adj[k] adj (k:Int)) (fun j (_:Unit)=>(j:Int)) adj[k].length n0 (fun j _=>True)
     (fun o=>o=.inl ()) (s0:=()) trivial (by
      intro j _ hj _
      have hr:=hG.rng k _ _ hg (Z1 hj)
      obtain ⟨m,sF,Eu⟩:=hG.sym k _ _ hg (Z1 hj)
      have Ev:=hG.len sF
      have h4:=Th hG (getI_of hr.1 sF) hr.1 n0 (k:Int)
      unfold m_d9
      rw [B0,bindS (getI_lt hj),bindS h4,I0 (by simpa using Eu),wa1 n0]
      exact .inl ⟨(),rfl,trivial⟩) (by
      intro _ _
      unfold m_d9
      rw [A0]
      exact ⟨_,rfl,rfl⟩)
    have VD:loop (m_d9 adj[k] adj (k:Int)) 0=some o:=h1
    unfold m_ea
    rw [B0,bindS (getI_lt hk),bindS VD,h2]
    simp only
    rw [wa1 n0]
    exact .inl ⟨(),rfl,trivial⟩) (by
    intro _ _
    unfold m_ea
    rw [A0]
    exact ⟨_,rfl,rfl⟩)
 have VD:loop (m_ea adj) 0=some o:=h1
 rw [bindS VD,h2]
theorem mh {l:LI} (hl:l.length≤30):∃ m,sortI l=some m∧m.Perm l∧m.Pairwise (·≤·):=by
 unfold sortI BIG
 rw [B0]
 exact ⟨_,rfl,Te l,Uh l⟩
theorem T9:∀ (n:Nat) (l:LI),l.Nodup→(∀ x,x∈l→0≤x∧x < n)→l.length≤n:=by
 intro n
 induction n with
 | zero=>
  intro l _ h
  cases l with
  | nil=>simp
  | cons x l=>have:=h x G0; omega
 | succ n ih=>
  intro l hd h
  have h1:=ih (l.filter (fun x=>decide (x≠(n:Int)))) (hd.filter _) (fun x hx=>by
   rw [n7] at hx
   have h2:=h x hx.1
   have h3:x≠(n:Int):=by simpa using hx.2
   omega)
  have h2:=List.nodup_iff_count.1 hd (n:Int)
  have h3:=List.length_eq_countP_add_countP (fun x=>decide (x≠(n:Int))) (l:=l)
  rw [nD] at h3
  have h4:List.countP (fun a=>decide (¬ (decide (a≠(n:Int)))=true)) l=l.count (n:Int):=by
   unfold List.count
   refine List.countP_congr fun x _=>?_
   simp
  omega
def nbp (adj:L2) (v w:Nat):Prop:=∃ l,adj[v]?=some l∧(w:Int)∈l
structure IN (adj:L2) (lev:Nat→Nat) (now:LI) (seen:BL) (next:LI):Prop where
 len:seen.length=adj.length
 see:∀ u:Nat,u < adj.length→seen[u]?=some (decide (lev u≠0∨(u:Int)∈next))
 nd:next.Nodup
 new:∀ x,x∈next→0≤x∧x < adj.length∧lev x.toNat=0∧∃ v:Nat,(v:Int)∈now∧nbp adj v x.toNat
theorem EC {adj:L2} (hG:Gr adj) (hn:adj.length≤30) {lev:Nat→Nat} {now:LI} {v:Nat} {l:LI} (hv:adj[v]?=some l) (Sz:(v:Int)∈now) {seen:BL} {next:LI} (h:IN adj lev now seen next):
  ∃ s:BL×LI,loop (m_eo l) (seen,next,0)=some s∧IN adj lev now s.1 s.2∧(∀ x,x∈next→x∈s.2)∧∀ w:Nat,(w:Int)∈l→lev w≠0∨(w:Int)∈s.2:=by
 have hlen:=hG.len hv
 obtain ⟨o,h1,h2⟩:=n9 (step:=m_eo l) (fun k (s:BL×LI)=>(s.1,s.2,(k:Int))) l.length n0
  (fun k s=>IN adj lev now s.1 s.2∧(∀ x,x∈next→x∈s.2)∧∀ w:Nat,(w:Int)∈l.take k→lev w≠0∨(w:Int)∈s.2)
  (fun s=>IN adj lev now s.1 s.2∧(∀ x,x∈next→x∈s.2)∧∀ w:Nat,(w:Int)∈l→lev w≠0∨(w:Int)∈s.2) (s0:=(seen,next)) ⟨h,fun _ h=>h,fun w hw=>by simp at hw⟩ (by
   rintro k ⟨seen,nx⟩ hk ⟨hI,hs,hd⟩
   simp only at hI hs hd
   have hr:=hG.rng v _ _ hv (Z1 hk)
   obtain ⟨w,hw⟩:=D3 hr.1
   have rN:w < adj.length:=n0
   have kv:(w:Int)∈l:=hw▸Z1 hk
   have iO:getI seen (w:Int)=some (decide (lev w≠0∨(w:Int)∈nx)):=hI.see w rN
   have oJ:=T9 adj.length nx hI.nd (fun x hx=>⟨(hI.new x hx).1,(hI.new x hx).2.1⟩)
   have UI:=hI.len
   unfold m_eo
   simp only
   rw [B0,bindS (getI_lt hk),hw,bindS iO]
   unfold m_en
   by_cases hc:lev w≠0∨(w:Int)∈nx
   ·rw [I0 (by simpa using hc),wa1 n0]
    refine .inl ⟨(seen,nx),rfl,hI,hs,fun u hu=>?_⟩
    rw [Qa hk,I2,Z2,hw] at hu
    rcases hu with hu | hu
    ·exact hd u hu
    ·obtain rfl:u=w:=n0
     exact hc
   ·rw [J0 (by simpa using hc),bindS (setI_lt n0),bindS (app_small (by simp; omega)),wa1 n0]
    have cx:lev w=0:=by
     by_cases h:lev w=0
     ·exact h
     ·exact absurd (.inl h) hc
    have uv:(w:Int)∉nx:=fun h=>hc (.inr h)
    refine .inl ⟨(seen.set w true,nx++[(w:Int)]),rfl,⟨by simp [UI],fun u hu=>?_,?_,fun x hx=>?_⟩,fun x hx=>by simp [hs x hx],fun u hu=>?_⟩
    ·rw [B3]
     by_cases TJ:w=u
     ·subst TJ
      rw [I0 rfl,B0]; simp
     ·rw [J0 TJ,hI.see u hu]
      have:¬ (u:Int)=(w:Int):=n0
      simp [this]
    ·rw [K8]
     refine ⟨hI.nd,G0,fun a ha b hb=>?_⟩
     simp at hb; subst hb
     rintro rfl; exact uv ha
    ·rw [I2,Z2] at hx
     rcases hx with hx | hx
     ·exact hI.new x hx
     ·subst hx
      exact ⟨n0,n0,by simpa using cx,v,Sz,l,hv,by simpa using kv⟩
    ·rw [Qa hk,I2,Z2,hw] at hu
     rcases hu with hu | hu
     ·rcases hd u hu with h | h
      ·exact .inl h
      ·exact .inr (by simp [h])
     ·obtain rfl:u=w:=n0
      exact .inr G0) (by
   rintro ⟨seen,nx⟩ ⟨hI,hs,hd⟩
   unfold m_eo
   simp only
   rw [A0]
   exact ⟨_,rfl,hI,hs,fun w hw=>hd w (by rwa [P4 (O4 _)])⟩)
 exact ⟨o,h1,h2⟩
theorem DC {adj:L2} (hG:Gr adj) (hn:adj.length≤30) {lev:Nat→Nat} {now:LI} (dx:∀ x,x∈now→0≤x∧x < adj.length) (oJ:now.length≤1000) {seen:BL} (hs:seen.length=adj.length) (hg:∀ u:Nat,u < adj.length→seen[u]?=some (decide (lev u≠0))):
  ∃ s:BL×LI,loop (m_ep now adj) (seen,[],0)=some s∧IN adj lev now s.1 s.2∧∀ v w:Nat,(v:Int)∈now→nbp adj v w→lev w≠0∨(w:Int)∈s.2:=by
 obtain ⟨o,h1,h2⟩:=n9 (step:=m_ep now adj) (fun k (s:BL×LI)=>(s.1,s.2,(k:Int))) now.length n0
  (fun k s=>IN adj lev now s.1 s.2∧∀ v w:Nat,(v:Int)∈now.take k→nbp adj v w→lev w≠0∨(w:Int)∈s.2)
  (fun s=>IN adj lev now s.1 s.2∧∀ v w:Nat,(v:Int)∈now→nbp adj v w→lev w≠0∨(w:Int)∈s.2) (s0:=(seen,[])) ⟨⟨hs,fun u hu=>by rw [hg u hu]; simp,G0,fun x hx=>by simp at hx⟩,fun v w hv=>by simp at hv⟩ (by
   rintro k ⟨seen,nx⟩ hk ⟨hI,hd⟩
   simp only at hI hd
   have hr:=dx _ (Z1 hk)
   obtain ⟨v,hv⟩:=D3 hr.1
   have xv:v < adj.length:=n0
   have mM:adj[v]?=some adj[v]:=by simp [xv]
   obtain ⟨s,k1,k2,k3,k4⟩:=EC hG hn mM (hv▸Z1 hk) hI
   unfold m_ep
   simp only
   rw [B0,bindS (getI_lt hk),hv,bindS (getI_lt xv),bindS k1,wa1 n0]
   refine .inl ⟨s,rfl,k2,fun u w hu hw=>?_⟩
   rw [Qa hk,I2,Z2,hv] at hu
   rcases hu with hu | hu
   ·exact (hd u w hu hw).imp id (k3 _)
   ·obtain rfl:u=v:=n0
    obtain ⟨l,h3,h4⟩:=hw
    rw [mM] at h3
    have:=P1 h3
    subst this
    exact k4 w h4) (by
   rintro ⟨seen,nx⟩ ⟨hI,hd⟩
   unfold m_ep
   simp only
   rw [A0]
   exact ⟨_,rfl,hI,fun v w hv hw=>hd v w (by rwa [P4 (O4 _)]) hw⟩)
 exact ⟨o,h1,h2⟩
structure BF (adj:L2) (root:Nat) (lev:Nat→Nat) (seen:BL) (out:L2) (now:LI):Prop where
 len:seen.length=adj.length
 see:∀ u:Nat,u < adj.length→seen[u]?=some (decide (lev u≠0))
 lst:∀ (k:Nat) (l:LI),(out++[now])[k]?=some l→l.Pairwise (· < ·)∧(∀ x,x∈l→0≤x∧x < adj.length)∧∀ u:Nat,u < adj.length→((u:Int)∈l↔lev u=k+1)
 top:∀ u:Nat,u < adj.length→lev u≤out.length+1
 ne:∀ l,l∈out→l≠[]
 rt:∀ u:Nat,u < adj.length→(lev u=1↔u=root)
 edge:∀ v w:Nat,v < adj.length→nbp adj v w→lev v≠0→lev v≤out.length→lev w≠0∧lev w≤lev v+1
 back:∀ u:Nat,u < adj.length→2≤lev u→∃ w:Nat,w < adj.length∧nbp adj w u∧lev w+1=lev u
theorem BF.count {adj:L2} {root:Nat} {lev:Nat→Nat} {seen:BL} {out:L2} {now:LI} (h:BF adj root lev seen out now):out.length≤adj.length:=by
 have hex:∀ k,k < out.length→∃ u:Nat,u < adj.length∧lev u=k+1:=by
  intro k hk
  have hg:(out++[now])[k]?=some out[k]:=by rw [O6 hk]; simp [hk]
  have Bu:=h.ne _ (Z1 hk)
  obtain ⟨x,hx⟩:=List.exists_mem_of_ne_nil _ Bu
  have h1:=h.lst k _ hg
  have h2:=h1.2.1 x hx
  refine ⟨x.toNat,n0,(h1.2.2 x.toNat n0).1 ?_⟩
  rwa [show ((x.toNat:Nat):Int)=x by omega]
 have DE:∀ k,∃ u:Nat,k < out.length→(u < adj.length∧lev u=k+1):=by
  intro k
  by_cases hk:k < out.length
  ·obtain ⟨u,hu⟩:=hex k hk; exact ⟨u,fun _=>hu⟩
  ·exact ⟨0,fun h=>absurd h hk⟩
 have h3:=T9 adj.length ((List.range out.length).map fun k=>((Classical.choose (DE k):Nat):Int)) (by
  rw [Pc,lj,J8]
  intro i j hi hj cE
  simp at hi hj
  have a1:=vd (DE i) hi
  have a2:=vd (DE j) hj
  simp only [List.getElem_range]
  intro he
  have:Classical.choose (DE i)=Classical.choose (DE j):=n0
  rw [this] at a1
  omega) (fun x hx=>by
  rw [Z5] at hx
  obtain ⟨k,hk,rfl⟩:=hx
  have a1:=vd (DE k) (by simpa using hk)
  omega)
 simpa using h3
theorem Oi {m:LI} (h1:m.Pairwise (·≤·)) (h2:m.Nodup):m.Pairwise (· < ·):=by
 rw [J8] at h1 ⊢
 intro i j hi hj cE
 have:=h1 i j hi hj cE
 by_cases he:m[i]=m[j]
 ·have:=dc h2 he; omega
 ·omega
theorem BF.step {adj:L2} (hG:Gr adj) (hn:adj.length≤30) {root:Nat} {lev:Nat→Nat} {seen:BL} {out:L2} {now:LI} (h:BF adj root lev seen out now) (Bu:now≠[]):
  ∃ lev' seen' m,m_eq adj (seen,out,now)=some (.inl (seen',out++[now],m))∧BF adj root lev' seen' (out++[now]) m:=by
 have dx:=h.lst out.length now G0
 have oJ:=asc_len dx.1 dx.2.1
 have QG:=h.count
 obtain ⟨s,k1,k2,k3⟩:=DC hG hn dx.2.1 n0 h.len h.see
 have kx:=T9 adj.length s.2 k2.nd (fun x hx=>⟨(k2.new x hx).1,(k2.new x hx).2.1⟩)
 obtain ⟨m,m1,m2,m3⟩:=mh (l:=s.2) n0
 have kv:∀ x,x∈m↔x∈s.2:=fun x=>m2.mem_iff
 have eF:=Oi m3 (m2.nodup_iff.2 k2.nd)
 have bB:=G7.2 Bu
 refine ⟨fun u=>if (u:Int)∈m then out.length+2 else lev u,s.1,m,?_,?_⟩
 ·unfold m_eq
  simp only
  rw [B0,bindS (app_small (by simp; omega)),bindS k1,bindS m1]
 ·have aE:∀ u:Nat,(u:Int)∈m→u < adj.length∧lev u=0:=fun u hu=>by
   have:=k2.new _ ((kv _).1 hu)
   simp at this
   exact ⟨n0,this.2.1⟩
  have hL:∀ u:Nat,(u:Int)∉m→(if (u:Int)∈m then out.length+2 else lev u)=lev u:=fun u hu=>J0 hu
  have hM:∀ u:Nat,(u:Int)∈m→(if (u:Int)∈m then out.length+2 else lev u)=out.length+2:=fun u hu=>I0 hu
  refine ⟨k2.len,fun u hu=>?_,fun k l hk=>?_,fun u hu=>?_,fun l hl=>?_,fun u hu=>?_,fun v w hv hw h0 hle=>?_,fun u hu h2=>?_⟩
  ·rw [k2.see u hu]
   congr 1
   rw [decide_eq_decide]
   by_cases hm:(u:Int)∈m
   ·simp only [hM u hm]; simp [(kv _).1 hm]
   ·simp only [hL u hm]
    constructor
    ·rintro (h1 | h1)
     ·exact h1
     ·exact absurd ((kv _).2 h1) hm
    ·exact .inl
  ·by_cases JF:k < (out++[now]).length
   ·rw [O6 JF] at hk
    have h1:=h.lst k l hk
    refine ⟨h1.1,h1.2.1,fun u hu=>?_⟩
    rw [h1.2.2 u hu]
    simp at JF
    by_cases hm:(u:Int)∈m
    ·have hz:=(aE u hm).2
     simp only [hM u hm]; omega
    ·simp only [hL u hm]
   ·rw [F9 n0] at hk
    have:k - (out++[now]).length=0∧l=m:=by
     cases gM:k - (out++[now]).length with
     | zero=>rw [gM] at hk; simp at hk; exact ⟨rfl,hk.symm⟩
     | succ j=>rw [gM] at hk; simp at hk
    obtain ⟨h4,rfl⟩:=this
    simp at h4 JF
    refine ⟨eF,fun x hx=>?_,fun u hu=>?_⟩
    ·have:=k2.new x ((kv x).1 hx); exact ⟨this.1,this.2.1⟩
    ·by_cases hm:(u:Int)∈l
     ·simp only [hm]; simp; omega
     ·have:=h.top u hu
      simp only [hm]; simp; omega
  ·by_cases hm:(u:Int)∈m
   ·simp only [hM u hm]; simp
   ·have:=h.top u hu
    simp only [hL u hm]; simp; omega
  ·rw [I2,Z2] at hl
   rcases hl with hl | rfl
   ·exact h.ne l hl
   ·exact Bu
  ·by_cases hm:(u:Int)∈m
   ·have h1:=h.rt u hu
    simp only [hM u hm]
    have:=(aE u hm).2
    omega
   ·simp only [hL u hm]
    exact h.rt u hu
  ·by_cases hm:(v:Int)∈m
   ·simp only [hM v hm] at hle; simp at hle
   ·simp only [hL v hm] at h0 hle ⊢
    simp at hle
    by_cases YN:lev v≤out.length
    ·have h1:=h.edge v w hv hw h0 YN
     have AH:(w:Int)∉m:=fun Eu=>h1.1 (aE w Eu).2
     simp only [hL w AH]
     exact h1
    ·have Sz:(v:Int)∈now:=(dx.2.2 v hv).2 n0
     rcases k3 v w Sz hw with h1 | h1
     ·have AH:(w:Int)∉m:=fun Eu=>h1 (aE w Eu).2
      obtain ⟨l,h5,h6⟩:=hw
      have h7:=hG.rng v l _ h5 h6
      have:=h.top w n0
      simp only [hL w AH]
      omega
     ·simp only [hM w ((kv _).2 h1)]
      omega
  ·by_cases hm:(u:Int)∈m
   ·obtain ⟨_,_,_,v,h5,h6⟩:=k2.new _ ((kv _).1 hm)
    have h7:=dx.2.1 _ h5
    have h8:=(dx.2.2 v n0).1 h5
    have zN:(v:Int)∉m:=fun Eu=>by have:=(aE v Eu).2; omega
    refine ⟨v,n0,by simpa using h6,?_⟩
    simp only [hM u hm,hL v zN]
    omega
   ·simp only [hL u hm] at h2 ⊢
    obtain ⟨w,h5,h6,h7⟩:=h.back u hu h2
    have AH:(w:Int)∉m:=fun Eu=>by have:=(aE w Eu).2; omega
    exact ⟨w,h5,h6,by simp only [hL w AH]; exact h7⟩
theorem Xp {adj:L2} (hG:Gr adj) (hn:adj.length≤30) {root:Nat} (hr:root < adj.length):∃ out lev seen,m_er adj (root:Int)=some out∧BF adj root lev seen out []:=by
 unfold m_er
 rw [bindS (G4 false adj.length n0),bindS (setI_lt (by simp; omega))]
 obtain ⟨o,h1,h2⟩:=M9 (step:=m_eq adj) (s:=((List.replicate adj.length false).set root true,[],[(root:Int)]))
  (fun s=>∃ lev,BF adj root lev s.1 s.2.1 s.2.2) (fun o=>∃ lev seen,BF adj root lev seen o []) (fun s=>(adj.length+1 - s.2.1.length)*2+s.2.2.length.min 1)
  ⟨fun u=>if u=root then 1 else 0,by
   refine ⟨G0,fun u hu=>?_,fun k l hk=>?_,fun u hu=>?_,fun l hl=>by simp at hl,fun u hu=>?_,fun v w hv hw h0 hle=>?_,fun u hu h2=>?_⟩
   ·simp only [B3]
    by_cases h:root=u
    ·subst h; simp; omega
    ·rw [J0 h]; simp [hu,show ¬ u=root by omega]
   ·have:k=0∧l=[(root:Int)]:=by
     cases k with
     | zero=>simp at hk; exact ⟨rfl,hk.symm⟩
     | succ k=>simp at hk
    obtain ⟨rfl,rfl⟩:=this
    refine ⟨G0,fun x hx=>by simp at hx; omega,fun u hu=>?_⟩
    by_cases h:u=root
    ·subst h; simp
    ·simp [h]; omega
   ·split<;>simp
   ·by_cases h:u=root
    ·simp [h]
    ·simp [h]
   ·simp at hle
    exact absurd hle (by simpa using h0)
   ·split at h2<;>omega⟩ (by simp only; simp; omega) (by
   rintro ⟨seen,out,now⟩ ⟨lev,hB⟩
   simp only at hB
   by_cases Bu:now=[]
   ·subst Bu
    refine .inr ⟨out,?_,lev,seen,hB⟩
    unfold m_eq
    simp
   ·obtain ⟨lev',seen',m,k1,k2⟩:=hB.step hG hn Bu
    have hc:=k2.count
    refine .inl ⟨_,k1,⟨lev',k2⟩,?_⟩
    have bB:=G7.2 Bu
    simp only [H2,w8] at hc ⊢
    have:m.length.min 1≤1:=Nat.min_le_right _ _
    omega)
 rw [bindS h1]
 obtain ⟨lev,seen,h⟩:=h2
 exact ⟨o,lev,seen,rfl,h⟩
open Vc
theorem ma {l:LI} (h:l.Pairwise (· < ·)):l.Nodup:=by
 refine List.Pairwise.imp ?_ h
 intro a b nE; omega
theorem IC:∀ {l m:LI},l.Pairwise (· < ·)→m.Pairwise (· < ·)→(∀ x,x∈l↔x∈m)→l=m:=by
 intro l
 induction l with
 | nil=>
  intro m _ _ h
  cases m with
  | nil=>rfl
  | cons y m=>exact absurd ((h y).2 G0) G0
 | cons x l ih=>
  intro m hl hm h
  cases m with
  | nil=>exact absurd ((h x).1 G0) G0
  | cons y m=>
   rw [z6] at hl hm
   have UF:x=y:=by
    have h1:=(h x).1 G0
    have h2:=(h y).2 G0
    rw [G3] at h1 h2
    rcases h1 with h1 | h1
    ·exact h1
    ·rcases h2 with h2 | h2
     ·exact h2.symm
     ·have:=hl.1 y h2
      have:=hm.1 x h1
      omega
   subst UF
   congr 1
   refine ih hl.2 hm.2 fun z=>?_
   constructor
   ·intro hz
    have h1:=(h z).1 (by simp [hz])
    rw [G3] at h1
    rcases h1 with h1 | h1
    ·have:=hl.1 z hz; omega
    ·exact h1
   ·intro hz
    have h1:=(h z).2 (by simp [hz])
    rw [G3] at h1
    rcases h1 with h1 | h1
    ·have:=hm.1 z hz; omega
    ·exact h1
theorem BA {n:Nat} (hn:n≤1000000):m_eu (n:Int)=some []:=by
 have h0:ws .i64 0 0=0:=by rw [ws_in (by constructor<;>omega)]; rfl
 have h1:ws .i64 (n:Int) 0=(n:Int):=by rw [ws_in (by constructor<;>omega)]; omega
 unfold m_eu m_et m_es
 rw [A0,h0,h1]
 by_cases hp:(0:Int) < (n:Int)
 ·rw [I0 hp]
  unfold mkLp
  rw [I0 hp,bindS (G4 0 n n0)]
  have:sli (List.replicate n (0:Int)) 0 0=some []:=by
   unfold sli; rw [I0 G0]; simp [subL]
  rw [bindS this]
 ·rw [J0 hp]
theorem jo (ls:L2) (k:Nat):(ls.take k).flatten.length≤ls.flatten.length:=by
 conv=>rhs; rw [← B9 k ls]
 rw [j6,H2]; omega
theorem ie {ls:L2} {k:Nat} (h:k < ls.length):(ls.take (k+1)).flatten=(ls.take k).flatten++ls[k]:=by
 rw [Qa h,j6,Hb,List.flatten_nil,I7]
theorem concat_ok {ls:L2} (hl:ls.length≤1000) (hf:ls.flatten.length≤1000):m_ey ls=some ls.flatten:=by
 unfold m_ey
 obtain ⟨o,h1,h2⟩:=n9 (step:=m_ex ls) (fun k (s:Int)=>(s,(k:Int))) ls.length n0 (fun k s=>s=((ls.take k).flatten.length:Int)) (fun o=>o=(ls.flatten.length:Int)) (s0:=0) G0 (by
  intro k s hk hI
  subst hI
  have h3:=jo ls (k+1)
  rw [ie hk,H2] at h3
  unfold m_ex m_ew
  simp only
  rw [B0,bindS (getI_lt hk),wa_in (by constructor<;>omega),A0,wa1 n0]
  exact .inl ⟨_,rfl,by rw [ie hk,H2]; omega⟩) (by
  intro s hI
  subst hI
  unfold m_ex
  simp only
  rw [A0]
  exact ⟨_,rfl,by rw [P4 (O4 _)]⟩)
 have VD:loop (m_ex ls) (0,0)=some o:=h1
 rw [bindS VD,h2,bindS (BA n0)]
 obtain ⟨o,h1,h2⟩:=n9 (step:=m_ev ls) (fun k (s:LI)=>(s,(k:Int))) ls.length n0 (fun k s=>s=(ls.take k).flatten) (fun o=>o=ls.flatten) (s0:=[]) G0 (by
  intro k s hk hI
  subst hI
  have h3:=jo ls (k+1)
  rw [ie hk,H2] at h3
  unfold m_ev
  simp only
  rw [B0,bindS (getI_lt hk),bindS (app_small n0),wa1 n0]
  exact .inl ⟨_,rfl,by rw [ie hk]⟩) (by
  intro s hI
  subst hI
  unfold m_ev
  simp only
  rw [A0]
  exact ⟨_,rfl,by rw [P4 (O4 _)]⟩)
 have VD:loop (m_ev ls) ([],0)=some o:=h1
 rw [bindS VD,h2]
theorem BF.lev_le {adj:L2} {root:Nat} {lev:Nat→Nat} {seen:BL} {out:L2} (h:BF adj root lev seen out []) (u:Nat) (hu:u < adj.length):lev u≤out.length:=by
 have h1:=h.top u hu
 have h2:=(h.lst out.length [] G0).2.2 u hu
 simp at h2
 omega
def coll (tm:Nat→Prop) [DecidablePred tm]:Nat→LI
 | 0=>[]
 | m+1=>coll tm m++(if tm m then [(m:Int)] else [])
theorem H4 {tm:Nat→Prop} [DecidablePred tm] {x:Int}:∀ m,x∈coll tm m↔0≤x∧x.toNat < m∧tm x.toNat:=by
 intro m
 induction m with
 | zero=>simp [coll]
 | succ m ih=>
  rw [coll,I2,ih]
  constructor
  ·rintro (h | h)
   ·exact ⟨h.1,n0,h.2.2⟩
   ·split at h
    ·rename_i hc
     simp only [Z2] at h; subst h
     exact ⟨n0,n0,by simpa using hc⟩
    ·simp at h
  ·rintro ⟨h1,h2,h3⟩
   by_cases hx:x.toNat=m
   ·right
    rw [hx] at h3
    rw [I0 h3]
    simp; omega
   ·exact .inl ⟨h1,n0,h3⟩
theorem ia {tm:Nat→Prop} [DecidablePred tm]:∀ m,(coll tm m).Pairwise (· < ·):=by
 intro m
 induction m with
 | zero=>exact .nil
 | succ m ih=>
  rw [coll,C9]
  refine ⟨ih,?_,?_⟩
  ·split<;>simp
  ·intro x hx y hy
   have:=(H4 m).1 hx
   split at hy
   ·simp at hy; omega
   ·simp at hy
theorem J6 {tm:Nat→Prop} [DecidablePred tm]:∀ m,(coll tm m).length≤m:=by
 intro m
 induction m with
 | zero=>simp [coll]
 | succ m ih=>rw [coll,H2]; split<;>simp<;>omega
structure CC (adj:L2) (root:Nat) (c:LI):Prop where
 asc:c.Pairwise (· < ·)
 rng:∀ x,x∈c→0≤x∧x < adj.length
 mem:(root:Int)∈c
 clo:∀ v w:Nat,(v:Int)∈c→nbp adj v w→(w:Int)∈c
 min:∀ S:Nat→Prop,S root→(∀ v w,v < adj.length→S v→nbp adj v w→S w)→∀ u:Nat,(u:Int)∈c→S u
theorem BF.flat {adj:L2} {root:Nat} {lev:Nat→Nat} {seen:BL} {out:L2} (h:BF adj root lev seen out []) (x:Int):x∈out.flatten↔0≤x∧x < adj.length∧lev x.toNat≠0:=by
 rw [nj]
 constructor
 ·rintro ⟨l,hl,hx⟩
  obtain ⟨k,hk⟩:=D9.1 hl
  have Cu:=(C2.1 hk).1
  have h1:=h.lst k l (by rw [O6 Cu]; exact hk)
  have h2:=h1.2.1 x hx
  have h3:=(h1.2.2 x.toNat n0).1 (by rwa [show ((x.toNat:Nat):Int)=x by omega])
  exact ⟨h2.1,h2.2,n0⟩
 ·rintro ⟨h1,h2,h3⟩
  have h4:=h.lev_le x.toNat n0
  have hk:lev x.toNat - 1 < out.length:=n0
  refine ⟨out[lev x.toNat - 1],Z1 hk,?_⟩
  have h5:=h.lst (lev x.toNat - 1) out[lev x.toNat - 1] (by rw [O6 hk]; simp [hk])
  have h6:=(h5.2.2 x.toNat n0).2 n0
  rwa [show ((x.toNat:Nat):Int)=x by omega] at h6
theorem BF.nodup {adj:L2} {root:Nat} {lev:Nat→Nat} {seen:BL} {out:L2} (h:BF adj root lev seen out []):out.flatten.Nodup:=by
 have hl:∀ (k:Nat) (l:LI),out[k]?=some l→l.Pairwise (· < ·)∧(∀ x,x∈l→0≤x∧x < adj.length)∧∀ u:Nat,u < adj.length→((u:Int)∈l↔lev u=k+1):=fun k l hk=>
  h.lst k l (by rw [O6 (C2.1 hk).1]; exact hk)
 rw [Pc,List.pairwise_flatten]
 refine ⟨fun l hm=>?_,?_⟩
 ·obtain ⟨k,hk⟩:=D9.1 hm
  exact ma (hl k l hk).1
 ·rw [J8]
  intro i j hi hj cE x hx y hy UF
  subst UF
  have h1:=hl i _ (by simp [hi]:out[i]?=some out[i])
  have h2:=hl j _ (by simp [hj]:out[j]?=some out[j])
  have h3:=h1.2.1 x hx
  have h4:=(h1.2.2 x.toNat n0).1 (by rwa [show ((x.toNat:Nat):Int)=x by omega])
  have h5:=(h2.2.2 x.toNat n0).1 (by rwa [show ((x.toNat:Nat):Int)=x by omega])
  omega
theorem Ir {adj:L2} (hG:Gr adj) (hn:adj.length≤30) {root:Nat} (hr:root < adj.length):
  ∃ out c,m_er adj (root:Int)=some out∧m_ey out=some out.flatten∧sortI out.flatten=some c∧CC adj root c:=by
 obtain ⟨out,lev,seen,h1,h2⟩:=Xp hG hn hr
 have DG:out.flatten.length≤adj.length:=T9 _ _ h2.nodup fun x hx=>by have:=(h2.flat x).1 hx; exact ⟨this.1,this.2.1⟩
 obtain ⟨c,c1,c2,c3⟩:=mh (l:=out.flatten) n0
 have QG:=h2.count
 have hm:∀ x,x∈c↔0≤x∧x < adj.length∧lev x.toNat≠0:=fun x=>by rw [c2.mem_iff]; exact h2.flat x
 refine ⟨out,c,h1,concat_ok n0 n0,c1,Oi c3 (c2.nodup_iff.2 h2.nodup),fun x hx=>?_,?_,fun v w hv hw=>?_,fun S hS hc u hu=>?_⟩
 ·have:=(hm x).1 hx; exact ⟨this.1,this.2.1⟩
 ·rw [hm]
  have:=(h2.rt root hr).2 rfl
  simp only [H1]
  omega
 ·rw [hm] at hv ⊢
  simp only [H1] at hv ⊢
  have h3:=h2.edge v w n0 hw hv.2.2 (h2.lev_le v n0)
  obtain ⟨l,h5,h6⟩:=hw
  have h4:=hG.rng v l _ h5 h6
  exact ⟨h4.1,h4.2.1,h3.1⟩
 ·have key:∀ k,∀ u:Nat,u < adj.length→lev u=k+1→S u:=by
   intro k
   induction k with
   | zero=>intro u hu h3; rw [(h2.rt u hu).1 h3]; exact hS
   | succ k ih=>
    intro u hu h3
    obtain ⟨w,h4,h5,h6⟩:=h2.back u hu n0
    exact hc w u h4 (ih w h4 n0) h5
  rw [hm] at hu
  simp only [H1] at hu
  exact key (lev u - 1) u n0 n0
theorem U9 {adj:L2} (hG:Gr adj) {v w:Nat} (h:nbp adj v w):nbp adj w v:=by
 obtain ⟨l,h1,h2⟩:=h
 obtain ⟨m,h3,h4⟩:=hG.sym v l _ h1 h2
 exact ⟨m,by simpa using h3,h4⟩
structure CS (adj:L2) (k:Nat) (out:L2):Prop where
 cls:∀ c,c∈out→∃ r:Nat,r < k∧CC adj r c∧c.head?=some (r:Int)
 ord:out.Pairwise (fun a b=>∀ x y,a.head?=some x→b.head?=some y→x < y)
 dis:out.Pairwise (fun a b=>∀ x,x∈a→x∉b)
 all:∀ u:Nat,u < k→∃ c,c∈out∧(u:Int)∈c
 len:out.length≤k
theorem CS.next {adj:L2} {k:Nat} {out:L2} (h:CS adj k out) (hk:∃ c,c∈out∧(k:Int)∈c):CS adj (k+1) out:=
 ⟨fun c hc=>by obtain ⟨r,h1,h2⟩:=h.cls c hc; exact ⟨r,n0,h2⟩,h.ord,h.dis,fun u hu=>by
  by_cases YF:u=k
  ·subst YF; exact hk
  ·exact h.all u n0,by have:=h.len; omega⟩
theorem KC {c:LI} (h:c.Pairwise (· < ·)) {x:Int} (hx:x∈c) (hm:∀ y,y∈c→x≤y):c.head?=some x:=by
 cases c with
 | nil=>simp at hx
 | cons a c=>
  rw [z6] at h
  rw [G3] at hx
  have h1:=hm a G0
  rcases hx with hx | hx
  ·simp [hx]
  ·have:=h.1 x hx; omega
theorem CS.push {adj:L2} (hG:Gr adj) {k:Nat} {out:L2} (h:CS adj k out) (Xw:¬ ∃ c,c∈out∧(k:Int)∈c) {c:LI} (hc:CC adj k c):CS adj (k+1) (out++[c]):=by
 have hS:∀ u:Nat,(u:Int)∈c→∀ c',c'∈out→(u:Int)∉c':=by
  refine hc.min (fun u=>∀ c',c'∈out→(u:Int)∉c') (fun c' h1 h2=>Xw ⟨c',h1,h2⟩) (fun v w hv h1 h2 c' h3 h4=>?_)
  obtain ⟨r,_,h5,_⟩:=h.cls c' h3
  exact h1 c' h3 (h5.clo w v h4 (U9 hG h2))
 have nv:∀ x,x∈c→(k:Int)≤x:=by
  intro x hx
  have h1:=hc.rng x hx
  by_cases hlt:x < (k:Int)
  ·obtain ⟨c',h2,h3⟩:=h.all x.toNat n0
   have:=hS x.toNat (by rwa [show ((x.toNat:Nat):Int)=x by omega]) c' h2
   exact absurd h3 this
  ·omega
 have hh:=KC hc.asc hc.mem nv
 refine ⟨fun c' Hu=>?_,?_,?_,fun u hu=>?_,by have:=h.len; simp; omega⟩
 ·rw [I2,Z2] at Hu
  rcases Hu with Hu | rfl
  ·obtain ⟨r,h1,h2⟩:=h.cls c' Hu; exact ⟨r,n0,h2⟩
  ·exact ⟨k,n0,hc,hh⟩
 ·rw [C9]
  refine ⟨h.ord,G0,fun a ha b hb x y hx hy=>?_⟩
  rw [Z2] at hb
  subst hb
  obtain ⟨r,h1,_,h2⟩:=h.cls a ha
  rw [h2] at hx; rw [hh] at hy
  cases hx; cases hy; omega
 ·rw [C9]
  refine ⟨h.dis,G0,fun a ha b hb x hx hy=>?_⟩
  rw [Z2] at hb
  subst hb
  have h1:=hc.rng x hy
  exact hS x.toNat (by rwa [show ((x.toNat:Nat):Int)=x by omega]) a ha (by rwa [show ((x.toNat:Nat):Int)=x by omega])
 ·by_cases YF:u=k
  ·subst YF; exact ⟨c,G0,hc.mem⟩
  ·obtain ⟨c',h1,h2⟩:=h.all u n0; exact ⟨c',by simp [h1],h2⟩
theorem mC (r:LI) (s:BL) (hr:∀ x,x∈r→0≤x∧x < s.length) (hl:r.length < 1000000):Ret (loop (m_e0 r) (s,0)) (fun t=>t.length=s.length∧∀ u:Nat,u < s.length→t[u]?=if (u:Int)∈r then some true else s[u]?):=by
 refine Q0 r.length (fun k (t:BL×Int)=>t.2=k∧t.1.length=s.length∧∀ u:Nat,u < s.length→t.1[u]?=if (u:Int)∈r.take k then some true else s[u]?) G0 ?_
 rintro k ⟨t,i⟩ hk ⟨rfl,h1,h2⟩
 unfold m_e0
 by_cases Cu:k < r.length
 ·obtain ⟨x,hx⟩:∃ x,r[k]?=some x:=⟨r[k],by simp [Cu]⟩
  have fE:=hr x (X2 hx)
  have e1:getI r (k:Int)=some x:=hx
  have hw:wa .i64 (k:Int) 1=((k+1:Nat):Int):=wa1 n0
  have e5:(k:Int) < (r.length:Int):=n0
  simp only [vcC,D2,reduceCtorEq,e1,hw,e5] at*
  clear e1 hw e5 hr
  grind
 ·have e5:¬ (k:Int) < (r.length:Int):=n0
  simp only [vcC,D2,reduceCtorEq,e5] at*
  exact ⟨h1,fun u hu=>by rw [h2 u hu,O3 n0]⟩
open Classical in
theorem VB {adj:L2} (hG:Gr adj) (hn:adj.length≤30):∃ out,m_e2 adj=some out∧CS adj adj.length out:=by
 have:Ret (m_e2 adj) (fun out=>CS adj adj.length out):=by
  unfold m_e2
  rw [bindS (F8 hG n0),I0 rfl,bindS (G4 false adj.length n0)]
  simp only [O0,K0]
  refine Q0 adj.length (fun k (t:BL×L2×Int)=>t.2.2=k∧CS adj k t.2.1∧t.1.length=adj.length∧∀ u:Nat,u < adj.length→t.1[u]?=some (decide (∃ c,c∈t.2.1∧(u:Int)∈c))) ⟨rfl,⟨G0,G0,G0,G0,G0⟩,G0,fun u hu=>by simp [hu]⟩ ?_
  rintro k ⟨seen,out,i⟩ hk ⟨rfl,hC,hl,hs⟩
  simp only at hC hl hs
  unfold m_e1 m_ez
  simp only [O0,C1,Q3,K0,T0,E1,H1]
  refine ⟨fun h=>⟨n0,n0,fun x hx=>?_⟩,fun h=>?_⟩
  ·rw [hs k n0] at hx
   obtain rfl:=P1 hx
   have hw:wa .i64 (k:Int) 1=((k+1:Nat):Int):=wa1 n0
   refine ⟨fun hx=>⟨n0,hw,hC.next (by simpa using hx),hl,hs⟩,fun hx=>?_⟩
   have Xw:¬ ∃ c,c∈out∧(k:Int)∈c:=by simpa using hx
   obtain ⟨o,c,c1,c2,c3,c4⟩:=Ir hG hn (root:=k) n0
   rw [U1 c1,U1 c2,U1 c3]
   have Hv:=asc_len c4.asc c4.rng
   refine Y4 (mC c seen (fun x hx=>by have:=c4.rng x hx; omega) n0) ?_
   rintro t ⟨t1,t2⟩
   rw [s5]
   have xI:=hC.len
   refine ⟨by simp; omega,n0,hw,hC.push hG Xw c4,n0,fun u hu=>?_⟩
   rw [t2 u n0,hs u hu]
   by_cases UJ:(u:Int)∈c
   ·simp [UJ]
   ·simp only [UJ,if_false]
    congr 1
    rw [decide_eq_decide]
    constructor
    ·rintro ⟨c',h1,h2⟩; exact ⟨c',by simp [h1],h2⟩
    ·rintro ⟨c',h1,h2⟩
     rw [I2,Z2] at h1
     rcases h1 with h1 | rfl
     ·exact ⟨c',h1,h2⟩
     ·exact absurd h2 UJ
  ·obtain rfl:k=adj.length:=n0
   exact hC
 exact this
theorem Hy {l:LI} {n:Nat} (hn:n≤100000) (hl:l.length=n) (hd:l.Nodup) (hr:∀ x,x∈l→0≤x∧x < n):m_ml l (n:Int)=some true:=by
 refine Ret.eq ?_
 unfold m_ml
 rw [B0]
 simp only [O0,A7,H1]
 refine ⟨n0,n0,?_⟩
 refine Q0 n (fun k (t:BL×Int)=>t.2=k∧t.1.length=n∧∀ u:Nat,u < n→t.1[u]?=some (decide ((u:Int)∈l.take k))) ⟨rfl,G0,fun u hu=>by simp [hu]⟩ ?_
 rintro k ⟨t,i⟩ hk ⟨rfl,h1,h2⟩
 simp only at h1 h2
 unfold m_mk
 by_cases ou:k < n
 ·have hx:l[k]?=some (l[k]'(n0)):=by simp [show k < l.length by omega]
  have fE:=hr _ (X2 hx)
  have Xw:=bc hd (k:=k) n0
  have h3:=h2 (l[k]'(n0)).toNat n0
  generalize hv:(l[k]'(n0))=x at hx fE Xw h3
  have kN:((x.toNat:Nat):Int)=x:=n0
  rw [kN,decide_eq_false Xw] at h3
  have e1:getI l (k:Int)=some x:=hx
  have e2:getI t x=some false:=getI_of fE.1 h3
  have hw:wa .i64 (k:Int) 1=((k+1:Nat):Int):=wa1 n0
  have e3:¬ x < 0:=n0
  have e4:¬ (n:Int)≤x:=n0
  have e5:(k:Int) < (n:Int):=n0
  simp only [vcC,D2,reduceCtorEq,e1,e2,hw,e3,e4,e5]
  have:=fun y=>mts (y:=y) hx
  grind
 ·have e5:¬ (k:Int) < (n:Int):=n0
  simp only [vcC,D2,reduceCtorEq,e5]
theorem ic {adj:L2} (hG:Gr adj) (hn:adj.length≤30) {v:Nat} (hv:v < adj.length):
  ∃ out lev seen c,m_er adj (v:Int)=some out∧BF adj v lev seen out []∧CC adj v c∧∀ x,x∈out.flatten↔x∈c:=by
 obtain ⟨out,lev,seen,h1,h2⟩:=Xp hG hn hv
 obtain ⟨o,c,k1,k2,k3,k4⟩:=Ir hG hn hv
 rw [h1] at k1
 obtain rfl:=P1 k1
 have DG:out.flatten.length≤adj.length:=T9 _ _ h2.nodup fun x hx=>by have:=(h2.flat x).1 hx; exact ⟨this.1,this.2.1⟩
 obtain ⟨m,m1,m2,m3⟩:=mh (l:=out.flatten) n0
 rw [m1] at k3
 obtain rfl:=P1 k3
 exact ⟨out,lev,seen,m,h1,h2,k4,fun x=>m2.mem_iff.symm⟩
def farR (adj:L2) (out:L2):Option Int:=
 (getI out (ws .i64 (out.length:Int) 1)).bind fun x91=>
 (getI x91 0).bind fun x93=>
 (loop (m_e5 x91 adj) (x93,0)).bind fun x114=>some x114
theorem mB {adj:L2} {out:L2} (hlen:0 < out.length) (sy:out.length≤1000) (Bu:∀ l,l∈out→l≠[]) (hr:∀ l,l∈out→∀ x,x∈l→0≤x∧x < adj.length) (Mu:∀ l,l∈out→l.length≤1000):Ret (farR adj out) (fun w=>w∈out.flatten∧0≤w∧w < adj.length):=by
 unfold farR
 have e:ws .i64 (out.length:Int) 1=((out.length - 1:Nat):Int):=by rw [H3 n0 n0]; omega
 have hk:out.length - 1 < out.length:=n0
 rw [e,bindS (getI_lt hk)]
 have hm:=Z1 hk
 generalize out[out.length - 1]=l at hm
 have ZN:=G7.2 (Bu l hm)
 have ax:=Mu l hm
 have ME:getI l 0=some l[0]:=getI_lt ZN
 rw [bindS ME]
 simp only [O0,K0]
 refine Y4 (P:=fun w=>w∈l) ?_ (fun w hw=>⟨nj.2 ⟨l,hm,hw⟩,hr l hm w hw⟩)
 refine Q0 l.length (fun k (s:Int×Int)=>s.2=k∧s.1∈l) ⟨rfl,Z1 _⟩ ?_
 rintro k ⟨s,i⟩ JF ⟨rfl,hs⟩
 simp only at hs
 have ON:=hr l hm s hs
 unfold m_e5 m_e4
 by_cases Cu:k < l.length
 ·obtain ⟨x,hx⟩:∃ x,l[k]?=some x:=⟨l[k],by simp [Cu]⟩
  have fE:=hr l hm x (X2 hx)
  have e1:getI l (k:Int)=some x:=hx
  have e5:(k:Int) < (l.length:Int):=n0
  have e6:getI adj x=some (adj[x.toNat]'(n0)):=getI_of fE.1 (by simp [show x.toNat < adj.length by omega])
  have e7:getI adj s=some (adj[s.toNat]'(n0)):=getI_of ON.1 (by simp [show s.toNat < adj.length by omega])
  have hw:wa .i64 (k:Int) 1=((k+1:Nat):Int):=wa1 n0
  simp only [vcC,D2,reduceCtorEq,e1,e5,e6,e7,hw]
  exact ⟨fun _=>⟨Cu,trivial,X2 hx⟩,fun _=>⟨Cu,trivial,hs⟩⟩
 ·have e5:¬ (k:Int) < (l.length:Int):=n0
  simp only [vcC,D2,reduceCtorEq,e5]
  exact hs
theorem Ky {adj:L2} {v:Int} {out r:L2} {w:Int} (h1:farR adj out=some w) (h2:m_er adj w=some r):
  m_e6 adj (v,out)=if (r.length:Int)≤(out.length:Int) then some (.inr v) else some (.inl (w,r)):=by
 unfold farR at h1
 unfold m_e6
 simp only
 obtain ⟨l,g1,h1⟩:=bs h1
 obtain ⟨x,g2,h1⟩:=bs h1
 obtain ⟨z,g3,h1⟩:=bs h1
 obtain rfl:=P1 h1
 rw [bindS g1,bindS g2,bindS g3,bindS h2]
theorem Mi {adj:L2} {root:Nat} {lev:Nat→Nat} {seen:BL} {out:L2} (h:BF adj root lev seen out []) (hr:root < adj.length) (hn:adj.length≤30):
  0 < out.length∧out.length≤adj.length∧(∀ l,l∈out→l≠[])∧(∀ l,l∈out→∀ x,x∈l→0≤x∧x < adj.length)∧(∀ l,l∈out→l.length≤1000):=by
 have hk:∀ l,l∈out→l.Pairwise (· < ·)∧∀ x,x∈l→0≤x∧x < adj.length:=by
  intro l hl
  obtain ⟨k,hk⟩:=D9.1 hl
  have:=h.lst k l (by rw [O6 (C2.1 hk).1]; exact hk)
  exact ⟨this.1,this.2.1⟩
 refine ⟨?_,h.count,h.ne,fun l hl=>(hk l hl).2,fun l hl=>?_⟩
 ·have h1:=(h.rt root hr).2 rfl
  have h2:=h.lev_le root hr
  omega
 ·have:=asc_len (hk l hl).1 (hk l hl).2
  omega
theorem Jy {adj:L2} (hG:Gr adj) (hn:adj.length≤30) {v:Nat} (hv:v < adj.length) {a:L2} (ha:m_er adj (v:Int)=some a):
  Ret (m_e7 adj (v:Int)) (fun p=>∃ (q:Nat) (b r:L2) (w:Int),p=(q:Int)∧q < adj.length∧p∈a.flatten∧m_er adj p=some b∧a.length≤b.length∧farR adj b=some w∧m_er adj w=some r∧r.length≤b.length):=by
 obtain ⟨a',lev,seen,c,h1,h2,h3,h4⟩:=ic hG hn hv
 rw [ha] at h1
 obtain rfl:=P1 h1
 have RG:=F8 hG (show adj.length≤200 by omega)
 unfold m_e7 m_e3
 rw [bindS RG]
 have e1:¬ (v:Int) < 0:=n0
 have e2:(v:Int) < (adj.length:Int):=n0
 simp only [I0,y6]
 have e3:(0:Int)≤(v:Int):=n0
 simp only [e2,e3,decide_true,Bool.and_self,U4,D2,if_false,ha,y6,O0,K0]
 refine Q0 adj.length (fun k (s:Int×L2)=>∃ q:Nat,s.1=(q:Int)∧q < adj.length∧s.1∈a.flatten∧m_er adj s.1=some s.2∧a.length≤s.2.length∧k≤s.2.length) ⟨v,rfl,hv,(h4 _).2 h3.mem,ha,G0,G0⟩ ?_
 rintro k ⟨p,now⟩ hk ⟨q,rfl,hq,bK,dx,qJ,ou⟩
 simp only at bK dx qJ ou
 obtain ⟨now',lev',seen',c',g1,g2,g3,g4⟩:=ic hG hn hq
 rw [dx] at g1
 obtain rfl:=P1 g1
 obtain ⟨p1,p2,p3,p4,p5⟩:=Mi g2 hq hn
 obtain ⟨w,w1,w2,w3,w4⟩:=mB p1 n0 p3 p4 p5
 obtain ⟨u,rfl⟩:=D3 w3
 have hu:u < adj.length:=n0
 obtain ⟨r,lev2,seen2,c2,k1,k2,k3,k4⟩:=ic hG hn hu
 obtain ⟨_,q2,_⟩:=Mi k2 hu hn
 have EN:(u:Int)∈a.flatten:=by
  rw [h4]
  exact g3.min (fun x=>(x:Int)∈c) ((h4 _).1 bK) (fun v w _ hs WN=>h3.clo v w hs WN) u ((g4 _).1 w2)
 rw [Ky w1 k1]
 simp only [C1,K0,T0,E1]
 exact ⟨fun h=>⟨q,now,r,u,rfl,hq,bK,dx,qJ,w1,k1,n0⟩,fun h=>⟨n0,u,rfl,hu,EN,k1,n0,n0⟩⟩
def Tr (T:List BL) (n:Nat) (R:Nat→Nat→Prop):Prop:=T.length=n∧∀ i,i < n→∃ r,T[i]?=some r∧r.length=n∧∀ j,j < n→∃ b:Bool,r[j]?=some b∧(b=true↔R i j)
theorem Tr.congr {T:List BL} {n:Nat} {R R':Nat→Nat→Prop} (h:∀ i j,i < n→j < n→(R i j↔R' i j)) (hT:Tr T n R):Tr T n R':=by
 refine ⟨hT.1,fun i hi=>?_⟩
 obtain ⟨r,h1,h2,h3⟩:=hT.2 i hi
 exact ⟨r,h1,h2,fun j hj=>by obtain ⟨b,h4,h5⟩:=h3 j hj; exact ⟨b,h4,by rw [h5,h i j hi hj]⟩⟩
theorem Tr.blank (n:Nat):Tr (List.replicate n (List.replicate n false)) n (fun _ _=>False):=
 ⟨G0,fun i hi=>⟨List.replicate n false,by simp [hi],G0,fun j hj=>⟨false,by simp [hj],G0⟩⟩⟩
theorem Tr.row {T:List BL} {n:Nat} {R:Nat→Nat→Prop} (hT:Tr T n R) {i:Nat} (hi:i < n):∃ r,getI T (i:Int)=some r∧T[i]?=some r∧r.length=n∧∀ j:Nat,j < n→∃ b:Bool,getI r (j:Int)=some b∧(b=true↔R i j):=by
 obtain ⟨r,h1,h2,h3⟩:=hT.2 i hi
 exact ⟨r,h1,h1,h2,fun j hj=>h3 j hj⟩
theorem Tr.put {T:List BL} {n:Nat} {R:Nat→Nat→Prop} (hT:Tr T n R) {i j:Nat} (hi:i < n) {r:BL} (hr:T[i]?=some r) {z:Bool} {p:Prop} (hz:z=true↔p):Tr (T.set i (r.set j z)) n (fun a c=>(a=i∧c=j∧p)∨(¬ (a=i∧c=j)∧R a c)):=by
 refine ⟨by simp [hT.1],fun a ha=>?_⟩
 obtain ⟨r',h1,h2,h3⟩:=hT.2 a ha
 by_cases XE:i=a
 ·subst XE
  rw [hr] at h1
  obtain rfl:=P1 h1
  refine ⟨r.set j z,by rw [B3,I0 rfl,I0 (by rw [hT.1]; exact ha)],by simp [h2],fun c hc=>?_⟩
  obtain ⟨b,h4,h5⟩:=h3 c hc
  rw [B3]
  by_cases lE:j=c
  ·subst lE
   exact ⟨z,by rw [I0 rfl,B0],by rw [hz]; simp⟩
  ·exact ⟨b,by rw [J0 lE,h4],by rw [h5]; simp [show ¬ c=j from fun h=>lE h.symm]⟩
 ·refine ⟨r',by rw [B3,J0 XE,h1],h2,fun c hc=>?_⟩
  obtain ⟨b,h4,h5⟩:=h3 c hc
  exact ⟨b,h4,by rw [h5]; simp [show ¬ a=i from fun h=>XE h.symm]⟩
theorem Tr.on {T:List BL} {n:Nat} {R:Nat→Nat→Prop} (hT:Tr T n R) {i j:Nat} (hi:i < n) {r:BL} (hr:T[i]?=some r):Tr (T.set i (r.set j true)) n (fun a c=>(a=i∧c=j)∨R a c):=by
 refine Tr.congr (fun a c _ _=>?_) (hT.put (j:=j) hi hr (z:=true) (p:=True) G0)
 by_cases h:a=i∧c=j
 ·simp [h]
 ·simp [h]
theorem Eh {n:Nat} (hn:n≤1000):m_do (n:Int)=some (List.replicate n (List.replicate n false)):=by
 refine Ret.eq ?_
 unfold m_do
 simp only [O0,A7,K0,H1]
 refine ⟨n0,n0,?_⟩
 refine Q0 n (fun k (t:List BL×Int)=>t.2=k∧t.1.length=n∧∀ u,u < k→t.1[u]?=some (List.replicate n false)) ⟨rfl,G0,fun u h=>n0⟩ ?_
 rintro k ⟨t,i⟩ hk ⟨rfl,h1,h2⟩
 simp only at h1 h2
 unfold m_dn
 have hlen:(List.replicate n ([]:BL)).length=n:=by simp
 by_cases ou:k < n
 ·have hw:wa .i64 (k:Int) 1=((k+1:Nat):Int):=wa1 n0
  have e5:(k:Int) < (n:Int):=n0
  simp only [vcC,D2,reduceCtorEq,hlen,e5,hw]
  refine ⟨n0,n0,n0,n0,ou,trivial,by simp [h1],fun u hu=>?_⟩
  rw [B3]
  by_cases uF:k=u
  ·rw [I0 uF,B0]
  ·rw [J0 uF]; exact h2 u n0
 ·have e5:¬ (k:Int) < (n:Int):=n0
  simp only [vcC,D2,reduceCtorEq,hlen,e5]
  apply C6
  intro u
  by_cases hu:u < n
  ·rw [h2 u n0]; simp [hu]
  ·rw [L5 n0,L5 (by simp; omega)]
theorem join_ok {T:List BL} {n:Nat} {R:Nat→Nat→Prop} (hT:Tr T n R) {v w:Nat} (hv:v < n) (hw:w < n):∃ T',m_du T (v:Int) (w:Int)=some T'∧Tr T' n (fun a c=>(v≠w∧((a=v∧c=w)∨(a=w∧c=v)))∨R a c):=by
 unfold m_du m_dt
 by_cases aH:v=w
 ·subst aH
  exact ⟨T,by rw [I0 rfl],Tr.congr (fun a c _ _=>by simp) hT⟩
 ·rw [A0]
  obtain ⟨r,g1,g2,g3,_⟩:=hT.row hv
  obtain ⟨r',g1',g2',g3',_⟩:=hT.row hw
  have EJ:=hT.on (j:=w) hv g2
  obtain ⟨r2,k1,k2,k3,_⟩:=EJ.row hw
  have DJ:=hT.1
  rw [bindS g1,bindS g1',bindS (setI_lt n0),bindS (setI_lt n0),bindS k1,bindS (setI_lt n0),bindS (setI_lt (by simp; omega))]
  exact ⟨_,rfl,Tr.congr (fun a c _ _=>by
   constructor
   ·rintro (h | h | h)
    ·exact .inl ⟨aH,.inr h⟩
    ·exact .inl ⟨aH,.inl h⟩
    ·exact .inr h
   ·rintro (⟨_,h | h⟩ | h)
    ·exact .inr (.inl h)
    ·exact .inl h
    ·exact .inr (.inr h)) (EJ.on (j:=v) hw k2)⟩
open Classical in
theorem Kh {T:List BL} {n:Nat} {R:Nat→Nat→Prop} (hT:Tr T n R) (hn:n≤1000) {v:Nat} (hv:v < n):m_dx T (v:Int)=some (coll (fun w=>R v w) n):=by
 obtain ⟨r,g1,g2,g3,g4⟩:=hT.row hv
 refine Ret.eq ?_
 unfold m_dx
 rw [bindS g1]
 simp only [O0,K0]
 refine Q0 n (fun k (t:LI×Int)=>t.2=k∧t.1=coll (fun w=>R v w) k) ⟨rfl,rfl⟩ ?_
 rintro k ⟨t,i⟩ hk ⟨rfl,rfl⟩
 unfold m_dw m_dv
 have Hv:=J6 (tm:=fun w=>R v w) k
 by_cases ou:k < n
 ·obtain ⟨b,e1,e2⟩:=g4 k ou
  have hw:wa .i64 (k:Int) 1=((k+1:Nat):Int):=wa1 n0
  have e5:(k:Int) < (r.length:Int):=n0
  simp only [vcC,D2,reduceCtorEq,e1,e5,hw]
  refine ⟨fun h=>⟨by simp; omega,ou,trivial,?_⟩,fun h=>⟨ou,trivial,?_⟩⟩
  ·rw [coll,I0 (e2.1 h)]
  ·rw [coll,J0 (fun hh=>h (e2.2 hh)),I7]
 ·have e5:¬ (k:Int) < (r.length:Int):=n0
  have:k=n:=n0
  subst this
  simp only [vcC,D2,reduceCtorEq,e5]
open Classical in
theorem yo {T:List BL} {n:Nat} {R:Nat→Nat→Prop} (hT:Tr T n R) (hn:n≤1000):m_dz T=some ((List.range n).map fun v=>coll (fun w=>R v w) n):=by
 refine Ret.eq ?_
 have DJ:=hT.1
 unfold m_dz
 simp only [O0,A7,K0,H1]
 refine ⟨n0,n0,?_⟩
 refine Q0 n (fun k (t:L2×Int)=>t.2=k∧t.1.length=n∧∀ u,u < k→t.1[u]?=some (coll (fun w=>R u w) n)) ⟨rfl,by simp [DJ],fun u h=>n0⟩ ?_
 rintro k ⟨t,i⟩ hk ⟨rfl,h1,h2⟩
 simp only at h1 h2
 unfold m_dy
 by_cases ou:k < n
 ·have hw:wa .i64 (k:Int) 1=((k+1:Nat):Int):=wa1 n0
  have e5:(k:Int) < (T.length:Int):=n0
  simp only [vcC,D2,reduceCtorEq,e5,hw,Kh hT hn ou]
  refine ⟨n0,n0,ou,trivial,by simp [h1],fun u hu=>?_⟩
  rw [B3]
  by_cases uF:k=u
  ·subst uF; rw [I0 rfl,B0]
  ·rw [J0 uF]; exact h2 u n0
 ·have e5:¬ (k:Int) < (T.length:Int):=n0
  simp only [vcC,D2,reduceCtorEq,e5]
  apply C6
  intro u
  by_cases hu:u < n
  ·rw [h2 u n0]; simp [hu]
  ·rw [L5 n0,L5 (by simp; omega)]
def IJ (adj:L2) (l:LI) (i j:Nat):Prop:=∃ (x y:Int),l[i]?=some x∧l[j]?=some y∧nbp adj x.toNat y.toNat
theorem IJ.sym {adj:L2} (hG:Gr adj) {l:LI} {i j:Nat} (h:IJ adj l i j):IJ adj l j i:=by
 obtain ⟨x,y,h1,h2,h3⟩:=h
 exact ⟨y,x,h2,h1,U9 hG h3⟩
theorem IJ.ne {adj:L2} (hG:Gr adj) {l:LI} {i:Nat} (h:IJ adj l i i):False:=by
 obtain ⟨x,y,h1,h2,l',h3,h4⟩:=h
 rw [h1] at h2
 obtain rfl:=P1 h2
 have:=(hG.rng _ _ _ h3 h4).2.2
 omega
open Classical in
theorem mq {adj:L2} (hG:Gr adj) (hn:adj.length≤200) {l:LI} (hl:l.length≤200) (hr:∀ x,x∈l→0≤x∧x < adj.length):m_g9 adj l=some ((List.range l.length).map fun i=>coll (fun j=>IJ adj l i j) l.length):=by
 refine Ret.eq ?_
 unfold m_g9
 rw [bindS (Eh n0)]
 simp only [O0]
 refine Y4 (P:=fun T=>Tr T l.length (IJ adj l)) ?_ (fun T hT=>by rw [U1 (yo hT n0),K0])
 refine Q0 l.length (fun k (t:List BL×Int)=>t.2=k∧Tr t.1 l.length (fun i j=>i < k∧j < k∧IJ adj l i j)) ⟨rfl,Tr.congr (fun i j _ _=>by simp) (Tr.blank _)⟩ ?_
 rintro k ⟨T,i⟩ hk ⟨rfl,hT⟩
 simp only at hT
 unfold m_g8
 by_cases Cu:k < l.length
 ·obtain ⟨x,hx⟩:∃ x,l[k]?=some x:=⟨l[k],by simp [Cu]⟩
  have e1:getI l (k:Int)=some x:=hx
  have fE:=hr x (X2 hx)
  have wJ:adj[x.toNat]?=some (adj[x.toNat]'(n0)):=by simp [show x.toNat < adj.length by omega]
  have UE:=hG.len wJ
  have hw:wa .i64 (k:Int) 1=((k+1:Nat):Int):=wa1 n0
  have e5:(k:Int) < (l.length:Int):=n0
  simp only [vcC,D2,reduceCtorEq,e1,e5]
  refine ⟨n0,n0,n0,?_⟩
  have hz:(0:Int).toNat=0:=rfl
  rw [hz,y8]
  refine Y4 (P:=fun T'=>Tr T' l.length (fun i j=>(i < k∧j < k∧IJ adj l i j)∨(i=k∧j < k∧IJ adj l k j)∨(j=k∧i < k∧IJ adj l k i))) ?_ ?_
  ·refine Q0 k (fun m (t:List BL×Int)=>t.2=m∧Tr t.1 l.length (fun i j=>(i < k∧j < k∧IJ adj l i j)∨(i=k∧j < m∧IJ adj l k j)∨(j=k∧i < m∧IJ adj l k i))) ⟨rfl,Tr.congr (fun i j _ _=>by simp) hT⟩ ?_
   rintro m ⟨T,i⟩ hm ⟨rfl,hT⟩
   simp only at hT
   unfold m_g7 m_g6
   have RE:(l.take k).length=k:=by simp; omega
   by_cases fK:m < k
   ·obtain ⟨y,hy⟩:∃ y,l[m]?=some y:=⟨l[m]'(n0),by simp [show m < l.length by omega]⟩
    have QE:(l.take k)[m]?=some y:=by rw [K5,I0 fK,hy]
    have e2:getI (l.take k) (m:Int)=some y:=QE
    have mP:=hr y (X2 hy)
    have e3:=Th hG (getI_of fE.1 wJ) fE.1 n0 y
    have e6:(m:Int) < ((l.take k).length:Int):=n0
    have hw2:wa .i64 (m:Int) 1=((m+1:Nat):Int):=wa1 n0
    have cF:y∈adj[x.toNat]'(n0)↔IJ adj l k m:=by
     constructor
     ·intro h
      exact ⟨x,y,hx,hy,_,wJ,by rwa [show ((y.toNat:Nat):Int)=y by omega]⟩
     ·rintro ⟨x',y',h1,h2,l',h3,h4⟩
      rw [hx] at h1; rw [hy] at h2
      obtain rfl:=P1 h1
      obtain rfl:=P1 h2
      rw [wJ] at h3
      obtain rfl:=P1 h3
      rwa [show ((y.toNat:Nat):Int)=y by omega] at h4
    simp only [vcC,D2,reduceCtorEq,e2,e3,e6,hw2]
    refine ⟨fun h=>?_,fun h=>⟨fK,trivial,Tr.congr (fun i j _ _=>?_) hT⟩⟩
    ·have hJ:=cF.1 (by simpa using h)
     obtain ⟨T',j1,j2⟩:=join_ok hT Cu (show m < l.length by omega)
     rw [U1 j1]
     refine ⟨fK,trivial,Tr.congr (fun i j _ _=>?_) j2⟩
     constructor
     ·rintro (⟨_,⟨rfl,rfl⟩ | ⟨rfl,rfl⟩⟩ | h | h | h)
      ·exact .inr (.inl ⟨rfl,n0,hJ⟩)
      ·exact .inr (.inr ⟨rfl,n0,hJ⟩)
      ·exact .inl h
      ·exact .inr (.inl ⟨h.1,n0,h.2.2⟩)
      ·exact .inr (.inr ⟨h.1,n0,h.2.2⟩)
     ·rintro (h | ⟨rfl,h1,h2⟩ | ⟨rfl,h1,h2⟩)
      ·exact .inr (.inl h)
      ·by_cases sK:j=m
       ·subst sK; exact .inl ⟨n0,.inl ⟨rfl,rfl⟩⟩
       ·exact .inr (.inr (.inl ⟨rfl,n0,h2⟩))
      ·by_cases mH:i=m
       ·subst mH; exact .inl ⟨n0,.inr ⟨rfl,rfl⟩⟩
       ·exact .inr (.inr (.inr ⟨rfl,n0,h2⟩))
    ·have hJ:¬ IJ adj l k m:=fun hh=>h (by simpa using cF.2 hh)
     constructor
     ·rintro (h | h | h)
      ·exact .inl h
      ·exact .inr (.inl ⟨h.1,n0,h.2.2⟩)
      ·exact .inr (.inr ⟨h.1,n0,h.2.2⟩)
     ·rintro (h | ⟨rfl,h1,h2⟩ | ⟨rfl,h1,h2⟩)
      ·exact .inl h
      ·by_cases sK:j=m
       ·subst sK; exact absurd h2 hJ
       ·exact .inr (.inl ⟨rfl,n0,h2⟩)
      ·by_cases mH:i=m
       ·subst mH; exact absurd h2 hJ
       ·exact .inr (.inr ⟨rfl,n0,h2⟩)
   ·have e6:¬ (m:Int) < ((l.take k).length:Int):=n0
    have:m=k:=n0
    subst this
    simp only [vcC,D2,reduceCtorEq,e6]
    exact hT
  ·intro T' GO
   refine ⟨Cu,hw,Tr.congr (fun i j _ _=>?_) GO⟩
   constructor
   ·rintro (h | ⟨rfl,h1,h2⟩ | ⟨rfl,h1,h2⟩)
    ·exact ⟨n0,n0,h.2.2⟩
    ·exact ⟨n0,n0,h2⟩
    ·exact ⟨n0,n0,h2.sym hG⟩
   ·rintro ⟨h1,h2,h3⟩
    by_cases nH:i=k
    ·subst nH
     by_cases AG:j=i
     ·subst AG; exact (h3.ne hG).elim
     ·exact .inr (.inl ⟨rfl,n0,h3⟩)
    ·by_cases AG:j=k
     ·subst AG; exact .inr (.inr ⟨rfl,n0,h3.sym hG⟩)
     ·exact .inl ⟨n0,n0,h3⟩
 ·have e5:¬ (k:Int) < (l.length:Int):=n0
  simp only [vcC,D2,reduceCtorEq,e5]
  exact Tr.congr (fun i j hi hj=>⟨fun h=>h.2.2,fun h=>⟨n0,n0,h⟩⟩) hT
structure Pm (l:LI) (n:Nat):Prop where
 len:l.length=n
 nd:l.Nodup
 rng:∀ x,x∈l→0≤x∧x < (n:Int)
theorem XB {m:LI} (hs:m.Pairwise (·≤·)):(Go.Lib.compact m).length < m.length↔¬ m.Nodup:=by
 have hlen:(Go.Lib.compact m).length=((List.range m.length).filter (Go.Lib.keeps m.toArray)).length:=by
  unfold Go.Lib.compact Go.Lib.compactUpTo
  rw [L8]
 have hk:∀ j,j < m.length→(Go.Lib.keeps m.toArray j=true↔j=0∨m[j]!≠m[j - 1]!):=by
  intro j hj
  unfold Go.Lib.keeps
  simp
 constructor
 ·intro h hn
  have eF:=Oi hs hn
  have iv:∀ j,j < m.length→Go.Lib.keeps m.toArray j=true:=by
   intro j hj
   rw [hk j hj]
   by_cases h0:j=0
   ·exact .inl h0
   ·right
    have:=y9 eF hj (i:=j - 1) n0
    rw [getElem!_pos m j hj,getElem!_pos m (j - 1) n0]
    omega
  have:=Go.Lib.compact_all m iv
  rw [this] at h
  omega
 ·intro hn
  have hex:∃ j,j < m.length∧Go.Lib.keeps m.toArray j≠true:=by
   refine O2 fun Xw=>hn ?_
   have iv:∀ j (hj:j+1 < m.length),m[j] < m[j+1]:=by
    intro j hj
    have h1:Go.Lib.keeps m.toArray (j+1)=true:=O2 fun h=>Xw ⟨j+1,hj,h⟩
    rw [hk _ hj] at h1
    have h2:=h1.resolve_left n0
    rw [getElem!_pos m (j+1) hj,getElem!_pos m (j+1 - 1) n0] at h2
    have h3:=J8.1 hs j (j+1) n0 hj n0
    have h4:m[j+1 - 1]=m[j]:=by congr 1
    omega
   have hlt:∀ d i (h:i+1+d < m.length),m[i] < m[i+1+d]:=by
    intro d
    induction d with
    | zero=>intro i h; exact iv i h
    | succ d ih=>
     intro i h
     have h1:=ih i n0
     have h2:=iv (i+1+d) n0
     have h3:m[i+1+(d+1)]=m[i+1+d+1]:=by congr 1
     omega
   rw [Pc,J8]
   intro i j hi hj cE
   have:=hlt (j - i - 1) i n0
   have h3:m[i+1+(j - i - 1)]'(n0)=m[j]:=by congr 1; omega
   omega
  obtain ⟨j,hj,sJ⟩:=hex
  rw [hlen]
  have h1:=List.length_filter_lt_length_iff_exists.2 (⟨j,m7.2 hj,sJ⟩:∃ x,x∈List.range m.length∧¬ Go.Lib.keeps m.toArray x=true)
  simpa using h1
theorem ao {l:LI} (hl:l.length≤100000):m_g5 l=some (decide (¬ l.Nodup)):=by
 have hp:=Te l
 have hs:=Uh l
 have hlen:=hp.length_eq
 have h1:=XB hs
 rw [hlen,hp.nodup_iff] at h1
 have e1:sortI l=some (isortI l):=by unfold sortI BIG; rw [B0]
 have e2:compactI (isortI l)=some (Go.Lib.compact (isortI l)):=by unfold compactI BIG; rw [B0]
 have e3:colV l=some l:=by unfold colV BIG; rw [B0]
 unfold m_g5 m_g2 m_g4 m_g3
 simp only [obs,e1,e2,e3]
 congr 1
 rw [decide_eq_decide,← h1]
 omega
theorem Rv {l:LI} {n:Nat} (hn:n≤30) (h:Pm l n):m_g5 l=some false:=by
 rw [ao (by have:=h.len; omega),decide_eq_false (fun hh=>hh h.nd)]
theorem Fy {adj:L2} (hG:Gr adj) (hn:adj.length≤30) {l:LI} (h:Pm l adj.length):m_im adj l=some 0:=by
 have hlen:=h.len
 have hc:m_il l adj=some false:=by
  unfold m_il
  have:m_ik l adj=some (-1):=by
   refine Ret.eq ?_
   unfold m_ik
   rw [O0]
   refine Y4 (P:=fun o=>o=.inl ()) ?_ (by rintro _ rfl; rw [K0])
   refine Q0 l.length (fun k (t:Int)=>t=(k:Int)) rfl ?_
   rintro k t hk rfl
   unfold m_ij m_ii m_e3
   by_cases Cu:k < l.length
   ·have hx:=h.rng _ (Z1 Cu)
    have e1:getI l (k:Int)=some l[k]:=getI_lt Cu
    have e5:(k:Int) < (l.length:Int):=n0
    have hw:wa .i64 (k:Int) 1=((k+1:Nat):Int):=wa1 n0
    have e6:(decide (0≤l[k]) && decide (l[k] < (adj.length:Int)))=true:=by simp; omega
    simp only [vcC,D2,reduceCtorEq,e1,e5,e6,hw]
    exact ⟨n0,trivial⟩
   ·have e5:¬ (k:Int) < (l.length:Int):=n0
    simp only [vcC,D2,reduceCtorEq,e5]
  rw [bindS this,decide_eq_false n0]
 unfold m_im
 rw [bindS (F8 hG n0),I0 rfl,B0,bindS hc]
 simp only [D2,if_false,y6,Rv hn h]
open Classical in
theorem Wo {adj:L2} (hG:Gr adj) (hn:adj.length≤30) {l:LI} (h:Pm l adj.length):m_in adj l=some ((List.range l.length).map fun i=>coll (fun j=>IJ adj l i j) l.length,0):=by
 have hlen:=h.len
 unfold m_in
 rw [bindS (Fy hG hn h),I0 rfl,bindS (mq hG n0 n0 h.rng)]
end Pl
