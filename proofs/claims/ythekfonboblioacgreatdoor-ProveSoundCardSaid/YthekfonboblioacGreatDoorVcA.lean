/- A small calculus of weakest preconditions for the printed models: what a call returns, rules for each step, one rule for loops. It holds over any program. -/
import Derived.Test.YthekfonboblioacGreatDoorTm
set_option linter.unusedSimpArgs false
set_option linter.unusedVariables false
namespace Vc
open Sx Go
def Ret {α:Type} (m:Option α) (Q:α→Prop):Prop:=∃ x,m=some x∧Q x
def VQ {τ ρ:Type} (P:τ→Prop) (Q:ρ→Prop):τ⊕ρ→Prop
 | .inl t=>P t
 | .inr o=>Q o
theorem Ca {τ ρ:Type} {P:τ→Prop} {Q:ρ→Prop} {t:τ}:VQ P Q (.inl t)=P t:=rfl
theorem Ba {τ ρ:Type} {P:τ→Prop} {Q:ρ→Prop} {t:ρ}:VQ P Q (.inr t)=Q t:=rfl
theorem obs {α β:Type} {x:α} {f:α→Option β}:(some x).bind f=f x:=by
 have h:∀ e:Option α,e=some x→e.bind f=f x:=by rintro _ rfl; rfl
 exact h _ rfl
theorem D4 {α:Type} {x:α} {Q:α→Prop}:Ret (some x) Q=Q x:=by simp [Ret]
theorem Xq {α:Type} {Q:α→Prop}:Ret none Q=False:=by simp [Ret]
theorem J0 {α β:Type} {m:Option α} {f:α→Option β} {Q:β→Prop}:Ret (m.bind f) Q=Ret m (fun x=>Ret (f x) Q):=by
 cases m<;>simp [Ret]
theorem O0 {α:Type} {c:Prop} [Decidable c] {a b:Option α} {Q:α→Prop}:Ret (if c then a else b) Q=((c→Ret a Q)∧(¬ c→Ret b Q)):=by
 split<;>simp_all
theorem C3 {α:Type} {l:List α} {i:Int} {Q:α→Prop}:Ret (getI l i) Q=(0≤i∧i < l.length∧∀ x,l[i.toNat]?=some x→Q x):=by
 cases i with
 | ofNat k=>
  simp only [Ret,getI]
  apply propext
  constructor
  ·rintro ⟨x,h1,h2⟩
   have:=(S2.1 h1).1
   refine ⟨Int.natCast_nonneg k,by simpa using this,fun y hy=>?_⟩
   have:l[k]?=some y:=hy
   rw [h1] at this; cases this; exact h2
  ·rintro ⟨_,h1,h2⟩
   have h1':k < l.length:=by simpa using h1
   exact ⟨l[k],by simp [h1'],h2 _ (by simp [h1'])⟩
 | negSucc k=>simp only [Ret,getI]; apply propext; constructor; rintro ⟨x,h,_⟩; cases h; rintro ⟨h,_⟩; omega
theorem K4 {α:Type} {l:List α} {i:Int} {z:α} {Q:List α→Prop}:Ret (setI l i z) Q=(0≤i∧i < l.length∧Q (l.set i.toNat z)):=by
 cases i with
 | ofNat k=>
  simp only [Ret,setI]
  by_cases h:k < l.length
  ·simp [h]
  ·simp [h]
 | negSucc k=>simp only [Ret,setI]; apply propext; constructor; rintro ⟨x,h,_⟩; cases h; rintro ⟨h,_⟩; omega
theorem D2 {α:Type} {l m:List α} {Q:List α→Prop}:Ret (app l m) Q=(l.length+m.length≤1099511627776∧Q (l++m)):=by
 unfold app BIG Ret
 by_cases h:((l.length+m.length:Nat):Int)≤1099511627776
 ·rw [M0 h]; simp; omega
 ·rw [K0 h]; simp; omega
theorem Y5 {α:Type} {z:α} {n:Int} {Q:List α→Prop}:Ret (mkL z n) Q=(0≤n∧n≤1099511627776∧Q (List.replicate n.toNat z)):=by
 unfold mkL BIG Ret
 by_cases h:0≤n∧n≤1099511627776
 ·rw [M0 h]; simp [h]
 ·rw [K0 h]; simp; omega
theorem Qc {α:Type} {l:List α} {lo hi:Int} {Q:List α→Prop}:Ret (sli l lo hi) Q=(0≤lo∧lo≤hi∧hi≤l.length∧Q ((l.take hi.toNat).drop lo.toNat)):=by
 unfold sli subL Ret
 by_cases h:0≤lo∧lo≤hi∧hi≤l.length
 ·rw [M0 h]; simp [h]
 ·rw [K0 h]; simp; omega
theorem Ret.mono {α:Type} {m:Option α} {P Q:α→Prop} (h:Ret m P) (h':∀ x,P x→Q x):Ret m Q:=by
 obtain ⟨x,h1,h2⟩:=h; exact ⟨x,h1,h' x h2⟩
theorem Oy {α:Type} {m:Option α} {x:α} (h:m=some x) {Q:α→Prop}:Ret m Q=Q x:=by rw [h,D4]
theorem Ret.eq {α:Type} {m:Option α} {x:α} (h:Ret m (fun y=>y=x)):m=some x:=by
 obtain ⟨y,h1,h2⟩:=h; rw [h1,h2]
theorem Q0 {τ ρ:Type} {step:τ→Option (τ⊕ρ)} {Post:ρ→Prop} (n:Nat) (I:Nat→τ→Prop) {s:τ} (h0:I 0 s)
  (h:∀ k t,k≤n→I k t→Ret (step t) (VQ (fun t'=>k < n∧I (k+1) t') Post)) (hn:n < 9223372036854775808:=by omega):Ret (loop step s) Post:=by
 have key:∀ (m k:Nat) (t:τ) (fuel:Nat),k+m=n→m < fuel→I k t→Ret (loopN step fuel t) Post:=by
  intro m
  induction m with
  | zero=>
   intro k t fuel hk hf hI
   obtain ⟨r,h1,h2⟩:=h k t A0 hI
   cases fuel with
   | zero=>omega
   | succ fuel=>
    cases r with
    | inl t'=>exact absurd h2.1 A0
    | inr o=>exact ⟨o,by simp [loopN,h1],h2⟩
  | succ m ih=>
   intro k t fuel hk hf hI
   obtain ⟨r,h1,h2⟩:=h k t A0 hI
   cases fuel with
   | zero=>omega
   | succ fuel=>
    cases r with
    | inl t'=>
     obtain ⟨o,h3,h4⟩:=ih (k+1) t' fuel A0 A0 h2.2
     exact ⟨o,by simp [loopN,h1,h3],h4⟩
    | inr o=>exact ⟨o,by simp [loopN,h1],h2⟩
 exact key n 0 s FUEL A0 (by unfold FUEL; omega) h0
theorem U0 {x y:Int} (h1: -9223372036854775808≤x+y) (h2:x+y≤9223372036854775807):wa .i64 x y=x+y:=IntWalk.i64_in _ ⟨h1,h2⟩
theorem V2 {x y:Int} (h1: -9223372036854775808≤x - y) (h2:x - y≤9223372036854775807):ws .i64 x y=x - y:=IntWalk.i64_in _ ⟨h1,h2⟩
theorem K8 {x y:Int} (h1: -9223372036854775808≤x*y) (h2:x*y≤9223372036854775807):wm .i64 x y=x*y:=IntWalk.i64_in _ ⟨h1,h2⟩
attribute [grind =] U0 V2
theorem mts {α:Type} {l:List α} {k:Nat} {x y:α} (h:l[k]?=some x):y∈l.take (k+1)↔y∈l.take k∨y=x:=by
 simp [Jk,h]
theorem mts2 {α:Type} {l:List α} {k:Nat} {y:α}:y∈l.take (k+1)↔y∈l.take k∨l[k]?=some y:=by
 cases h:l[k]? with
 | none=>simp [Jk,h]
 | some x=>simp [Jk,h,eq_comm]
attribute [grind =] mts2
theorem Ow {w:Int}:0≤w→(w.toNat:Int)=w:=fun h=>Me h
attribute [grind! .] Ow
theorem tks {α:Type} {l:List α} {k:Nat} {x:α} (h:l[k]?=some x):l.take (k+1)=l.take k++[x]:=by
 simp [Jk,h]
theorem U9 {α:Type} {l:List α} {k:Nat} {x:α} (h:l[k]?=some x):x∈l:=Qk h
attribute [grind →] U9
theorem P5 {α:Type} {l:List α} {k:Nat} (h:l.length≤k):l.take k=l:=y9 h
end Vc
