/- Plain facts on loops, lists and bounded integers, for laws over models. -/
import Derived.Test.YtgnfkbaghjmgiaaGreatDoorTm
namespace Pl
open Sx Go
theorem getI_cast {α:Type} (l:List α) (k:Nat):getI l (k:Int)=l[k]?:=rfl
theorem setI_cast {α:Type} (l:List α) (k:Nat) (z:α):setI l (k:Int) z=if k < l.length then some (l.set k z) else none:=rfl
theorem setI_lt {α:Type} {l:List α} {k:Nat} {z:α} (h:k < l.length):setI l (k:Int) z=some (l.set k z):=by rw [setI_cast,if_pos h]
theorem getI_lt {α:Type} {l:List α} {k:Nat} (h:k < l.length):getI l (k:Int)=some l[k]:=by rw [getI_cast]; simp [h]
theorem getI_of {α:Type} {l:List α} {q:Int} {z:α} (hq:0≤q) (h:l[q.toNat]?=some z):getI l q=some z:=by
  obtain ⟨k,rfl⟩:=Int.eq_ofNat_of_zero_le hq
  rw [getI_cast]; simpa using h
theorem setI_of {α:Type} {l:List α} {q:Int} {z:α} (hq:0≤q) (h:q.toNat < l.length):setI l q z=some (l.set q.toNat z):=by
  obtain ⟨k,rfl⟩:=Int.eq_ofNat_of_zero_le hq
  rw [setI_lt (by simpa using h)]; simp
theorem app_small {α:Type} {l m:List α} (h:l.length+m.length≤1099511627776):app l m=some (l++m):=by
  unfold app BIG; rw [if_pos (by omega)]
theorem mkL_nat {α:Type} (z:α) (n:Nat) (h:n≤1099511627776):mkL z (n:Int)=some (List.replicate n z):=by
  unfold mkL BIG; rw [if_pos (by omega)]; simp
def InW (n:Int):Prop:=-9223372036854775808≤n∧n≤9223372036854775807
theorem wa_in {x y:Int} (h:InW (x+y)):wa .i64 x y=x+y:=IntWalk.i64_in _ h
theorem ws_in {x y:Int} (h:InW (x - y)):ws .i64 x y=x - y:=IntWalk.i64_in _ h
theorem wm_in {x y:Int} (h:InW (x*y)):wm .i64 x y=x*y:=IntWalk.i64_in _ h
theorem wa1 {k:Nat} (h:k < 4611686018427387904):wa .i64 (k:Int) 1=((k+1:Nat):Int):=by rw [wa_in (by constructor<;>omega)]; rfl
theorem forG {τ σ ρ:Type} {step:τ→Option (τ⊕ρ)} (mk:Nat→σ→τ) (n:Nat) (hn:n < 1000000000) (I:Nat→σ→Prop) (Post:ρ→Prop) {s0:σ} (h0:I 0 s0)
    (hstep:∀ k s,k < n→I k s→(∃ s',step (mk k s)=some (.inl (mk (k+1) s'))∧I (k+1) s')∨(∃ o,step (mk k s)=some (.inr o)∧Post o))
    (hend:∀ s,I n s→∃ o,step (mk n s)=some (.inr o)∧Post o):∃ o,loop step (mk 0 s0)=some o∧Post o:=by
  have key:∀ (m k:Nat) (s:σ) (fuel:Nat),k+m=n→m < fuel→I k s→∃ o,loopN step fuel (mk k s)=some o∧Post o:=by
    intro m
    induction m with
    | zero=>
      intro k s fuel hk hf hI
      obtain rfl:k=n:=by omega
      obtain ⟨o,h1,h2⟩:=hend s hI
      cases fuel with
      | zero=>omega
      | succ fuel=>exact ⟨o,by simp [loopN,h1],h2⟩
    | succ m ih=>
      intro k s fuel hk hf hI
      cases fuel with
      | zero=>omega
      | succ fuel=>
        rcases hstep k s (by omega) hI with ⟨s',h1,h2⟩ | ⟨o,h1,h2⟩
        · obtain ⟨o,h3,h4⟩:=ih (k+1) s' fuel (by omega) (by omega) h2
          exact ⟨o,by simp [loopN,h1,h3],h4⟩
        · exact ⟨o,by simp [loopN,h1],h2⟩
  exact key n 0 s0 FUEL (by omega) (by unfold FUEL; omega) h0
theorem whileG {τ ρ:Type} {step:τ→Option (τ⊕ρ)} (I:τ→Prop) (Post:ρ→Prop) (μ:τ→Nat) {s:τ} (hs:I s) (hμ:μ s < 1000000000)
    (h:∀ s,I s→(∃ s',step s=some (.inl s')∧I s'∧μ s' < μ s)∨(∃ o,step s=some (.inr o)∧Post o)):∃ o,loop step s=some o∧Post o:=by
  refine loop_inv I Post μ hs (by unfold FUEL; omega) fun s hI=>?_
  rcases h s hI with ⟨s',h1,h2,h3⟩ | ⟨o,h1,h2⟩
  · exact ⟨_,h1,h2,h3⟩
  · exact ⟨_,h1,h2⟩
theorem bindS {α β:Type} {e:Option α} {f:α→Option β} {x:α} (h:e=some x):e.bind f=f x:=by rw [h]; rfl
theorem take_succ' {α:Type} {l:List α} {k:Nat} (h:k < l.length):l.take (k+1)=l.take k++[l[k]]:=by
  rw [List.take_succ_eq_append_getElem h]
end Pl
