/- Graphs that the laws make: the lists of a symmetric table; the program's check and search. -/
import Derived.Test.YtgnfkbaghjmgiaaGreatDoorPlB
namespace Pl
open Sx Go M
structure Gr (adj:List (List Int)):Prop where
  asc:∀ (v:Nat) l,adj[v]?=some l→l.Pairwise (· < ·)
  rng:∀ (v:Nat) l x,adj[v]?=some l→x∈l→0≤x∧x < adj.length∧x≠(v:Int)
  sym:∀ (v:Nat) l x,adj[v]?=some l→x∈l→∃ m,adj[x.toNat]?=some m∧(v:Int)∈m
def nbr (b:Nat→Nat→Bool) (k:Nat):Nat→List Int
  | 0=>[]
  | m+1=>nbr b k m++(if k≠m∧(b k m=true∨b m k=true) then [(m:Int)] else [])
theorem nbr_mem {b:Nat→Nat→Bool} {k:Nat} {x:Int}:∀ m,x∈nbr b k m↔0≤x∧x.toNat < m∧k≠x.toNat∧(b k x.toNat=true∨b x.toNat k=true):=by
  intro m
  induction m with
  | zero=>simp [nbr]
  | succ m ih=>
    rw [nbr,List.mem_append,ih]
    constructor
    · rintro (h | h)
      · exact ⟨h.1,by omega,h.2.2⟩
      · split at h
        · rename_i hc
          simp at h; subst h
          exact ⟨by omega,by omega,by simpa using hc⟩
        · simp at h
    · rintro ⟨h1,h2,h3⟩
      by_cases hx:x.toNat=m
      · right
        rw [hx] at h3
        rw [if_pos h3]
        simp; omega
      · exact .inl ⟨h1,by omega,h3⟩
theorem nbr_asc {b:Nat→Nat→Bool} {k:Nat}:∀ m,(nbr b k m).Pairwise (· < ·):=by
  intro m
  induction m with
  | zero=>exact .nil
  | succ m ih=>
    rw [nbr,List.pairwise_append]
    refine ⟨ih,?_,?_⟩
    · split<;>simp
    · intro x hx y hy
      have:=(nbr_mem m).1 hx
      split at hy
      · simp at hy; omega
      · simp at hy
theorem nbr_len {b:Nat→Nat→Bool} {k:Nat}:∀ m,(nbr b k m).length≤m:=by
  intro m
  induction m with
  | zero=>simp [nbr]
  | succ m ih=>rw [nbr,List.length_append]; split<;>simp<;>omega
def Tb (T:List (List Bool)) (n:Nat) (b:Nat→Nat→Bool):Prop:=T.length=n∧∀ i,i < n→∃ r,T[i]?=some r∧r.length=n∧∀ j,j < n→r[j]?=some (b i j)
theorem Tb.get {T:List (List Bool)} {n:Nat} {b:Nat→Nat→Bool} (h:Tb T n b) {i:Nat} (hi:i < n):∃ r,getI T (i:Int)=some r∧T[i]?=some r∧r.length=n∧(∀ j:Nat,j < n→getI r (j:Int)=some (b i j)):=by
  obtain ⟨r,h1,h2,h3⟩:=h.2 i hi
  exact ⟨r,h1,h1,h2,fun j hj=>h3 j hj⟩
theorem Tb.set {T:List (List Bool)} {n:Nat} {b:Nat→Nat→Bool} (h:Tb T n b) {i j:Nat} (hi:i < n) {r:List Bool} (hr:T[i]?=some r):Tb (T.set i (r.set j true)) n (fun a c=>if a=i∧c=j then true else b a c):=by
  refine ⟨by simp [h.1],fun a ha=>?_⟩
  by_cases hai:a=i
  · subst hai
    obtain ⟨r',h1,h2,h3⟩:=h.2 a ha
    rw [hr] at h1; cases h1
    refine ⟨r.set j true,by rw [List.getElem?_set,if_pos rfl,if_pos (by rw [h.1]; exact ha)],by simp [h2],fun c hc=>?_⟩
    show _=some (if a=a∧c=j then true else b a c)
    rw [List.getElem?_set]
    by_cases hcj:j=c
    · subst hcj
      rw [if_pos rfl,if_pos (by omega),if_pos ⟨rfl,rfl⟩]
    · rw [if_neg hcj,if_neg (by omega),h3 c hc]
  · obtain ⟨r',h1,h2,h3⟩:=h.2 a ha
    refine ⟨r',by rw [List.getElem?_set,if_neg (by omega),h1],h2,fun c hc=>?_⟩
    show _=some (if a=i∧c=j then true else b a c)
    rw [if_neg (by omega),h3 c hc]
theorem nbr_gr (b:Nat→Nat→Bool) (n:Nat):Gr ((List.range n).map fun k=>nbr b k n):=by
  have hg:∀ (v:Nat) l,((List.range n).map fun k=>nbr b k n)[v]?=some l→v < n∧l=nbr b v n:=by
    intro v l h
    have hv:v < n:=by have:=(List.getElem?_eq_some_iff.1 h).1; simpa using this
    refine ⟨hv,?_⟩
    simp [hv] at h; exact h.symm
  refine ⟨?_,?_,?_⟩
  · intro v l h
    obtain ⟨_,rfl⟩:=hg v l h
    exact nbr_asc n
  · intro v l x h hx
    obtain ⟨hv,rfl⟩:=hg v l h
    have:=(nbr_mem n).1 hx
    simp only [List.length_map,List.length_range]
    omega
  · intro v l x h hx
    obtain ⟨hv,rfl⟩:=hg v l h
    have hm:=(nbr_mem n).1 hx
    refine ⟨nbr b x.toNat n,by simp [hm.2.1],(nbr_mem n).2 ⟨by omega,by simpa using hv,by simp; omega,?_⟩⟩
    simp only [Int.toNat_natCast]
    exact hm.2.2.2.symm
theorem blank (n:Nat):Tb (List.replicate n (List.replicate n false)) n (fun _ _=>false):=
  ⟨by simp,fun i hi=>⟨List.replicate n false,by simp [hi],by simp,fun j hj=>by simp [hj]⟩⟩
end Pl
