/- Graphs that the laws make: the lists of a symmetric table; the program's check and search. -/
import Derived.Test.YthpeajepbffinaaGreatPlB
namespace Pl
open Sx Go M
structure Gr (adj:L2):Prop where
 asc:∀ (v:Nat) l,adj[v]?=some l→l.Pairwise (· < ·)
 rng:∀ (v:Nat) l x,adj[v]?=some l→x∈l→0≤x∧x < adj.length∧x≠(v:Int)
 sym:∀ (v:Nat) l x,adj[v]?=some l→x∈l→∃ m,adj[x.toNat]?=some m∧(v:Int)∈m
def nbr (b:Nat→Nat→Bool) (k:Nat):Nat→LI
 | 0=>[]
 | m+1=>nbr b k m++(if k≠m∧(b k m=true∨b m k=true) then [(m:Int)] else [])
theorem nbr_mem {b:Nat→Nat→Bool} {k:Nat} {x:Int}:∀ m,x∈nbr b k m↔0≤x∧x.toNat < m∧k≠x.toNat∧(b k x.toNat=true∨b x.toNat k=true):=by
 intro m
 induction m with
 | zero=>simp [nbr]
 | succ m ih=>
  rw [nbr,List.mem_append,ih]
  constructor
  ·rintro (h | h)
   ·exact ⟨h.1,by omega,h.2.2⟩
   split at h
   ·rename_i hc
    simp at h; subst h
    exact ⟨by omega,by omega,by simpa using hc⟩
   simp at h
  rintro ⟨h1,h2,h3⟩
  by_cases hx:x.toNat=m
  ·right
   rw [hx] at h3
   rw [if_pos h3]
   simp; omega
  exact .inl ⟨h1,by omega,h3⟩
theorem nbr_asc {b:Nat→Nat→Bool} {k:Nat}:∀ m,(nbr b k m).Pairwise (· < ·):=by
 intro m
 induction m with
 | zero=>exact .nil
 | succ m ih=>
  rw [nbr,List.pairwise_append]
  refine ⟨ih,?_,?_⟩
  ·split<;>simp
  intro x hx y hy
  have:=(nbr_mem m).1 hx
  split at hy
  ·simp at hy; omega
  simp at hy
theorem nbr_len {b:Nat→Nat→Bool} {k:Nat}:∀ m,(nbr b k m).length≤m:=by
 intro m
 induction m with
 | zero=>simp [nbr]
 | succ m ih=>rw [nbr,List.length_append]; split<;>simp<;>omega
def Tb (T:List BL) (n:Nat) (b:Nat→Nat→Bool):Prop:=T.length=n∧∀ i,i < n→∃ r,T[i]?=some r∧r.length=n∧∀ j,j < n→r[j]?=some (b i j)
theorem Tb.get {T:List BL} {n:Nat} {b:Nat→Nat→Bool} (h:Tb T n b) {i:Nat} (hi:i < n):∃ r,getI T (i:Int)=some r∧T[i]?=some r∧r.length=n∧(∀ j:Nat,j < n→getI r (j:Int)=some (b i j)):=by
 obtain ⟨r,h1,h2,h3⟩:=h.2 i hi
 exact ⟨r,h1,h1,h2,fun j hj=>h3 j hj⟩
theorem Tb.set {T:List BL} {n:Nat} {b:Nat→Nat→Bool} (h:Tb T n b) {i j:Nat} (hi:i < n) {r:BL} (hr:T[i]?=some r):Tb (T.set i (r.set j true)) n (fun a c=>if a=i∧c=j then true else b a c):=by
 refine ⟨by simp [h.1],fun a ha=>?_⟩
 by_cases hai:a=i
 ·subst hai
  obtain ⟨r',h1,h2,h3⟩:=h.2 a ha
  rw [hr] at h1; cases h1
  refine ⟨r.set j true,by rw [List.getElem?_set,if_pos rfl,if_pos (by rw [h.1]; exact ha)],by simp [h2],fun c hc=>?_⟩
  show _=some (if a=a∧c=j then true else b a c)
  rw [List.getElem?_set]
  by_cases hcj:j=c
  ·subst hcj
   rw [if_pos rfl,if_pos (by omega),if_pos ⟨rfl,rfl⟩]
  rw [if_neg hcj,if_neg (by omega),h3 c hc]
 obtain ⟨r',h1,h2,h3⟩:=h.2 a ha
 refine ⟨r',by rw [List.getElem?_set,if_neg (by omega),h1],h2,fun c hc=>?_⟩
 show _=some (if a=i∧c=j then true else b a c)
 rw [if_neg (by omega),h3 c hc]
theorem fromTable_ok {T:List BL} {n:Nat} {b:Nat→Nat→Bool} (h:Tb T n b) (hn:n≤1000):sparseref12_FromTable T=some ((List.range n).map fun k=>nbr b k n):=by
 have hl:=h.1
 unfold sparseref12_FromTable
 obtain ⟨o,h1,h2⟩:=forG (step:=sparseref12_FromTable_l27 T) (fun k (s:L2)=>(s,(k:Int))) n (by omega) (fun k s=>s=(List.range k).map fun k=>nbr b k n)
   (fun o=>o=(List.range n).map fun k=>nbr b k n) (s0:=[]) rfl (by
    intro k s hk hI
    subst hI
    obtain ⟨r,g1,_,_,g3⟩:=h.get hk
    obtain ⟨o,h1,h2⟩:=forG (step:=sparseref12_FromTable_l36 T (k:Int)) (fun j (s:LI)=>(s,(j:Int))) n (by omega) (fun j s=>s=nbr b k j) (fun o=>o=nbr b k n) (s0:=[]) rfl (by
     intro j s hj hI
     subst hI
     obtain ⟨r',g1',_,_,g3'⟩:=h.get hj
     have hb:∃ q:Bool,(q=true↔(k≠j∧(b k j=true∨b j k=true)))∧(if (k:Int)=(j:Int) then some false else (getI T (k:Int)).bind fun x361=>(getI x361 (j:Int)).bind fun x363=>
       (if x363=true then some true else (getI T (j:Int)).bind fun x370=>(getI x370 (k:Int)).bind fun x372=>some x372).bind fun r367=>some r367)=some q:=by
      by_cases hkj:k=j
      ·exact ⟨false,by simp [hkj],by rw [if_pos (by omega)]⟩
      rw [if_neg (by omega),bindS g1,bindS (g3 j hj)]
      by_cases hb1:b k j=true
      ·exact ⟨true,by simp [hkj,hb1],by rw [if_pos hb1]; rfl⟩
      rw [if_neg hb1,bindS g1',bindS (g3' k hk)]
      exact ⟨b j k,by simp [hkj,hb1],rfl⟩
     obtain ⟨q,hq1,hq2⟩:=hb
     unfold sparseref12_FromTable_l36
     simp only
     rw [if_pos (by omega),bindS hq2]
     have hlen:=nbr_len (b:=b) (k:=k) j
     by_cases hq:q=true
     ·rw [if_pos hq,bindS (app_small (by simp; omega))]
      unfold sparseref12_FromTable_j40
      rw [wa1 (by omega)]
      exact .inl ⟨_,rfl,by rw [nbr,if_pos (hq1.1 hq)]⟩
     ·rw [if_neg hq]
      unfold sparseref12_FromTable_j40
      rw [wa1 (by omega)]
      exact .inl ⟨_,rfl,by rw [nbr,if_neg (fun hh=>hq (hq1.2 hh))]; simp⟩) (by
     intro s hI
     subst hI
     unfold sparseref12_FromTable_l36
     simp only
     rw [if_neg (by omega)]
     exact ⟨_,rfl,rfl⟩)
    have h1':loop (sparseref12_FromTable_l36 T (k:Int)) ([],0)=some o:=h1
    unfold sparseref12_FromTable_l27
    simp only
    rw [if_pos (by omega),bindS h1',h2,bindS (app_small (by simp; omega)),wa1 (by omega)]
    exact .inl ⟨_,rfl,by rw [List.range_succ]; simp⟩) (by
    intro s hI
    subst hI
    unfold sparseref12_FromTable_l27
    simp only
    rw [if_neg (by omega)]
    exact ⟨_,rfl,rfl⟩)
 have h1':loop (sparseref12_FromTable_l27 T) ([],0)=some o:=h1
 rw [bindS h1',h2]
end Pl
