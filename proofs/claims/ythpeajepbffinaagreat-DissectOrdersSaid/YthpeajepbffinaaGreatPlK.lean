/- Graphs that the laws make: the lists of a symmetric table; the program's check and search. -/
import Derived.Test.YthpeajepbffinaaGreatPlB
namespace Pl
open Sx Go M
structure Gr (adj:L2):Prop where
 asc:∀ (v:Nat) l,adj[v]?=some l→l.Pairwise (· < ·)
 rng:∀ (v:Nat) l x,adj[v]?=some l→x∈l→0≤x∧x < adj.length∧x≠(v:Int)
 sym:∀ (v:Nat) l x,adj[v]?=some l→x∈l→∃ m,adj[x.toNat]?=some m∧(v:Int)∈m
def nbr (b:Nat→Nat→Bool) (k:Nat):Nat→LI
 | 0=>[]
 | m+1=>nbr b k m++(if k≠m∧(b k m=true∨b m k=true) then [(m:Int)] else [])
theorem nbr_mem {b:Nat→Nat→Bool} {k:Nat} {x:Int}:∀ m,x∈nbr b k m↔0≤x∧x.toNat < m∧k≠x.toNat∧(b k x.toNat=true∨b x.toNat k=true):=by
 intro m
 induction m with
 | zero=>simp [nbr]
 | succ m ih=>
  rw [nbr,List.mem_append,ih]
  constructor
  ·rintro (h | h)
   ·exact ⟨h.1,by omega,h.2.2⟩
   ·split at h
    ·rename_i hc
     simp at h; subst h
     exact ⟨by omega,by omega,by simpa using hc⟩
    ·simp at h
  ·rintro ⟨h1,h2,h3⟩
   by_cases hx:x.toNat=m
   ·right
    rw [hx] at h3
    rw [if_pos h3]
    simp; omega
   ·exact .inl ⟨h1,by omega,h3⟩
theorem nbr_asc {b:Nat→Nat→Bool} {k:Nat}:∀ m,(nbr b k m).Pairwise (· < ·):=by
 intro m
 induction m with
 | zero=>exact .nil
 | succ m ih=>
  rw [nbr,List.pairwise_append]
  refine ⟨ih,?_,?_⟩
  ·split<;>simp
  ·intro x hx y hy
   have:=(nbr_mem m).1 hx
   split at hy
   ·simp at hy; omega
   ·simp at hy
theorem nbr_len {b:Nat→Nat→Bool} {k:Nat}:∀ m,(nbr b k m).length≤m:=by
 intro m
 induction m with
 | zero=>simp [nbr]
 | succ m ih=>rw [nbr,List.length_append]; split<;>simp<;>omega
def Tb (T:List BL) (n:Nat) (b:Nat→Nat→Bool):Prop:=T.length=n∧∀ i,i < n→∃ r,T[i]?=some r∧r.length=n∧∀ j,j < n→r[j]?=some (b i j)
theorem Tb.get {T:List BL} {n:Nat} {b:Nat→Nat→Bool} (h:Tb T n b) {i:Nat} (hi:i < n):∃ r,getI T (i:Int)=some r∧T[i]?=some r∧r.length=n∧(∀ j:Nat,j < n→getI r (j:Int)=some (b i j)):=by
 obtain ⟨r,h1,h2,h3⟩:=h.2 i hi
 exact ⟨r,h1,h1,h2,fun j hj=>h3 j hj⟩
theorem Tb.set {T:List BL} {n:Nat} {b:Nat→Nat→Bool} (h:Tb T n b) {i j:Nat} (hi:i < n) {r:BL} (hr:T[i]?=some r):Tb (T.set i (r.set j true)) n (fun a c=>if a=i∧c=j then true else b a c):=by
 refine ⟨by simp [h.1],fun a ha=>?_⟩
 by_cases hai:a=i
 ·subst hai
  obtain ⟨r',h1,h2,h3⟩:=h.2 a ha
  rw [hr] at h1; cases h1
  refine ⟨r.set j true,by rw [List.getElem?_set,if_pos rfl,if_pos (by rw [h.1]; exact ha)],by simp [h2],fun c hc=>?_⟩
  show _=some (if a=a∧c=j then true else b a c)
  rw [List.getElem?_set]
  by_cases hcj:j=c
  ·subst hcj
   rw [if_pos rfl,if_pos (by omega),if_pos ⟨rfl,rfl⟩]
  ·rw [if_neg hcj,if_neg (by omega),h3 c hc]
 ·obtain ⟨r',h1,h2,h3⟩:=h.2 a ha
  refine ⟨r',by rw [List.getElem?_set,if_neg (by omega),h1],h2,fun c hc=>?_⟩
  show _=some (if a=i∧c=j then true else b a c)
  rw [if_neg (by omega),h3 c hc]
theorem fromTable_ok {T:List BL} {n:Nat} {b:Nat→Nat→Bool} (h:Tb T n b) (hn:n≤1000):sparseref12_FromTable T=some ((List.range n).map fun k=>nbr b k n):=by
 have hl:=h.1
 unfold sparseref12_FromTable
 obtain ⟨o,h1,h2⟩:=forG (step:=sparseref12_FromTable_l27 T) (fun k (s:L2)=>(s,(k:Int))) n (by omega) (fun k s=>s=(List.range k).map fun k=>nbr b k n)
   (fun o=>o=(List.range n).map fun k=>nbr b k n) (s0:=[]) rfl (by
    intro k s hk hI
    subst hI
    obtain ⟨r,g1,_,_,g3⟩:=h.get hk
    obtain ⟨o,h1,h2⟩:=forG (step:=sparseref12_FromTable_l36 T (k:Int)) (fun j (s:LI)=>(s,(j:Int))) n (by omega) (fun j s=>s=nbr b k j) (fun o=>o=nbr b k n) (s0:=[]) rfl (by
     intro j s hj hI
     subst hI
     obtain ⟨r',g1',_,_,g3'⟩:=h.get hj
     have hb:∃ q:Bool,(q=true↔(k≠j∧(b k j=true∨b j k=true)))∧(if (k:Int)=(j:Int) then some false else (getI T (k:Int)).bind fun x361=>(getI x361 (j:Int)).bind fun x363=>
       (if x363=true then some true else (getI T (j:Int)).bind fun x370=>(getI x370 (k:Int)).bind fun x372=>some x372).bind fun r367=>some r367)=some q:=by
      by_cases hkj:k=j
      ·exact ⟨false,by simp [hkj],by rw [if_pos (by omega)]⟩
      ·rw [if_neg (by omega),bindS g1,bindS (g3 j hj)]
       by_cases hb1:b k j=true
       ·exact ⟨true,by simp [hkj,hb1],by rw [if_pos hb1]; rfl⟩
       ·rw [if_neg hb1,bindS g1',bindS (g3' k hk)]
        exact ⟨b j k,by simp [hkj,hb1],rfl⟩
     obtain ⟨q,hq1,hq2⟩:=hb
     unfold sparseref12_FromTable_l36
     simp only
     rw [if_pos (by omega),bindS hq2]
     have hlen:=nbr_len (b:=b) (k:=k) j
     by_cases hq:q=true
     ·rw [if_pos hq,bindS (app_small (by simp; omega))]
      unfold sparseref12_FromTable_j40
      rw [wa1 (by omega)]
      exact .inl ⟨_,rfl,by rw [nbr,if_pos (hq1.1 hq)]⟩
     ·rw [if_neg hq]
      unfold sparseref12_FromTable_j40
      rw [wa1 (by omega)]
      exact .inl ⟨_,rfl,by rw [nbr,if_neg (fun hh=>hq (hq1.2 hh))]; simp⟩) (by
     intro s hI
     subst hI
     unfold sparseref12_FromTable_l36
     simp only
     rw [if_neg (by omega)]
     exact ⟨_,rfl,rfl⟩)
    have h1':loop (sparseref12_FromTable_l36 T (k:Int)) ([],0)=some o:=h1
    unfold sparseref12_FromTable_l27
    simp only
    rw [if_pos (by omega),bindS h1',h2,bindS (app_small (by simp; omega)),wa1 (by omega)]
    exact .inl ⟨_,rfl,by rw [List.range_succ]; simp⟩) (by
    intro s hI
    subst hI
    unfold sparseref12_FromTable_l27
    simp only
    rw [if_neg (by omega)]
    exact ⟨_,rfl,rfl⟩)
 have h1':loop (sparseref12_FromTable_l27 T) ([],0)=some o:=h1
 rw [bindS h1',h2]
theorem nbr_gr (b:Nat→Nat→Bool) (n:Nat):Gr ((List.range n).map fun k=>nbr b k n):=by
 have hg:∀ (v:Nat) l,((List.range n).map fun k=>nbr b k n)[v]?=some l→v < n∧l=nbr b v n:=by
  intro v l h
  have hv:v < n:=by have:=(List.getElem?_eq_some_iff.1 h).1; simpa using this
  refine ⟨hv,?_⟩
  simp [hv] at h; exact h.symm
 refine ⟨?_,?_,?_⟩
 ·intro v l h
  obtain ⟨_,rfl⟩:=hg v l h
  exact nbr_asc n
 ·intro v l x h hx
  obtain ⟨hv,rfl⟩:=hg v l h
  have:=(nbr_mem n).1 hx
  simp only [List.length_map,List.length_range]
  omega
 ·intro v l x h hx
  obtain ⟨hv,rfl⟩:=hg v l h
  have hm:=(nbr_mem n).1 hx
  refine ⟨nbr b x.toNat n,by simp [hm.2.1],(nbr_mem n).2 ⟨by omega,by simpa using hv,by simp; omega,?_⟩⟩
  simp only [Int.toNat_natCast]
  exact hm.2.2.2.symm
theorem blank (n:Nat):Tb (List.replicate n (List.replicate n false)) n (fun _ _=>false):=
 ⟨by simp,fun i hi=>⟨List.replicate n false,by simp [hi],by simp,fun j hj=>by simp [hj]⟩⟩
theorem graph_ok {n:Nat} (hn:n≤1000) (x2:LI) (hl:x2.length≤1000000):∃ b:Nat→Nat→Bool,sparsemake_Graph (n:Int) x2=some ((List.range n).map fun k=>nbr b k n):=by
 unfold sparsemake_Graph
 obtain ⟨o,h1,h2⟩:=forG (step:=sparsemake_Graph_l1 (n:Int)) (fun k (s:List BL)=>(s,(k:Int))) n (by omega) (fun k s=>s=List.replicate k (List.replicate n false))
   (fun o=>o=List.replicate n (List.replicate n false)) (s0:=[]) rfl (by
    intro k s hk hI
    subst hI
    unfold sparsemake_Graph_l1
    simp only
    rw [if_pos (by omega),bindS (mkL_nat false n (by omega)),bindS (app_small (by simp; omega)),wa1 (by omega)]
    exact .inl ⟨_,rfl,by rw [List.replicate_succ']⟩) (by
    intro s hI
    subst hI
    unfold sparsemake_Graph_l1
    simp only
    rw [if_neg (by omega)]
    exact ⟨_,rfl,rfl⟩)
 have h1':loop (sparsemake_Graph_l1 (n:Int)) ([],0)=some o:=h1
 rw [bindS h1',h2]
 obtain ⟨o,h1,h2⟩:=whileG (step:=sparsemake_Graph_l4 x2 (n:Int)) (s:=(List.replicate n (List.replicate n false),0))
   (fun s=>0≤s.2∧s.2≤x2.length+2∧∃ b,Tb s.1 n b) (fun o=>∃ b,Tb o n b) (fun s=>(x2.length+3 - s.2).toNat)
   ⟨by simp,by simp only; omega,_,blank n⟩ (by simp only; omega) (by
   rintro ⟨T,k⟩ ⟨hk0,hk1,b,hb⟩
   simp only at hk0 hk1 hb
   unfold sparsemake_Graph_l4
   simp only
   rw [wa_in (by constructor<;>omega)]
   by_cases hc:((decide (k+1 < (x2.length:Int))) && (decide ((0:Int) < (n:Int))))=true
   ·rw [if_pos hc]
    simp at hc
    obtain ⟨i,hi⟩:∃ i:Nat,k=(i:Int):=⟨k.toNat,by omega⟩
    subst hi
    obtain ⟨z1,p1,q1⟩:=place_ok (x2[i]'(by omega)) n (by omega) (by omega)
    obtain ⟨z2,p2,q2⟩:=place_ok (x2[i+1]'(by omega)) n (by omega) (by omega)
    obtain ⟨r,g1,g2,g3,_⟩:=hb.get q1
    have e2:getI x2 ((i:Int)+1)=some (x2[i+1]'(by omega)):=by
     have:=getI_lt (l:=x2) (k:=i+1) (by omega)
     rw [show ((i+1:Nat):Int)=(i:Int)+1 by omega] at this
     exact this
    rw [bindS (getI_lt (by omega)),bindS p1,bindS g1,bindS e2,bindS p2,bindS (setI_lt (by omega)),bindS (setI_lt (by rw [hb.1]; exact q1)),wa_in (by constructor<;>omega)]
    exact .inl ⟨_,rfl,⟨by simp only; omega,by simp only; omega,_,hb.set q1 g2⟩,by simp only; omega⟩
   ·rw [if_neg hc]
    exact .inr ⟨_,rfl,b,hb⟩)
 rw [bindS h1]
 obtain ⟨b,hb⟩:=h2
 rw [bindS (fromTable_ok hb hn)]
 exact ⟨b,rfl⟩
end Pl
