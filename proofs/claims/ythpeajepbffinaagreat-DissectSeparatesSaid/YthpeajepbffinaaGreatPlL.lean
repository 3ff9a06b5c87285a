/- The search in an ascending list; the program's check of a graph holds for a graph. -/
import Derived.Test.YthpeajepbffinaaGreatPlK
namespace Pl
open Sx Go M
theorem isNaN_f (x:Int):slices_isNaN_int x=some false:=by unfold slices_isNaN_int; simp
theorem less_ok (x y:Int):cmp_Less_int x y=some (decide (x < y)):=by
 unfold cmp_Less_int cmp_isNaN_int; simp
theorem asc_get {l:LI} (h:l.Pairwise (· < ·)) {i j:Nat} (hj:j < l.length) (hij:i < j):l[i] < l[j]:=
 List.pairwise_iff_getElem.1 h i j (by omega) hj hij
theorem mid_ok (a b:Nat) (h:a < b) (hb:b < 1000000):wc .i64 (wsrc .u64 (wc .u64 (wa .i64 (a:Int) (b:Int))) 1)=(((a+b) / 2:Nat):Int):=by
 rw [wa_in (by constructor<;>omega)]
 have h1:wc .u64 ((a:Int)+(b:Int))=(a:Int)+(b:Int):=IntWalk.u64_in _ (by omega)
 rw [h1]
 have h2:wsrc .u64 ((a:Int)+(b:Int)) 1=(((a+b) / 2:Nat):Int):=by
  unfold wsrc
  have:(2:Int) ^ min 1 IntKind.u64.bits=2:=by rfl
  rw [this,Int.fdiv_eq_ediv_of_nonneg _ (by omega)]
  omega
 rw [h2]
 exact IntWalk.i64_in _ (by omega)
theorem search_ok {l:LI} (h:l.Pairwise (· < ·)) (hl:l.length < 1000000) (x:Int):∃ i,slices_BinarySearch_int l x=some (i,decide (x∈l)):=by
 unfold slices_BinarySearch_int
 obtain ⟨o,h1,h2⟩:=whileG (step:=slices_BinarySearch_int_l3 l x) (s:=(0,(l.length:Int)))
   (fun s=>∃ a b:Nat,s=((a:Int),(b:Int))∧a≤b∧b≤l.length∧(∀ i,∀ hi:i < l.length,i < a→l[i] < x)∧(∀ i,∀ hi:i < l.length,b≤i→x≤l[i]))
   (fun o=>∃ a:Nat,o=(a:Int)∧a≤l.length∧(∀ i,∀ hi:i < l.length,i < a→l[i] < x)∧(∀ i,∀ hi:i < l.length,a≤i→x≤l[i])) (fun s=>(s.2 - s.1).toNat)
   ⟨0,l.length,rfl,by omega,by omega,fun i _ h=>by omega,fun i _ h=>by omega⟩ (by simp only; omega) (by
   rintro s ⟨a,b,rfl,hab,hb,ha1,hb1⟩
   unfold slices_BinarySearch_int_l3
   simp only
   by_cases hc:a < b
   ·have hm:(a+b) / 2 < l.length:=by omega
    rw [if_pos (by omega),mid_ok a b hc (by omega),bindS (getI_lt hm),bindS (less_ok _ _)]
    unfold slices_BinarySearch_int_j11
    by_cases hlt:l[(a+b) / 2] < x
    ·rw [if_pos (by simpa using hlt),wa1 (by omega)]
     refine .inl ⟨_,rfl,⟨(a+b) / 2+1,b,rfl,by omega,hb,fun i hi hia=>?_,hb1⟩,by simp only; omega⟩
     by_cases he:i=(a+b) / 2
     ·subst he; exact hlt
     have:=asc_get h hm (i:=i) (by omega)
     omega
    rw [if_neg (by simpa using hlt)]
    refine .inl ⟨_,rfl,⟨a,(a+b) / 2,rfl,by omega,by omega,ha1,fun i hi hia=>?_⟩,by simp only; omega⟩
    by_cases he:i=(a+b) / 2
    ·subst he; omega
    have:=asc_get h hi (i:=(a+b) / 2) (by omega)
    omega
   rw [if_neg (by omega)]
   exact .inr ⟨_,rfl,a,rfl,by omega,ha1,fun i hi hia=>hb1 i hi (by omega)⟩)
 rw [bindS h1]
 obtain ⟨a,rfl,hal,ha1,ha2⟩:=h2
 by_cases hc:a < l.length
 ·rw [if_pos (by omega),bindS (getI_lt hc)]
  by_cases he:l[a]=x
  ·rw [if_pos he]
   refine ⟨(a:Int),?_⟩
   have:x∈l:=he▸List.getElem_mem hc
   simp [this]
  rw [if_neg he,bindS (getI_lt hc),bindS (isNaN_f _)]
  refine ⟨(a:Int),?_⟩
  have:x∉l:=by
   intro hm
   rw [List.mem_iff_getElem] at hm
   obtain ⟨i,hi,hx⟩:=hm
   rcases Nat.lt_trichotomy i a with h3 | h3 | h3
   ·have:=ha1 i hi h3; omega
   ·subst h3; exact he hx
   have:=asc_get h hi h3
   have:=ha2 a hc (Nat.le_refl _)
   omega
  simp [this]
 rw [if_neg (by omega)]
 refine ⟨(a:Int),?_⟩
 have:x∉l:=by
  intro hm
  rw [List.mem_iff_getElem] at hm
  obtain ⟨i,hi,hx⟩:=hm
  have:=ha1 i hi (by omega); omega
 simp [this]
theorem joined_ok {adj:L2} (hG:Gr adj) {v:Int} {l:LI} (hv:getI adj v=some l) (hv0:0≤v) (hl:l.length < 1000000) (x:Int):graph_joined adj v x=some (decide (x∈l)):=by
 unfold graph_joined
 rw [bindS hv]
 have hv':adj[v.toNat]?=some l:=by
  obtain ⟨k,rfl⟩:=Int.eq_ofNat_of_zero_le hv0
  exact hv
 obtain ⟨i,h⟩:=search_ok (hG.asc _ _ hv') hl x
 rw [bindS h]
theorem ascending_ok {l:LI} {n:Nat} (h:l.Pairwise (· < ·)) (hr:∀ x,x∈l→0≤x∧x < n) (hl:l.length < 1000000):graph_ascending l (n:Int)=some true:=by
 unfold graph_ascending
 obtain ⟨o,h1,h2⟩:=forG (step:=graph_ascending_l3 l (n:Int)) (fun k (s:Int)=>(s,(k:Int))) l.length (by omega) (fun k s=>∀ i,∀ hi:i < l.length,k≤i→s < l[i])
   (fun o=>o=.inl ()) (s0:=-1) (fun i hi _=>by have:=hr _ (List.getElem_mem hi); omega) (by
    intro k s hk hI
    have h3:=hr _ (List.getElem_mem hk)
    have h4:=hI k hk (Nat.le_refl _)
    unfold graph_ascending_l3
    simp only
    rw [if_pos (by omega),bindS (getI_lt hk),if_neg (by simp; omega),wa1 (by omega)]
    exact .inl ⟨_,rfl,fun i hi hki=>asc_get h hi (by omega)⟩) (by
    intro s hI
    unfold graph_ascending_l3
    simp only
    rw [if_neg (by omega)]
    exact ⟨_,rfl,rfl⟩)
 have h1':loop (graph_ascending_l3 l (n:Int)) (-1,0)=some o:=h1
 rw [bindS h1',h2]
theorem asc_len {l:LI} {n:Nat} (h:l.Pairwise (· < ·)) (hr:∀ x,x∈l→0≤x∧x < n):l.length≤n:=by
 have key:∀ i,∀ hi:i < l.length,(i:Int)≤l[i]:=by
  intro i
  induction i with
  | zero=>intro hi; have:=hr _ (List.getElem_mem hi); omega
  | succ i ih=>
   intro hi
   have h1:=ih (by omega)
   have h2:=asc_get h hi (i:=i) (by omega)
   omega
 by_cases h0:l.length=0
 ·omega
 have h1:=key (l.length - 1) (by omega)
 have h2:=hr _ (List.getElem_mem (show l.length - 1 < l.length by omega))
 omega
theorem Gr.len {adj:L2} (hG:Gr adj) {v:Nat} {l:LI} (h:adj[v]?=some l):l.length≤adj.length:=
 asc_len (hG.asc v l h) (fun x hx=>⟨(hG.rng v l x h hx).1,(hG.rng v l x h hx).2.1⟩)
theorem graphCheck_ok {adj:L2} (hG:Gr adj) (hn:adj.length≤200):graph_Check adj=some 0:=by
 unfold graph_Check
 rw [if_neg (by omega)]
 obtain ⟨o,h1,h2⟩:=forG (step:=graph_Check_l3 adj) (fun k (_:Unit)=>(k:Int)) adj.length (by omega) (fun k _=>True)
   (fun o=>o=.inl ()) (s0:=()) trivial (by
    intro k _ hk _
    have hg:adj[k]?=some adj[k]:=by simp [hk]
    have hlen:=hG.len hg
    have h3:=ascending_ok (n:=adj.length) (hG.asc k _ hg) (fun x hx=>⟨(hG.rng k _ x hg hx).1,(hG.rng k _ x hg hx).2.1⟩) (by omega)
    have h4:=joined_ok hG (getI_lt hk) (by omega) (by omega) (k:Int)
    have h5:(k:Int)∉adj[k]:=fun hm=>(hG.rng k _ _ hg hm).2.2 rfl
    unfold graph_Check_l3
    rw [if_pos (by omega),bindS (getI_lt hk),bindS h3,if_pos rfl,bindS h4]
    simp only [h5,decide_false,Option.bind_some,Bool.false_eq_true,if_false]
    rw [wa1 (by omega)]
    exact .inl ⟨(),rfl,trivial⟩) (by
    intro _ _
    unfold graph_Check_l3
    rw [if_neg (by omega)]
    exact ⟨_,rfl,rfl⟩)
 have h1':loop (graph_Check_l3 adj) 0=some o:=h1
 rw [bindS h1',h2]
 simp only
 obtain ⟨o,h1,h2⟩:=forG (step:=graph_Check_l6 adj) (fun k (_:Unit)=>(k:Int)) adj.length (by omega) (fun k _=>True)
   (fun o=>o=.inl ()) (s0:=()) trivial (by
    intro k _ hk _
    have hg:adj[k]?=some adj[k]:=by simp [hk]
    have hlen:=hG.len hg
    obtain ⟨o,h1,h2⟩:=forG (step:=graph_Check_l7 adj[k] adj (k:Int)) (fun j (_:Unit)=>(j:Int)) adj[k].length (by omega) (fun j _=>True)
     (fun o=>o=.inl ()) (s0:=()) trivial (by
      intro j _ hj _
      have hr:=hG.rng k _ _ hg (List.getElem_mem hj)
      obtain ⟨m,hm1,hm2⟩:=hG.sym k _ _ hg (List.getElem_mem hj)
      have hml:=hG.len hm1
      have h4:=joined_ok hG (getI_of hr.1 hm1) hr.1 (by omega) (k:Int)
      unfold graph_Check_l7
      rw [if_pos (by omega),bindS (getI_lt hj),bindS h4,if_pos (by simpa using hm2),wa1 (by omega)]
      exact .inl ⟨(),rfl,trivial⟩) (by
      intro _ _
      unfold graph_Check_l7
      rw [if_neg (by omega)]
      exact ⟨_,rfl,rfl⟩)
    have h1':loop (graph_Check_l7 adj[k] adj (k:Int)) 0=some o:=h1
    unfold graph_Check_l6
    rw [if_pos (by omega),bindS (getI_lt hk),bindS h1',h2]
    simp only
    rw [wa1 (by omega)]
    exact .inl ⟨(),rfl,trivial⟩) (by
    intro _ _
    unfold graph_Check_l6
    rw [if_neg (by omega)]
    exact ⟨_,rfl,rfl⟩)
 have h1':loop (graph_Check_l6 adj) 0=some o:=h1
 rw [bindS h1',h2]
end Pl
