/- Sorting: the library's. -/
import Derived.Test.YthpeajepbffinaaGreatPlB
import Derived.Test.YthpeajepbffinaaGreatM8
import Derived.Test.YthpeajepbffinaaGreatPlL
import Derived.Test.YthpeajepbffinaaGreatVcA
import Derived.KernelRfl
set_option linter.unusedSimpArgs false
set_option linter.unusedVariables false
namespace Pl
open Sx Go M
theorem sort_ok {l:LI} (hl:l.length≤30):∃ m,sortI l=some m∧m.Perm l∧m.Pairwise (·≤·):=by
 unfold sortI BIG
 rw [if_pos (by omega)]
 exact ⟨_,rfl,isortI_perm l,isortI_sorted l⟩
end Pl
/- Levels of a graph from a vertex: the search by breadth of the program. -/
namespace Pl
open Sx Go M
theorem nodup_len:∀ (n:Nat) (l:LI),l.Nodup→(∀ x,x∈l→0≤x∧x < n)→l.length≤n:=by
 intro n
 induction n with
 | zero=>
  intro l _ h
  cases l with
  | nil=>simp
  | cons x l=>have:=h x (by simp); omega
 | succ n ih=>
  intro l hd h
  have h1:=ih (l.filter (fun x=>decide (x≠(n:Int)))) (hd.filter _) (fun x hx=>by
   rw [List.mem_filter] at hx
   have h2:=h x hx.1
   have h3:x≠(n:Int):=by simpa using hx.2
   omega)
  have h2:=List.nodup_iff_count.1 hd (n:Int)
  have h3:=List.length_eq_countP_add_countP (fun x=>decide (x≠(n:Int))) (l:=l)
  rw [List.countP_eq_length_filter] at h3
  have h4:List.countP (fun a=>decide (¬ (decide (a≠(n:Int)))=true)) l=l.count (n:Int):=by
   unfold List.count
   refine List.countP_congr fun x _=>?_
   simp
  omega
def nbp (adj:L2) (v w:Nat):Prop:=∃ l,adj[v]?=some l∧(w:Int)∈l
structure IN (adj:L2) (lev:Nat→Nat) (now:LI) (seen:BL) (next:LI):Prop where
 len:seen.length=adj.length
 see:∀ u:Nat,u < adj.length→seen[u]?=some (decide (lev u≠0∨(u:Int)∈next))
 nd:next.Nodup
 new:∀ x,x∈next→0≤x∧x < adj.length∧lev x.toNat=0∧∃ v:Nat,(v:Int)∈now∧nbp adj v x.toNat
theorem bfs_in {adj:L2} (hG:Gr adj) (hn:adj.length≤30) {lev:Nat→Nat} {now:LI} {v:Nat} {l:LI} (hv:adj[v]?=some l) (hvn:(v:Int)∈now) {seen:BL} {next:LI} (h:IN adj lev now seen next):
  ∃ s:BL×LI,loop (graph_levels_l39 l) (seen,next,0)=some s∧IN adj lev now s.1 s.2∧(∀ x,x∈next→x∈s.2)∧∀ w:Nat,(w:Int)∈l→lev w≠0∨(w:Int)∈s.2:=by
 have hlen:=hG.len hv
 obtain ⟨o,h1,h2⟩:=forG (step:=graph_levels_l39 l) (fun k (s:BL×LI)=>(s.1,s.2,(k:Int))) l.length (by omega)
  (fun k s=>IN adj lev now s.1 s.2∧(∀ x,x∈next→x∈s.2)∧∀ w:Nat,(w:Int)∈l.take k→lev w≠0∨(w:Int)∈s.2)
  (fun s=>IN adj lev now s.1 s.2∧(∀ x,x∈next→x∈s.2)∧∀ w:Nat,(w:Int)∈l→lev w≠0∨(w:Int)∈s.2) (s0:=(seen,next)) ⟨h,fun _ h=>h,fun w hw=>by simp at hw⟩ (by
   rintro k ⟨seen,nx⟩ hk ⟨hI,hs,hd⟩
   simp only at hI hs hd
   have hr:=hG.rng v _ _ hv (List.getElem_mem hk)
   obtain ⟨w,hw⟩:=Int.eq_ofNat_of_zero_le hr.1
   have hwn:w < adj.length:=by omega
   have hmem:(w:Int)∈l:=hw▸List.getElem_mem hk
   have hgs:getI seen (w:Int)=some (decide (lev w≠0∨(w:Int)∈nx)):=hI.see w hwn
   have hnl:=nodup_len adj.length nx hI.nd (fun x hx=>⟨(hI.new x hx).1,(hI.new x hx).2.1⟩)
   have hlen2:=hI.len
   unfold graph_levels_l39
   simp only
   rw [if_pos (by omega),bindS (getI_lt hk),hw,bindS hgs]
   unfold graph_levels_j40
   by_cases hc:lev w≠0∨(w:Int)∈nx
   ·rw [if_pos (by simpa using hc),wa1 (by omega)]
    refine .inl ⟨(seen,nx),rfl,hI,hs,fun u hu=>?_⟩
    rw [take_succ' hk,List.mem_append,List.mem_singleton,hw] at hu
    rcases hu with hu | hu
    ·exact hd u hu
    obtain rfl:u=w:=by omega
    exact hc
   ·rw [if_neg (by simpa using hc),bindS (setI_lt (by omega)),bindS (app_small (by simp; omega)),wa1 (by omega)]
    have hc1:lev w=0:=by
     by_cases h:lev w=0
     ·exact h
     exact absurd (.inl h) hc
    have hc2:(w:Int)∉nx:=fun h=>hc (.inr h)
    refine .inl ⟨(seen.set w true,nx++[(w:Int)]),rfl,⟨by simp [hlen2],fun u hu=>?_,?_,fun x hx=>?_⟩,fun x hx=>by simp [hs x hx],fun u hu=>?_⟩
    ·rw [List.getElem?_set]
     by_cases huw:w=u
     ·subst huw
      rw [if_pos rfl,if_pos (by omega)]; simp
     rw [if_neg huw,hI.see u hu]
     have:¬ (u:Int)=(w:Int):=by omega
     simp [this]
    ·rw [List.nodup_append]
     refine ⟨hI.nd,by simp,fun a ha b hb=>?_⟩
     simp at hb; subst hb
     rintro rfl; exact hc2 ha
    ·rw [List.mem_append,List.mem_singleton] at hx
     rcases hx with hx | hx
     ·exact hI.new x hx
     subst hx
     exact ⟨by omega,by omega,by simpa using hc1,v,hvn,l,hv,by simpa using hmem⟩
    rw [take_succ' hk,List.mem_append,List.mem_singleton,hw] at hu
    rcases hu with hu | hu
    ·rcases hd u hu with h | h
     ·exact .inl h
     exact .inr (by simp [h])
    obtain rfl:u=w:=by omega
    exact .inr (by simp)) (by
   rintro ⟨seen,nx⟩ ⟨hI,hs,hd⟩
   unfold graph_levels_l39
   simp only
   rw [if_neg (by omega)]
   exact ⟨_,rfl,hI,hs,fun w hw=>hd w (by rwa [List.take_of_length_le (Nat.le_refl _)])⟩)
 exact ⟨o,h1,h2⟩
theorem bfs_mid {adj:L2} (hG:Gr adj) (hn:adj.length≤30) {lev:Nat→Nat} {now:LI} (hnow:∀ x,x∈now→0≤x∧x < adj.length) (hnl:now.length≤1000) {seen:BL} (hs:seen.length=adj.length) (hg:∀ u:Nat,u < adj.length→seen[u]?=some (decide (lev u≠0))):
  ∃ s:BL×LI,loop (graph_levels_l36 now adj) (seen,[],0)=some s∧IN adj lev now s.1 s.2∧∀ v w:Nat,(v:Int)∈now→nbp adj v w→lev w≠0∨(w:Int)∈s.2:=by
 obtain ⟨o,h1,h2⟩:=forG (step:=graph_levels_l36 now adj) (fun k (s:BL×LI)=>(s.1,s.2,(k:Int))) now.length (by omega)
  (fun k s=>IN adj lev now s.1 s.2∧∀ v w:Nat,(v:Int)∈now.take k→nbp adj v w→lev w≠0∨(w:Int)∈s.2)
  (fun s=>IN adj lev now s.1 s.2∧∀ v w:Nat,(v:Int)∈now→nbp adj v w→lev w≠0∨(w:Int)∈s.2) (s0:=(seen,[])) ⟨⟨hs,fun u hu=>by rw [hg u hu]; simp,by simp,fun x hx=>by simp at hx⟩,fun v w hv=>by simp at hv⟩ (by
   rintro k ⟨seen,nx⟩ hk ⟨hI,hd⟩
   simp only at hI hd
   have hr:=hnow _ (List.getElem_mem hk)
   obtain ⟨v,hv⟩:=Int.eq_ofNat_of_zero_le hr.1
   have hvl:v < adj.length:=by omega
   have hgv:adj[v]?=some adj[v]:=by simp [hvl]
   obtain ⟨s,k1,k2,k3,k4⟩:=bfs_in hG hn hgv (hv▸List.getElem_mem hk) hI
   unfold graph_levels_l36
   simp only
   rw [if_pos (by omega),bindS (getI_lt hk),hv,bindS (getI_lt hvl),bindS k1,wa1 (by omega)]
   refine .inl ⟨s,rfl,k2,fun u w hu hw=>?_⟩
   rw [take_succ' hk,List.mem_append,List.mem_singleton,hv] at hu
   rcases hu with hu | hu
   ·exact (hd u w hu hw).imp id (k3 _)
   ·obtain rfl:u=v:=by omega
    obtain ⟨l,h3,h4⟩:=hw
    rw [hgv] at h3
    have:=sInj h3
    subst this
    exact k4 w h4) (by
   rintro ⟨seen,nx⟩ ⟨hI,hd⟩
   unfold graph_levels_l36
   simp only
   rw [if_neg (by omega)]
   exact ⟨_,rfl,hI,fun v w hv hw=>hd v w (by rwa [List.take_of_length_le (Nat.le_refl _)]) hw⟩)
 exact ⟨o,h1,h2⟩
structure BF (adj:L2) (root:Nat) (lev:Nat→Nat) (seen:BL) (out:L2) (now:LI):Prop where
 len:seen.length=adj.length
 see:∀ u:Nat,u < adj.length→seen[u]?=some (decide (lev u≠0))
 lst:∀ (k:Nat) (l:LI),(out++[now])[k]?=some l→l.Pairwise (· < ·)∧(∀ x,x∈l→0≤x∧x < adj.length)∧∀ u:Nat,u < adj.length→((u:Int)∈l↔lev u=k+1)
 top:∀ u:Nat,u < adj.length→lev u≤out.length+1
 ne:∀ l,l∈out→l≠[]
 rt:∀ u:Nat,u < adj.length→(lev u=1↔u=root)
 edge:∀ v w:Nat,v < adj.length→nbp adj v w→lev v≠0→lev v≤out.length→lev w≠0∧lev w≤lev v+1
 back:∀ u:Nat,u < adj.length→2≤lev u→∃ w:Nat,w < adj.length∧nbp adj w u∧lev w+1=lev u
theorem BF.count {adj:L2} {root:Nat} {lev:Nat→Nat} {seen:BL} {out:L2} {now:LI} (h:BF adj root lev seen out now):out.length≤adj.length:=by
 have hex:∀ k,k < out.length→∃ u:Nat,u < adj.length∧lev u=k+1:=by
  intro k hk
  have hg:(out++[now])[k]?=some out[k]:=by rw [List.getElem?_append_left hk]; simp [hk]
  have hne:=h.ne _ (List.getElem_mem hk)
  obtain ⟨x,hx⟩:=List.exists_mem_of_ne_nil _ hne
  have h1:=h.lst k _ hg
  have h2:=h1.2.1 x hx
  refine ⟨x.toNat,by omega,(h1.2.2 x.toNat (by omega)).1 ?_⟩
  rwa [show ((x.toNat:Nat):Int)=x by omega]
 have hex2:∀ k,∃ u:Nat,k < out.length→(u < adj.length∧lev u=k+1):=by
  intro k
  by_cases hk:k < out.length
  ·obtain ⟨u,hu⟩:=hex k hk; exact ⟨u,fun _=>hu⟩
  exact ⟨0,fun h=>absurd h hk⟩
 have h3:=nodup_len adj.length ((List.range out.length).map fun k=>((Classical.choose (hex2 k):Nat):Int)) (by
  rw [List.nodup_iff_pairwise_ne,List.pairwise_map,List.pairwise_iff_getElem]
  intro i j hi hj hij
  simp at hi hj
  have a1:=Classical.choose_spec (hex2 i) hi
  have a2:=Classical.choose_spec (hex2 j) hj
  simp only [List.getElem_range]
  intro he
  have:Classical.choose (hex2 i)=Classical.choose (hex2 j):=by omega
  rw [this] at a1
  omega) (fun x hx=>by
  rw [List.mem_map] at hx
  obtain ⟨k,hk,rfl⟩:=hx
  have a1:=Classical.choose_spec (hex2 k) (by simpa using hk)
  omega)
 simpa using h3
theorem asc_of {m:LI} (h1:m.Pairwise (·≤·)) (h2:m.Nodup):m.Pairwise (· < ·):=by
 rw [List.pairwise_iff_getElem] at h1 ⊢
 intro i j hi hj hij
 have:=h1 i j hi hj hij
 by_cases he:m[i]=m[j]
 ·have:=nodup_inj h2 he; omega
 omega
theorem BF.step {adj:L2} (hG:Gr adj) (hn:adj.length≤30) {root:Nat} {lev:Nat→Nat} {seen:BL} {out:L2} {now:LI} (h:BF adj root lev seen out now) (hne:now≠[]):
  ∃ lev' seen' m,graph_levels_l27 adj (seen,out,now)=some (.inl (seen',out++[now],m))∧BF adj root lev' seen' (out++[now]) m:=by
 have hnow:=h.lst out.length now (by simp)
 have hnl:=asc_len hnow.1 hnow.2.1
 have hcnt:=h.count
 obtain ⟨s,k1,k2,k3⟩:=bfs_mid hG hn hnow.2.1 (by omega) h.len h.see
 have hsl:=nodup_len adj.length s.2 k2.nd (fun x hx=>⟨(k2.new x hx).1,(k2.new x hx).2.1⟩)
 obtain ⟨m,m1,m2,m3⟩:=sort_ok (l:=s.2) (by omega)
 have hmem:∀ x,x∈m↔x∈s.2:=fun x=>m2.mem_iff
 have hasc:=asc_of m3 (m2.nodup_iff.2 k2.nd)
 have hpos:=List.length_pos_iff.2 hne
 refine ⟨fun u=>if (u:Int)∈m then out.length+2 else lev u,s.1,m,?_,?_⟩
 ·unfold graph_levels_l27
  simp only
  rw [if_pos (by omega),bindS (app_small (by simp; omega)),bindS k1,bindS m1]
 have hin:∀ u:Nat,(u:Int)∈m→u < adj.length∧lev u=0:=fun u hu=>by
  have:=k2.new _ ((hmem _).1 hu)
  simp at this
  exact ⟨by omega,this.2.1⟩
 have hL:∀ u:Nat,(u:Int)∉m→(if (u:Int)∈m then out.length+2 else lev u)=lev u:=fun u hu=>if_neg hu
 have hM:∀ u:Nat,(u:Int)∈m→(if (u:Int)∈m then out.length+2 else lev u)=out.length+2:=fun u hu=>if_pos hu
 refine ⟨k2.len,fun u hu=>?_,fun k l hk=>?_,fun u hu=>?_,fun l hl=>?_,fun u hu=>?_,fun v w hv hw h0 hle=>?_,fun u hu h2=>?_⟩
 ·rw [k2.see u hu]
  congr 1
  rw [decide_eq_decide]
  by_cases hm:(u:Int)∈m
  ·simp only [hM u hm]; simp [(hmem _).1 hm]
  simp only [hL u hm]
  constructor
  ·rintro (h1 | h1)
   ·exact h1
   exact absurd ((hmem _).2 h1) hm
  exact .inl
 ·by_cases hk2:k < (out++[now]).length
  ·rw [List.getElem?_append_left hk2] at hk
   have h1:=h.lst k l hk
   refine ⟨h1.1,h1.2.1,fun u hu=>?_⟩
   rw [h1.2.2 u hu]
   simp at hk2
   by_cases hm:(u:Int)∈m
   ·have hz:=(hin u hm).2
    simp only [hM u hm]; omega
   simp only [hL u hm]
  rw [List.getElem?_append_right (by omega)] at hk
  have:k - (out++[now]).length=0∧l=m:=by
   cases hkk:k - (out++[now]).length with
   | zero=>rw [hkk] at hk; simp at hk; exact ⟨rfl,hk.symm⟩
   | succ j=>rw [hkk] at hk; simp at hk
  obtain ⟨h4,rfl⟩:=this
  simp at h4 hk2
  refine ⟨hasc,fun x hx=>?_,fun u hu=>?_⟩
  ·have:=k2.new x ((hmem x).1 hx); exact ⟨this.1,this.2.1⟩
  by_cases hm:(u:Int)∈l
  ·simp only [hm]; simp; omega
  have:=h.top u hu
  simp only [hm]; simp; omega
 ·by_cases hm:(u:Int)∈m
  ·simp only [hM u hm]; simp
  have:=h.top u hu
  simp only [hL u hm]; simp; omega
 ·rw [List.mem_append,List.mem_singleton] at hl
  rcases hl with hl | rfl
  ·exact h.ne l hl
  exact hne
 ·by_cases hm:(u:Int)∈m
  ·have h1:=h.rt u hu
   simp only [hM u hm]
   have:=(hin u hm).2
   omega
  simp only [hL u hm]
  exact h.rt u hu
 ·by_cases hm:(v:Int)∈m
  ·simp only [hM v hm] at hle; simp at hle
  simp only [hL v hm] at h0 hle ⊢
  simp at hle
  by_cases hlv:lev v≤out.length
  ·have h1:=h.edge v w hv hw h0 hlv
   have hwm:(w:Int)∉m:=fun hm2=>h1.1 (hin w hm2).2
   simp only [hL w hwm]
   exact h1
  have hvn:(v:Int)∈now:=(hnow.2.2 v hv).2 (by omega)
  rcases k3 v w hvn hw with h1 | h1
  ·have hwm:(w:Int)∉m:=fun hm2=>h1 (hin w hm2).2
   obtain ⟨l,h5,h6⟩:=hw
   have h7:=hG.rng v l _ h5 h6
   have:=h.top w (by omega)
   simp only [hL w hwm]
   omega
  simp only [hM w ((hmem _).2 h1)]
  omega
 by_cases hm:(u:Int)∈m
 ·obtain ⟨_,_,_,v,h5,h6⟩:=k2.new _ ((hmem _).1 hm)
  have h7:=hnow.2.1 _ h5
  have h8:=(hnow.2.2 v (by omega)).1 h5
  have hvm:(v:Int)∉m:=fun hm2=>by have:=(hin v hm2).2; omega
  refine ⟨v,by omega,by simpa using h6,?_⟩
  simp only [hM u hm,hL v hvm]
  omega
 simp only [hL u hm] at h2 ⊢
 obtain ⟨w,h5,h6,h7⟩:=h.back u hu h2
 have hwm:(w:Int)∉m:=fun hm2=>by have:=(hin w hm2).2; omega
 exact ⟨w,h5,h6,by simp only [hL w hwm]; exact h7⟩
theorem levels_ok {adj:L2} (hG:Gr adj) (hn:adj.length≤30) {root:Nat} (hr:root < adj.length):∃ out lev seen,graph_levels adj (root:Int)=some out∧BF adj root lev seen out []:=by
 unfold graph_levels
 rw [bindS (mkL_nat false adj.length (by omega)),bindS (setI_lt (by simp; omega))]
 obtain ⟨o,h1,h2⟩:=whileG (step:=graph_levels_l27 adj) (s:=((List.replicate adj.length false).set root true,[],[(root:Int)]))
  (fun s=>∃ lev,BF adj root lev s.1 s.2.1 s.2.2) (fun o=>∃ lev seen,BF adj root lev seen o []) (fun s=>(adj.length+1 - s.2.1.length)*2+s.2.2.length.min 1)
  ⟨fun u=>if u=root then 1 else 0,by
   refine ⟨by simp,fun u hu=>?_,fun k l hk=>?_,fun u hu=>?_,fun l hl=>by simp at hl,fun u hu=>?_,fun v w hv hw h0 hle=>?_,fun u hu h2=>?_⟩
   ·simp only [List.getElem?_set]
    by_cases h:root=u
    ·subst h; simp; omega
    rw [if_neg h]; simp [hu,show ¬ u=root by omega]
   ·have:k=0∧l=[(root:Int)]:=by
     cases k with
     | zero=>simp at hk; exact ⟨rfl,hk.symm⟩
     | succ k=>simp at hk
    obtain ⟨rfl,rfl⟩:=this
    refine ⟨by simp,fun x hx=>by simp at hx; omega,fun u hu=>?_⟩
    by_cases h:u=root
    ·subst h; simp
    simp [h]; omega
   ·split<;>simp
   ·by_cases h:u=root
    ·simp [h]
    simp [h]
   ·simp at hle
    exact absurd hle (by simpa using h0)
   ·split at h2<;>omega⟩ (by simp only; simp; omega) (by
   rintro ⟨seen,out,now⟩ ⟨lev,hB⟩
   simp only at hB
   by_cases hne:now=[]
   ·subst hne
    refine .inr ⟨out,?_,lev,seen,hB⟩
    unfold graph_levels_l27
    simp
   obtain ⟨lev',seen',m,k1,k2⟩:=hB.step hG hn hne
   have hc:=k2.count
   refine .inl ⟨_,k1,⟨lev',k2⟩,?_⟩
   have hpos:=List.length_pos_iff.2 hne
   simp only [List.length_append,List.length_singleton] at hc ⊢
   have:m.length.min 1≤1:=Nat.min_le_right _ _
   omega)
 rw [bindS h1]
 obtain ⟨lev,seen,h⟩:=h2
 exact ⟨o,lev,seen,rfl,h⟩
end Pl
/- Ascending lists; appending all lists. -/
namespace Pl
open Sx Go M Vc
theorem asc_nodup {l:LI} (h:l.Pairwise (· < ·)):l.Nodup:=by
 refine List.Pairwise.imp ?_ h
 intro a b hab; omega
theorem asc_unique:∀ {l m:LI},l.Pairwise (· < ·)→m.Pairwise (· < ·)→(∀ x,x∈l↔x∈m)→l=m:=by
 intro l
 induction l with
 | nil=>
  intro m _ _ h
  cases m with
  | nil=>rfl
  | cons y m=>exact absurd ((h y).2 (by simp)) (by simp)
 | cons x l ih=>
  intro m hl hm h
  cases m with
  | nil=>exact absurd ((h x).1 (by simp)) (by simp)
  | cons y m=>
   rw [List.pairwise_cons] at hl hm
   have hxy:x=y:=by
    have h1:=(h x).1 (by simp)
    have h2:=(h y).2 (by simp)
    rw [List.mem_cons] at h1 h2
    rcases h1 with h1 | h1
    ·exact h1
    rcases h2 with h2 | h2
    ·exact h2.symm
    have:=hl.1 y h2
    have:=hm.1 x h1
    omega
   subst hxy
   congr 1
   refine ih hl.2 hm.2 fun z=>?_
   constructor
   ·intro hz
    have h1:=(h z).1 (by simp [hz])
    rw [List.mem_cons] at h1
    rcases h1 with h1 | h1
    ·have:=hl.1 z hz; omega
    exact h1
   intro hz
   have h1:=(h z).2 (by simp [hz])
   rw [List.mem_cons] at h1
   rcases h1 with h1 | h1
   ·have:=hm.1 z hz; omega
   exact h1
theorem grow_ok {n:Nat} (hn:n≤1000000):slices_Grow_int (n:Int)=some []:=by
 have h0:ws .i64 0 0=0:=by rw [ws_in (by constructor<;>omega)]; rfl
 have h1:ws .i64 (n:Int) 0=(n:Int):=by rw [ws_in (by constructor<;>omega)]; omega
 unfold slices_Grow_int slices_Grow_int_j1 slices_Grow_int_j2
 rw [if_neg (by omega),h0,h1]
 by_cases hp:(0:Int) < (n:Int)
 ·rw [if_pos hp]
  unfold mkLp
  rw [if_pos hp,bindS (mkL_nat 0 n (by omega))]
  have:sli (List.replicate n (0:Int)) 0 0=some []:=by
   unfold sli; rw [if_pos (by simp)]; simp [subL]
  rw [bindS this]
 rw [if_neg hp]
theorem take_flatten_le (ls:L2) (k:Nat):(ls.take k).flatten.length≤ls.flatten.length:=by
 conv=>rhs; rw [← List.take_append_drop k ls]
 rw [List.flatten_append,List.length_append]; omega
theorem take_succ2 {ls:L2} {k:Nat} (h:k < ls.length):(ls.take (k+1)).flatten=(ls.take k).flatten++ls[k]:=by
 rw [take_succ' h,List.flatten_append,List.flatten_cons,List.flatten_nil,List.append_nil]
theorem concat_ok {ls:L2} (hl:ls.length≤1000) (hf:ls.flatten.length≤1000):slices_Concat_int ls=some ls.flatten:=by
 unfold slices_Concat_int
 obtain ⟨o,h1,h2⟩:=forG (step:=slices_Concat_int_l3 ls) (fun k (s:Int)=>(s,(k:Int))) ls.length (by omega) (fun k s=>s=((ls.take k).flatten.length:Int)) (fun o=>o=(ls.flatten.length:Int)) (s0:=0) (by simp) (by
  intro k s hk hI
  subst hI
  have h3:=take_flatten_le ls (k+1)
  rw [take_succ2 hk,List.length_append] at h3
  unfold slices_Concat_int_l3 slices_Concat_int_j5
  simp only
  rw [if_pos (by omega),bindS (getI_lt hk),wa_in (by constructor<;>omega),if_neg (by omega),wa1 (by omega)]
  exact .inl ⟨_,rfl,by rw [take_succ2 hk,List.length_append]; omega⟩) (by
  intro s hI
  subst hI
  unfold slices_Concat_int_l3
  simp only
  rw [if_neg (by omega)]
  exact ⟨_,rfl,by rw [List.take_of_length_le (Nat.le_refl _)]⟩)
 have h1':loop (slices_Concat_int_l3 ls) (0,0)=some o:=h1
 rw [bindS h1',h2,bindS (grow_ok (by omega))]
 obtain ⟨o,h1,h2⟩:=forG (step:=slices_Concat_int_l4 ls) (fun k (s:LI)=>(s,(k:Int))) ls.length (by omega) (fun k s=>s=(ls.take k).flatten) (fun o=>o=ls.flatten) (s0:=[]) (by simp) (by
  intro k s hk hI
  subst hI
  have h3:=take_flatten_le ls (k+1)
  rw [take_succ2 hk,List.length_append] at h3
  unfold slices_Concat_int_l4
  simp only
  rw [if_pos (by omega),bindS (getI_lt hk),bindS (app_small (by omega)),wa1 (by omega)]
  exact .inl ⟨_,rfl,by rw [take_succ2 hk]⟩) (by
  intro s hI
  subst hI
  unfold slices_Concat_int_l4
  simp only
  rw [if_neg (by omega)]
  exact ⟨_,rfl,by rw [List.take_of_length_le (Nat.le_refl _)]⟩)
 have h1':loop (slices_Concat_int_l4 ls) ([],0)=some o:=h1
 rw [bindS h1',h2]
theorem BF.lev_le {adj:L2} {root:Nat} {lev:Nat→Nat} {seen:BL} {out:L2} (h:BF adj root lev seen out []) (u:Nat) (hu:u < adj.length):lev u≤out.length:=by
 have h1:=h.top u hu
 have h2:=(h.lst out.length [] (by simp)).2.2 u hu
 simp at h2
 omega
theorem BF.lev_one {adj:L2} {root:Nat} {lev lev':Nat→Nat} {seen seen':BL} {out out':L2} (h:BF adj root lev seen out []) (h':BF adj root lev' seen' out' []):
  ∀ j u,u < adj.length→lev u=j+1→lev' u≠0∧lev' u≤j+1:=by
 intro j
 induction j with
 | zero=>
  intro u hu hl
  have:=(h'.rt u hu).2 ((h.rt u hu).1 hl)
  omega
 | succ j ih=>
  intro u hu hl
  obtain ⟨w,hw,hn,he⟩:=h.back u hu (by omega)
  have h1:=ih w hw (by omega)
  have h2:=h'.edge w u hw hn h1.1 (h'.lev_le w hw)
  exact ⟨h2.1,by omega⟩
theorem BF.lev_eq {adj:L2} {root:Nat} {lev lev':Nat→Nat} {seen seen':BL} {out out':L2} (h:BF adj root lev seen out []) (h':BF adj root lev' seen' out' []) (u:Nat) (hu:u < adj.length):lev u=lev' u:=by
 have key:lev u≠0→lev' u≠0∧lev' u≤lev u:=fun h0=>by
  have:=h.lev_one h' (lev u - 1) u hu (by omega)
  omega
 have key':lev' u≠0→lev u≠0∧lev u≤lev' u:=fun h0=>by
  have:=h'.lev_one h (lev' u - 1) u hu (by omega)
  omega
 omega
end Pl
/- The law of the levels over the models. -/
namespace Pl
open Sx Go M
theorem gAsc_ok {l:LI} (h:l.Pairwise (· < ·)) (hl:l.length < 1000000):sparsekit_Ascending l=some true:=by
 unfold sparsekit_Ascending
 obtain ⟨o,h1,h2⟩:=whileG (step:=sparsekit_Ascending_l1 l) (s:=1) (fun s=>∃ k:Nat,s=(k:Int)∧1≤k) (fun o=>o=.inl ()) (fun s=>(l.length - s).toNat) ⟨1,rfl,by omega⟩ (by omega) (by
   rintro s ⟨k,rfl,hk1⟩
   unfold sparsekit_Ascending_l1
   by_cases hc:k < l.length
   ·have e:ws .i64 (k:Int) 1=((k - 1:Nat):Int):=by rw [ws_in (by constructor<;>omega)]; omega
    have:=asc_get h hc (i:=k - 1) (by omega)
    rw [if_pos (by omega),bindS (getI_lt hc),e,bindS (getI_lt (by omega)),if_neg (by omega),wa1 (by omega)]
    exact .inl ⟨_,rfl,⟨k+1,rfl,by omega⟩,by omega⟩
   rw [if_neg (by omega)]
   exact .inr ⟨_,rfl,rfl⟩)
 rw [bindS h1,h2]
end Pl
/- The document's levels. (Under way.) -/
namespace Pl
open Sx Go M
theorem mark_ok {adj:L2} {l:LI} (hr:∀ x,x∈l→0≤x∧x < adj.length) (hll:l.length≤1000) {seen:BL} {sv:Nat→Prop} [DecidablePred sv] (hg:∀ u:Nat,u < adj.length→seen[u]?=some (decide (sv u)))
  {t:BL} {mk:Nat→Prop} [DecidablePred mk] (ht:t.length=adj.length) (hm:∀ u:Nat,u < adj.length→t[u]?=some (decide (mk u))):
  ∃ t',loop (sparseref12_Levels_l105 l seen) (t,0)=some t'∧t'.length=adj.length∧∀ u:Nat,u < adj.length→t'[u]?=some (decide (mk u∨((u:Int)∈l∧¬ sv u))):=by
 obtain ⟨o,h1,h2⟩:=forG (step:=sparseref12_Levels_l105 l seen) (fun k (s:BL)=>(s,(k:Int))) l.length (by omega)
  (fun k s=>s.length=adj.length∧∀ u:Nat,u < adj.length→s[u]?=some (decide (mk u∨((u:Int)∈l.take k∧¬ sv u))))
  (fun s=>s.length=adj.length∧∀ u:Nat,u < adj.length→s[u]?=some (decide (mk u∨((u:Int)∈l∧¬ sv u)))) (s0:=t) ⟨ht,fun u hu=>by rw [hm u hu]; simp⟩ (by
   rintro k s hk ⟨hsl,hsg⟩
   have hrk:=hr _ (List.getElem_mem hk)
   obtain ⟨w,hw⟩:=Int.eq_ofNat_of_zero_le hrk.1
   have hwl:w < adj.length:=by omega
   have e1:getI s (w:Int)=some (decide (mk w∨((w:Int)∈l.take k∧¬ sv w))):=hsg w hwl
   have e2:getI seen (w:Int)=some (decide (sv w)):=hg w hwl
   have hv:(if (decide (mk w∨((w:Int)∈l.take k∧¬ sv w)))=true then some true else (getI l (k:Int)).bind fun x626=>(getI seen x626).bind fun x627=>some (!(x627)))=some (decide (mk w∨¬ sv w)):=by
    by_cases hc:mk w∨((w:Int)∈l.take k∧¬ sv w)
    ·rw [if_pos (by simpa using hc)]
     congr 1
     symm
     rw [decide_eq_true_iff]
     exact hc.imp id (·.2)
    rw [if_neg (by simpa using hc),bindS (getI_lt hk),hw,bindS e2]
    have hnm:¬ mk w:=fun h=>hc (.inl h)
    by_cases hsv:sv w<;>simp [hsv,hnm]
   unfold sparseref12_Levels_l105
   simp only
   rw [if_pos (by omega),bindS (getI_lt hk),bindS (getI_lt hk),hw,bindS e1]
   rw [hv]
   rw [Option.bind_some,bindS (setI_lt (by omega)),wa1 (by omega)]
   refine .inl ⟨_,rfl,by simp [hsl],fun u hu=>?_⟩
   rw [List.getElem?_set]
   by_cases hwu:w=u
   ·subst hwu
    rw [if_pos rfl,if_pos (by omega)]
    congr 1
    rw [decide_eq_decide,take_succ' hk,List.mem_append,List.mem_singleton,hw]
    simp
   ·rw [if_neg hwu,hsg u hu]
    congr 1
    rw [decide_eq_decide,take_succ' hk,List.mem_append,List.mem_singleton,hw]
    have:¬ (u:Int)=(w:Int):=by omega
    simp [this]) (by
   rintro s ⟨hsl,hsg⟩
   unfold sparseref12_Levels_l105
   simp only
   rw [if_neg (by omega)]
   exact ⟨_,rfl,hsl,fun u hu=>by rw [hsg u hu,List.take_of_length_le (Nat.le_refl _)]⟩)
 exact ⟨o,h1,h2⟩
open Classical in
theorem marks_ok {adj:L2} (hG:Gr adj) (hn:adj.length≤30) {now:LI} (hnow:∀ x,x∈now→0≤x∧x < adj.length) (hnl:now.length≤1000) {seen:BL} {sv:Nat→Prop} [DecidablePred sv] (hg:∀ u:Nat,u < adj.length→seen[u]?=some (decide (sv u))):
  ∃ t,loop (sparseref12_Levels_l94 now adj seen) (List.replicate adj.length false,0)=some t∧t.length=adj.length∧∀ u:Nat,u < adj.length→t[u]?=some (decide ((∃ v:Nat,(v:Int)∈now∧nbp adj v u)∧¬ sv u)):=by
 obtain ⟨o,h1,h2⟩:=forG (step:=sparseref12_Levels_l94 now adj seen) (fun k (s:BL)=>(s,(k:Int))) now.length (by omega)
  (fun k s=>s.length=adj.length∧∀ u:Nat,u < adj.length→s[u]?=some (decide ((∃ v:Nat,(v:Int)∈now.take k∧nbp adj v u)∧¬ sv u)))
  (fun s=>s.length=adj.length∧∀ u:Nat,u < adj.length→s[u]?=some (decide ((∃ v:Nat,(v:Int)∈now∧nbp adj v u)∧¬ sv u))) (s0:=List.replicate adj.length false) ⟨by simp,fun u hu=>by simp [hu]⟩ (by
   rintro k s hk ⟨hsl,hsg⟩
   have hrk:=hnow _ (List.getElem_mem hk)
   obtain ⟨v,hv⟩:=Int.eq_ofNat_of_zero_le hrk.1
   have hvl:v < adj.length:=by omega
   have hgv:adj[v]?=some adj[v]:=by simp [hvl]
   have hlen:=hG.len hgv
   obtain ⟨t',k1,k2,k3⟩:=mark_ok (fun x hx=>⟨(hG.rng v _ x hgv hx).1,(hG.rng v _ x hgv hx).2.1⟩) (by omega) hg hsl hsg
   unfold sparseref12_Levels_l94
   simp only
   rw [if_pos (by omega),bindS (getI_lt hk),hv,bindS (getI_lt hvl),bindS k1,wa1 (by omega)]
   refine .inl ⟨_,rfl,k2,fun u hu=>?_⟩
   rw [k3 u hu]
   congr 1
   rw [decide_eq_decide]
   constructor
   ·rintro (⟨⟨v',h3,h4⟩,h5⟩ | ⟨h3,h4⟩)
    ·exact ⟨⟨v',by rw [take_succ' hk]; exact List.mem_append.2 (.inl h3),h4⟩,h5⟩
    exact ⟨⟨v,by rw [take_succ' hk,hv]; exact List.mem_append.2 (.inr (List.mem_singleton.2 rfl)),_,hgv,h3⟩,h4⟩
   ·rintro ⟨⟨v',h3,h4⟩,h5⟩
    rw [take_succ' hk,List.mem_append,List.mem_singleton,hv] at h3
    rcases h3 with h3 | h3
    ·exact .inl ⟨⟨v',h3,h4⟩,h5⟩
    obtain rfl:v'=v:=by omega
    obtain ⟨l,h6,h7⟩:=h4
    rw [hgv] at h6
    have:=sInj h6
    subst this
    exact .inr ⟨h7,h5⟩) (by
   rintro s ⟨hsl,hsg⟩
   unfold sparseref12_Levels_l94
   simp only
   rw [if_neg (by omega)]
   exact ⟨_,rfl,hsl,fun u hu=>by rw [hsg u hu,List.take_of_length_le (Nat.le_refl _)]⟩)
 exact ⟨o,h1,h2⟩
end Pl
/- The document's levels: the marked are collected. (Under way.) -/
namespace Pl
open Sx Go M
def coll (tm:Nat→Prop) [DecidablePred tm]:Nat→LI
 | 0=>[]
 | m+1=>coll tm m++(if tm m then [(m:Int)] else [])
theorem coll_mem {tm:Nat→Prop} [DecidablePred tm] {x:Int}:∀ m,x∈coll tm m↔0≤x∧x.toNat < m∧tm x.toNat:=by
 intro m
 induction m with
 | zero=>simp [coll]
 | succ m ih=>
  rw [coll,List.mem_append,ih]
  constructor
  ·rintro (h | h)
   ·exact ⟨h.1,by omega,h.2.2⟩
   split at h
   ·rename_i hc
    simp only [List.mem_singleton] at h; subst h
    exact ⟨by omega,by omega,by simpa using hc⟩
   simp at h
  rintro ⟨h1,h2,h3⟩
  by_cases hx:x.toNat=m
  ·right
   rw [hx] at h3
   rw [if_pos h3]
   simp; omega
  exact .inl ⟨h1,by omega,h3⟩
theorem coll_asc {tm:Nat→Prop} [DecidablePred tm]:∀ m,(coll tm m).Pairwise (· < ·):=by
 intro m
 induction m with
 | zero=>exact .nil
 | succ m ih=>
  rw [coll,List.pairwise_append]
  refine ⟨ih,?_,?_⟩
  ·split<;>simp
  intro x hx y hy
  have:=(coll_mem m).1 hx
  split at hy
  ·simp at hy; omega
  simp at hy
theorem coll_len {tm:Nat→Prop} [DecidablePred tm]:∀ m,(coll tm m).length≤m:=by
 intro m
 induction m with
 | zero=>simp [coll]
 | succ m ih=>rw [coll,List.length_append]; split<;>simp<;>omega
theorem collect_ok {adj:L2} (hn:adj.length≤30) {seen t:BL} {sv tm:Nat→Prop} [DecidablePred sv] [DecidablePred tm] (hs:seen.length=adj.length) (hg:∀ u:Nat,u < adj.length→seen[u]?=some (decide (sv u))) (ht:∀ u:Nat,u < adj.length→t[u]?=some (decide (tm u))):
  ∃ s:BL×LI,loop (sparseref12_Levels_l97 adj t) (seen,[],0)=some s∧s.1.length=adj.length∧s.2=coll tm adj.length∧∀ u:Nat,u < adj.length→s.1[u]?=some (decide (sv u∨tm u)):=by
 obtain ⟨o,h1,h2⟩:=forG (step:=sparseref12_Levels_l97 adj t) (fun k (s:BL×LI)=>(s.1,s.2,(k:Int))) adj.length (by omega)
  (fun k s=>s.1.length=adj.length∧s.2=coll tm k∧∀ u:Nat,u < adj.length→s.1[u]?=some (decide (sv u∨(u < k∧tm u))))
  (fun s=>s.1.length=adj.length∧s.2=coll tm adj.length∧∀ u:Nat,u < adj.length→s.1[u]?=some (decide (sv u∨tm u))) (s0:=(seen,[])) ⟨hs,rfl,fun u hu=>by rw [hg u hu]; simp⟩ (by
   rintro k ⟨s,nx⟩ hk ⟨hsl,hnx,hsg⟩
   simp only at hsl hnx hsg
   subst hnx
   have hlen:=coll_len (tm:=tm) k
   have htk:getI t (k:Int)=some (decide (tm k)):=ht k hk
   unfold sparseref12_Levels_l97 sparseref12_Levels_j98
   simp only
   rw [if_pos (by omega),bindS htk]
   by_cases hc:tm k
   ·rw [if_pos (by simpa using hc),bindS (app_small (by simp; omega)),bindS (setI_lt (by omega)),wa1 (by omega)]
    refine .inl ⟨(s.set k true,coll tm k++[(k:Int)]),rfl,by simp [hsl],by simp only; rw [coll,if_pos hc],fun u hu=>?_⟩
    simp only
    rw [List.getElem?_set]
    by_cases hku:k=u
    ·subst hku
     rw [if_pos rfl,if_pos (by omega)]; simp [hc]
    rw [if_neg hku,hsg u hu]
    congr 1
    rw [decide_eq_decide]
    constructor
    ·exact fun h=>h.imp id fun h=>⟨by omega,h.2⟩
    exact fun h=>h.imp id fun h=>⟨by omega,h.2⟩
   ·rw [if_neg (by simpa using hc),wa1 (by omega)]
    refine .inl ⟨(s,coll tm k),rfl,hsl,by simp only; rw [coll,if_neg hc,List.append_nil],fun u hu=>?_⟩
    simp only
    rw [hsg u hu]
    congr 1
    rw [decide_eq_decide]
    constructor
    ·exact fun h=>h.imp id fun h=>⟨by omega,h.2⟩
    rintro (h | ⟨h,h'⟩)
    ·exact .inl h
    by_cases hku:u=k
    ·subst hku; exact absurd h' hc
    exact .inr ⟨by omega,h'⟩) (by
   rintro ⟨s,nx⟩ ⟨hsl,hnx,hsg⟩
   simp only at hsl hnx hsg
   unfold sparseref12_Levels_l97
   simp only
   rw [if_neg (by omega)]
   refine ⟨_,rfl,hsl,hnx,fun u hu=>?_⟩
   rw [hsg u hu]
   congr 1
   rw [decide_eq_decide]
   exact ⟨fun h=>h.imp id (·.2),fun h=>h.imp id fun h=>⟨hu,h⟩⟩)
 exact ⟨o,h1,h2⟩
end Pl
/- One step of the search by breadth, whatever program makes it. -/
namespace Pl
open Sx Go M
theorem BF.stepA {adj:L2} (hG:Gr adj) {root:Nat} {lev:Nat→Nat} {seen:BL} {out:L2} {now:LI} (h:BF adj root lev seen out now) (hne:now≠[]) {m:LI} (hasc:m.Pairwise (· < ·))
  (hmem:∀ x,x∈m↔0≤x∧x < adj.length∧lev x.toNat=0∧∃ v:Nat,(v:Int)∈now∧nbp adj v x.toNat) {seen':BL} (hlen':seen'.length=adj.length) (hsee:∀ u:Nat,u < adj.length→seen'[u]?=some (decide (lev u≠0∨(u:Int)∈m))):
  BF adj root (fun u=>if (u:Int)∈m then out.length+2 else lev u) seen' (out++[now]) m:=by
 have hnow:=h.lst out.length now (by simp)
 have k3:∀ v w:Nat,(v:Int)∈now→nbp adj v w→lev w≠0∨(w:Int)∈m:=by
  intro v w hv hw
  by_cases h0:lev w=0
  ·obtain ⟨l,h1,h2⟩:=hw
   have h3:=hG.rng v l _ h1 h2
   exact .inr ((hmem _).2 ⟨h3.1,h3.2.1,by simpa using h0,v,hv,l,h1,by simpa using h2⟩)
  exact .inl h0
 have hin:∀ u:Nat,(u:Int)∈m→u < adj.length∧lev u=0:=fun u hu=>by
  have:=(hmem _).1 hu
  simp at this
  exact ⟨by omega,this.2.1⟩
 have hL:∀ u:Nat,(u:Int)∉m→(if (u:Int)∈m then out.length+2 else lev u)=lev u:=fun u hu=>if_neg hu
 have hM:∀ u:Nat,(u:Int)∈m→(if (u:Int)∈m then out.length+2 else lev u)=out.length+2:=fun u hu=>if_pos hu
 refine ⟨hlen',fun u hu=>?_,fun k l hk=>?_,fun u hu=>?_,fun l hl=>?_,fun u hu=>?_,fun v w hv hw h0 hle=>?_,fun u hu h2=>?_⟩
 ·rw [hsee u hu]
  congr 1
  rw [decide_eq_decide]
  by_cases hm:(u:Int)∈m
  ·simp only [hM u hm]; simp [hm]
  simp only [hL u hm]
  constructor
  ·rintro (h1 | h1)
   ·exact h1
   exact absurd h1 hm
  exact .inl
 ·by_cases hk2:k < (out++[now]).length
  ·rw [List.getElem?_append_left hk2] at hk
   have h1:=h.lst k l hk
   refine ⟨h1.1,h1.2.1,fun u hu=>?_⟩
   rw [h1.2.2 u hu]
   simp at hk2
   by_cases hm:(u:Int)∈m
   ·have hz:=(hin u hm).2
    simp only [hM u hm]; omega
   simp only [hL u hm]
  rw [List.getElem?_append_right (by omega)] at hk
  have:k - (out++[now]).length=0∧l=m:=by
   cases hkk:k - (out++[now]).length with
   | zero=>rw [hkk] at hk; simp at hk; exact ⟨rfl,hk.symm⟩
   | succ j=>rw [hkk] at hk; simp at hk
  obtain ⟨h4,rfl⟩:=this
  simp at h4 hk2
  refine ⟨hasc,fun x hx=>?_,fun u hu=>?_⟩
  ·have:=(hmem x).1 hx; exact ⟨this.1,this.2.1⟩
  by_cases hm:(u:Int)∈l
  ·simp only [hm]; simp; omega
  have:=h.top u hu
  simp only [hm]; simp; omega
 ·by_cases hm:(u:Int)∈m
  ·simp only [hM u hm]; simp
  have:=h.top u hu
  simp only [hL u hm]; simp; omega
 ·rw [List.mem_append,List.mem_singleton] at hl
  rcases hl with hl | rfl
  ·exact h.ne l hl
  exact hne
 ·by_cases hm:(u:Int)∈m
  ·have h1:=h.rt u hu
   simp only [hM u hm]
   have:=(hin u hm).2
   omega
  simp only [hL u hm]
  exact h.rt u hu
 ·by_cases hm:(v:Int)∈m
  ·simp only [hM v hm] at hle; simp at hle
  simp only [hL v hm] at h0 hle ⊢
  simp at hle
  by_cases hlv:lev v≤out.length
  ·have h1:=h.edge v w hv hw h0 hlv
   have hwm:(w:Int)∉m:=fun hm2=>h1.1 (hin w hm2).2
   simp only [hL w hwm]
   exact h1
  have hvn:(v:Int)∈now:=(hnow.2.2 v hv).2 (by omega)
  rcases k3 v w hvn hw with h1 | h1
  ·have hwm:(w:Int)∉m:=fun hm2=>h1 (hin w hm2).2
   obtain ⟨l,h5,h6⟩:=hw
   have h7:=hG.rng v l _ h5 h6
   have:=h.top w (by omega)
   simp only [hL w hwm]
   omega
  simp only [hM w h1]
  omega
 by_cases hm:(u:Int)∈m
 ·obtain ⟨_,_,_,v,h5,h6⟩:=(hmem _).1 hm
  have h7:=hnow.2.1 _ h5
  have h8:=(hnow.2.2 v (by omega)).1 h5
  have hvm:(v:Int)∉m:=fun hm2=>by have:=(hin v hm2).2; omega
  refine ⟨v,by omega,by simpa using h6,?_⟩
  simp only [hM u hm,hL v hvm]
  omega
 simp only [hL u hm] at h2 ⊢
 obtain ⟨w,h5,h6,h7⟩:=h.back u hu h2
 have hwm:(w:Int)∉m:=fun hm2=>by have:=(hin w hm2).2; omega
 exact ⟨w,h5,h6,by simp only [hL w hwm]; exact h7⟩
end Pl
/- The document's levels are the program's. (Under way.) -/
namespace Pl
open Sx Go M
open Classical in
theorem rstep_ok {adj:L2} (hG:Gr adj) (hn:adj.length≤30) {root:Nat} {lev:Nat→Nat} {seen:BL} {out:L2} {now:LI} (h:BF adj root lev seen out now) (hne:now≠[]):
  ∃ lev' seen' m,sparseref12_Levels_l73 adj (seen,now,out)=some (.inl (seen',m,out++[now]))∧BF adj root lev' seen' (out++[now]) m:=by
 have hnow:=h.lst out.length now (by simp)
 have hnl:=asc_len hnow.1 hnow.2.1
 have hcnt:=h.count
 have hpos:=List.length_pos_iff.2 hne
 obtain ⟨t,t1,t2,t3⟩:=marks_ok hG hn hnow.2.1 (by omega) h.see
 obtain ⟨s,s1,s2,s3,s4⟩:=collect_ok hn h.len h.see t3
 have hmem:∀ x,x∈s.2↔0≤x∧x < adj.length∧lev x.toNat=0∧∃ v:Nat,(v:Int)∈now∧nbp adj v x.toNat:=by
  intro x
  rw [s3,coll_mem]
  constructor
  ·rintro ⟨h1,h2,h3,h4⟩
   exact ⟨h1,by omega,by simpa using h4,h3⟩
  rintro ⟨h1,h2,h3,h4⟩
  exact ⟨h1,by omega,h4,by simpa using h3⟩
 refine ⟨_,s.1,s.2,?_,h.stepA hG hne (by rw [s3]; exact coll_asc _) hmem s2 fun u hu=>?_⟩
 ·unfold sparseref12_Levels_l73
  simp only
  rw [if_pos (by omega),bindS (app_small (by simp; omega)),bindS (mkL_nat false adj.length (by omega)),bindS t1,bindS s1]
 rw [s4 u hu]
 congr 1
 rw [decide_eq_decide,hmem]
 simp
 constructor
 ·rintro (h1 | ⟨⟨v,h1⟩,h2⟩)
  ·exact .inl h1
  exact .inr ⟨hu,h2,v,h1⟩
 rintro (h1 | ⟨_,h2,v,h1⟩)
 ·exact .inl h1
 exact .inr ⟨⟨v,h1⟩,h2⟩
theorem BF.start {adj:L2} {root:Nat} (hr:root < adj.length):BF adj root (fun u=>if u=root then 1 else 0) ((List.replicate adj.length false).set root true) [] [(root:Int)]:=by
 refine ⟨by simp,fun u hu=>?_,fun k l hk=>?_,fun u hu=>?_,fun l hl=>by simp at hl,fun u hu=>?_,fun v w hv hw h0 hle=>?_,fun u hu h2=>?_⟩
 ·simp only [List.getElem?_set]
  by_cases h:root=u
  ·subst h; simp; omega
  rw [if_neg h]; simp [hu,show ¬ u=root by omega]
 ·have:k=0∧l=[(root:Int)]:=by
   cases k with
   | zero=>simp at hk; exact ⟨rfl,hk.symm⟩
   | succ k=>simp at hk
  obtain ⟨rfl,rfl⟩:=this
  refine ⟨by simp,fun x hx=>by simp at hx; omega,fun u hu=>?_⟩
  by_cases h:u=root
  ·subst h; simp
  simp [h]; omega
 ·split<;>simp
 ·by_cases h:u=root
  ·simp [h]
  simp [h]
 ·simp at hle
  exact absurd hle (by simpa using h0)
 split at h2<;>omega
theorem rlevels_ok {adj:L2} (hG:Gr adj) (hn:adj.length≤30) {root:Nat} (hr:root < adj.length):∃ out lev seen,(loop (sparseref12_Levels_l73 adj) ((List.replicate adj.length false).set root true,[(root:Int)],[]))=some out∧BF adj root lev seen out []:=by
 obtain ⟨o,h1,h2⟩:=whileG (step:=sparseref12_Levels_l73 adj) (s:=((List.replicate adj.length false).set root true,[(root:Int)],[]))
  (fun s=>∃ lev,BF adj root lev s.1 s.2.2 s.2.1) (fun o=>∃ lev seen,BF adj root lev seen o []) (fun s=>(adj.length+1 - s.2.2.length)*2+s.2.1.length.min 1)
  ⟨_,BF.start hr⟩ (by simp only; simp; omega) (by
   rintro ⟨seen,now,out⟩ ⟨lev,hB⟩
   simp only at hB
   by_cases hne:now=[]
   ·subst hne
    refine .inr ⟨out,?_,lev,seen,hB⟩
    unfold sparseref12_Levels_l73
    simp
   obtain ⟨lev',seen',m,k1,k2⟩:=rstep_ok hG hn hB hne
   have hc:=k2.count
   refine .inl ⟨_,k1,⟨lev',k2⟩,?_⟩
   have hpos:=List.length_pos_iff.2 hne
   simp only [List.length_append,List.length_singleton] at hc ⊢
   have:m.length.min 1≤1:=Nat.min_le_right _ _
   have:now.length.min 1=1:=Nat.min_eq_right hpos
   omega)
 obtain ⟨lev,seen,h⟩:=h2
 exact ⟨o,lev,seen,h1,h⟩
theorem BF.out_eq {adj:L2} {root:Nat} {lev lev':Nat→Nat} {seen seen':BL} {out out':L2} (h:BF adj root lev seen out []) (h':BF adj root lev' seen' out' []):out=out':=by
 have key:∀ (lev lev':Nat→Nat) (seen seen':BL) (out out':L2),BF adj root lev seen out []→BF adj root lev' seen' out' []→∀ (k:Nat) (l:LI),out[k]?=some l→out'[k]?=some l:=by
  intro lev lev' seen seen' out out' h h' k l hk
  have hkl:=(List.getElem?_eq_some_iff.1 hk).1
  have h1:=h.lst k l (by rw [List.getElem?_append_left hkl]; exact hk)
  have hne:=h.ne l (List.mem_of_getElem? hk)
  obtain ⟨x,hx⟩:=List.exists_mem_of_ne_nil _ hne
  have hx2:=h1.2.1 x hx
  have hlx:=(h1.2.2 x.toNat (by omega)).1 (by rwa [show ((x.toNat:Nat):Int)=x by omega])
  have hlx':=h.lev_eq h' x.toNat (by omega)
  have hle:=h'.lev_le x.toNat (by omega)
  have hk':k < out'.length:=by omega
  have hg':out'[k]?=some out'[k]:=by simp [hk']
  have h2:=h'.lst k _ (by rw [List.getElem?_append_left hk']; exact hg')
  rw [hg']
  congr 1
  refine asc_unique h2.1 h1.1 fun y=>?_
  constructor
  ·intro hy
   have h3:=h2.2.1 y hy
   have h4:=(h2.2.2 y.toNat (by omega)).1 (by rwa [show ((y.toNat:Nat):Int)=y by omega])
   have h5:=h.lev_eq h' y.toNat (by omega)
   have h6:=(h1.2.2 y.toNat (by omega)).2 (by omega)
   rwa [show ((y.toNat:Nat):Int)=y by omega] at h6
  intro hy
  have h3:=h1.2.1 y hy
  have h4:=(h1.2.2 y.toNat (by omega)).1 (by rwa [show ((y.toNat:Nat):Int)=y by omega])
  have h5:=h.lev_eq h' y.toNat (by omega)
  have h6:=(h2.2.2 y.toNat (by omega)).2 (by omega)
  rwa [show ((y.toNat:Nat):Int)=y by omega] at h6
 apply List.ext_getElem?
 intro k
 cases hk:out[k]? with
 | some l=>exact (key lev lev' seen seen' out out' h h' k l hk).symm
 | none=>
  cases hk':out'[k]? with
  | none=>rfl
  | some l=>
   have:=key lev' lev seen' seen out' out h' h k l hk'
   rw [hk] at this; cases this
end Pl
/- The class of a vertex: what the search by breadth reaches. -/
namespace Pl
open Sx Go M Vc
structure CC (adj:L2) (root:Nat) (c:LI):Prop where
 asc:c.Pairwise (· < ·)
 rng:∀ x,x∈c→0≤x∧x < adj.length
 mem:(root:Int)∈c
 clo:∀ v w:Nat,(v:Int)∈c→nbp adj v w→(w:Int)∈c
 min:∀ S:Nat→Prop,S root→(∀ v w,v < adj.length→S v→nbp adj v w→S w)→∀ u:Nat,(u:Int)∈c→S u
theorem BF.flat {adj:L2} {root:Nat} {lev:Nat→Nat} {seen:BL} {out:L2} (h:BF adj root lev seen out []) (x:Int):x∈out.flatten↔0≤x∧x < adj.length∧lev x.toNat≠0:=by
 rw [List.mem_flatten]
 constructor
 ·rintro ⟨l,hl,hx⟩
  obtain ⟨k,hk⟩:=List.mem_iff_getElem?.1 hl
  have hkl:=(List.getElem?_eq_some_iff.1 hk).1
  have h1:=h.lst k l (by rw [List.getElem?_append_left hkl]; exact hk)
  have h2:=h1.2.1 x hx
  have h3:=(h1.2.2 x.toNat (by omega)).1 (by rwa [show ((x.toNat:Nat):Int)=x by omega])
  exact ⟨h2.1,h2.2,by omega⟩
 rintro ⟨h1,h2,h3⟩
 have h4:=h.lev_le x.toNat (by omega)
 have hk:lev x.toNat - 1 < out.length:=by omega
 refine ⟨out[lev x.toNat - 1],List.getElem_mem hk,?_⟩
 have h5:=h.lst (lev x.toNat - 1) out[lev x.toNat - 1] (by rw [List.getElem?_append_left hk]; simp [hk])
 have h6:=(h5.2.2 x.toNat (by omega)).2 (by omega)
 rwa [show ((x.toNat:Nat):Int)=x by omega] at h6
theorem BF.nodup {adj:L2} {root:Nat} {lev:Nat→Nat} {seen:BL} {out:L2} (h:BF adj root lev seen out []):out.flatten.Nodup:=by
 have hl:∀ (k:Nat) (l:LI),out[k]?=some l→l.Pairwise (· < ·)∧(∀ x,x∈l→0≤x∧x < adj.length)∧∀ u:Nat,u < adj.length→((u:Int)∈l↔lev u=k+1):=fun k l hk=>
  h.lst k l (by rw [List.getElem?_append_left (List.getElem?_eq_some_iff.1 hk).1]; exact hk)
 rw [List.nodup_iff_pairwise_ne,List.pairwise_flatten]
 refine ⟨fun l hm=>?_,?_⟩
 ·obtain ⟨k,hk⟩:=List.mem_iff_getElem?.1 hm
  exact asc_nodup (hl k l hk).1
 rw [List.pairwise_iff_getElem]
 intro i j hi hj hij x hx y hy hxy
 subst hxy
 have h1:=hl i _ (by simp [hi]:out[i]?=some out[i])
 have h2:=hl j _ (by simp [hj]:out[j]?=some out[j])
 have h3:=h1.2.1 x hx
 have h4:=(h1.2.2 x.toNat (by omega)).1 (by rwa [show ((x.toNat:Nat):Int)=x by omega])
 have h5:=(h2.2.2 x.toNat (by omega)).1 (by rwa [show ((x.toNat:Nat):Int)=x by omega])
 omega
theorem comp_ok {adj:L2} (hG:Gr adj) (hn:adj.length≤30) {root:Nat} (hr:root < adj.length):
  ∃ out c,graph_levels adj (root:Int)=some out∧slices_Concat_int out=some out.flatten∧sortI out.flatten=some c∧CC adj root c:=by
 obtain ⟨out,lev,seen,h1,h2⟩:=levels_ok hG hn hr
 have hfl:out.flatten.length≤adj.length:=nodup_len _ _ h2.nodup fun x hx=>by have:=(h2.flat x).1 hx; exact ⟨this.1,this.2.1⟩
 obtain ⟨c,c1,c2,c3⟩:=sort_ok (l:=out.flatten) (by omega)
 have hcnt:=h2.count
 have hm:∀ x,x∈c↔0≤x∧x < adj.length∧lev x.toNat≠0:=fun x=>by rw [c2.mem_iff]; exact h2.flat x
 refine ⟨out,c,h1,concat_ok (by omega) (by omega),c1,asc_of c3 (c2.nodup_iff.2 h2.nodup),fun x hx=>?_,?_,fun v w hv hw=>?_,fun S hS hc u hu=>?_⟩
 ·have:=(hm x).1 hx; exact ⟨this.1,this.2.1⟩
 ·rw [hm]
  have:=(h2.rt root hr).2 rfl
  simp only [Int.toNat_natCast]
  omega
 ·rw [hm] at hv ⊢
  simp only [Int.toNat_natCast] at hv ⊢
  have h3:=h2.edge v w (by omega) hw hv.2.2 (h2.lev_le v (by omega))
  obtain ⟨l,h5,h6⟩:=hw
  have h4:=hG.rng v l _ h5 h6
  exact ⟨h4.1,h4.2.1,h3.1⟩
 have key:∀ k,∀ u:Nat,u < adj.length→lev u=k+1→S u:=by
  intro k
  induction k with
  | zero=>intro u hu h3; rw [(h2.rt u hu).1 h3]; exact hS
  | succ k ih=>
   intro u hu h3
   obtain ⟨w,h4,h5,h6⟩:=h2.back u hu (by omega)
   exact hc w u h4 (ih w h4 (by omega)) h5
 rw [hm] at hu
 simp only [Int.toNat_natCast] at hu
 exact key (lev u - 1) u (by omega) (by omega)
end Pl
/- The components of a graph. -/
namespace Pl
open Sx Go M Vc
theorem nbp_sym {adj:L2} (hG:Gr adj) {v w:Nat} (h:nbp adj v w):nbp adj w v:=by
 obtain ⟨l,h1,h2⟩:=h
 obtain ⟨m,h3,h4⟩:=hG.sym v l _ h1 h2
 exact ⟨m,by simpa using h3,h4⟩
structure CS (adj:L2) (k:Nat) (out:L2):Prop where
 cls:∀ c,c∈out→∃ r:Nat,r < k∧CC adj r c∧c.head?=some (r:Int)
 ord:out.Pairwise (fun a b=>∀ x y,a.head?=some x→b.head?=some y→x < y)
 dis:out.Pairwise (fun a b=>∀ x,x∈a→x∉b)
 all:∀ u:Nat,u < k→∃ c,c∈out∧(u:Int)∈c
 len:out.length≤k
theorem CS.next {adj:L2} {k:Nat} {out:L2} (h:CS adj k out) (hk:∃ c,c∈out∧(k:Int)∈c):CS adj (k+1) out:=
 ⟨fun c hc=>by obtain ⟨r,h1,h2⟩:=h.cls c hc; exact ⟨r,by omega,h2⟩,h.ord,h.dis,fun u hu=>by
  by_cases hu':u=k
  ·subst hu'; exact hk
  exact h.all u (by omega),by have:=h.len; omega⟩
theorem asc_head {c:LI} (h:c.Pairwise (· < ·)) {x:Int} (hx:x∈c) (hm:∀ y,y∈c→x≤y):c.head?=some x:=by
 cases c with
 | nil=>simp at hx
 | cons a c=>
  rw [List.pairwise_cons] at h
  rw [List.mem_cons] at hx
  have h1:=hm a (by simp)
  rcases hx with hx | hx
  ·simp [hx]
  have:=h.1 x hx; omega
theorem CS.push {adj:L2} (hG:Gr adj) {k:Nat} {out:L2} (h:CS adj k out) (hno:¬ ∃ c,c∈out∧(k:Int)∈c) {c:LI} (hc:CC adj k c):CS adj (k+1) (out++[c]):=by
 have hS:∀ u:Nat,(u:Int)∈c→∀ c',c'∈out→(u:Int)∉c':=by
  refine hc.min (fun u=>∀ c',c'∈out→(u:Int)∉c') (fun c' h1 h2=>hno ⟨c',h1,h2⟩) (fun v w hv h1 h2 c' h3 h4=>?_)
  obtain ⟨r,_,h5,_⟩:=h.cls c' h3
  exact h1 c' h3 (h5.clo w v h4 (nbp_sym hG h2))
 have hge:∀ x,x∈c→(k:Int)≤x:=by
  intro x hx
  have h1:=hc.rng x hx
  by_cases hlt:x < (k:Int)
  ·obtain ⟨c',h2,h3⟩:=h.all x.toNat (by omega)
   have:=hS x.toNat (by rwa [show ((x.toNat:Nat):Int)=x by omega]) c' h2
   exact absurd h3 this
  omega
 have hh:=asc_head hc.asc hc.mem hge
 refine ⟨fun c' hc'=>?_,?_,?_,fun u hu=>?_,by have:=h.len; simp; omega⟩
 ·rw [List.mem_append,List.mem_singleton] at hc'
  rcases hc' with hc' | rfl
  ·obtain ⟨r,h1,h2⟩:=h.cls c' hc'; exact ⟨r,by omega,h2⟩
  exact ⟨k,by omega,hc,hh⟩
 ·rw [List.pairwise_append]
  refine ⟨h.ord,by simp,fun a ha b hb x y hx hy=>?_⟩
  rw [List.mem_singleton] at hb
  subst hb
  obtain ⟨r,h1,_,h2⟩:=h.cls a ha
  rw [h2] at hx; rw [hh] at hy
  cases hx; cases hy; omega
 ·rw [List.pairwise_append]
  refine ⟨h.dis,by simp,fun a ha b hb x hx hy=>?_⟩
  rw [List.mem_singleton] at hb
  subst hb
  have h1:=hc.rng x hy
  exact hS x.toNat (by rwa [show ((x.toNat:Nat):Int)=x by omega]) a ha (by rwa [show ((x.toNat:Nat):Int)=x by omega])
 by_cases hu':u=k
 ·subst hu'; exact ⟨c,by simp,hc.mem⟩
 obtain ⟨c',h1,h2⟩:=h.all u (by omega); exact ⟨c',by simp [h1],h2⟩
theorem cmark_ok (r:LI) (s:BL) (hr:∀ x,x∈r→0≤x∧x < s.length) (hl:r.length < 1000000):Ret (loop (graph_Components_l13 r) (s,0)) (fun t=>t.length=s.length∧∀ u:Nat,u < s.length→t[u]?=if (u:Int)∈r then some true else s[u]?):=by
 refine ret_loop r.length (fun k (t:BL×Int)=>t.2=k∧t.1.length=s.length∧∀ u:Nat,u < s.length→t.1[u]?=if (u:Int)∈r.take k then some true else s[u]?) (by simp) ?_
 rintro k ⟨t,i⟩ hk ⟨rfl,h1,h2⟩
 unfold graph_Components_l13
 by_cases hkl:k < r.length
 ·obtain ⟨x,hx⟩:∃ x,r[k]?=some x:=⟨r[k],by simp [hkl]⟩
  have hxr:=hr x (mem_get hx)
  have e1:getI r (k:Int)=some x:=hx
  have hw:wa .i64 (k:Int) 1=((k+1:Nat):Int):=wa1 (by omega)
  have e5:(k:Int) < (r.length:Int):=by omega
  simp only [vcC,Bool.false_eq_true,reduceCtorEq,e1,hw,e5] at*
  clear e1 hw e5 hr
  grind
 have e5:¬ (k:Int) < (r.length:Int):=by omega
 simp only [vcC,Bool.false_eq_true,reduceCtorEq,e5] at*
 exact ⟨h1,fun u hu=>by rw [h2 u hu,take_all (by omega)]⟩
open Classical in
theorem components_ok {adj:L2} (hG:Gr adj) (hn:adj.length≤30):∃ out,graph_Components adj=some out∧CS adj adj.length out:=by
 have:Ret (graph_Components adj) (fun out=>CS adj adj.length out):=by
  unfold graph_Components
  rw [bindS (graphCheck_ok hG (by omega)),if_pos rfl,bindS (mkL_nat false adj.length (by omega))]
  simp only [ret_bind,ret_some]
  refine ret_loop adj.length (fun k (t:BL×L2×Int)=>t.2.2=k∧CS adj k t.2.1∧t.1.length=adj.length∧∀ u:Nat,u < adj.length→t.1[u]?=some (decide (∃ c,c∈t.2.1∧(u:Int)∈c))) ⟨rfl,⟨by simp,by simp,by simp,by simp,by simp⟩,by simp,fun u hu=>by simp [hu]⟩ ?_
  rintro k ⟨seen,out,i⟩ hk ⟨rfl,hC,hl,hs⟩
  simp only at hC hl hs
  unfold graph_Components_l9 graph_Components_j12
  simp only [ret_bind,ret_if,ret_get,ret_some,vq_l,vq_r,Int.toNat_natCast]
  refine ⟨fun h=>⟨by omega,by omega,fun x hx=>?_⟩,fun h=>?_⟩
  ·rw [hs k (by omega)] at hx
   obtain rfl:=sInj hx
   have hw:wa .i64 (k:Int) 1=((k+1:Nat):Int):=wa1 (by omega)
   refine ⟨fun hx=>⟨by omega,hw,hC.next (by simpa using hx),hl,hs⟩,fun hx=>?_⟩
   have hno:¬ ∃ c,c∈out∧(k:Int)∈c:=by simpa using hx
   obtain ⟨o,c,c1,c2,c3,c4⟩:=comp_ok hG hn (root:=k) (by omega)
   rw [ret_of c1,ret_of c2,ret_of c3]
   have hcl:=asc_len c4.asc c4.rng
   refine ret_call (cmark_ok c seen (fun x hx=>by have:=c4.rng x hx; omega) (by omega)) ?_
   rintro t ⟨t1,t2⟩
   rw [ret_app]
   have hcl2:=hC.len
   refine ⟨by simp; omega,by omega,hw,hC.push hG hno c4,by omega,fun u hu=>?_⟩
   rw [t2 u (by omega),hs u hu]
   by_cases huc:(u:Int)∈c
   ·simp [huc]
   simp only [huc,if_false]
   congr 1
   rw [decide_eq_decide]
   constructor
   ·rintro ⟨c',h1,h2⟩; exact ⟨c',by simp [h1],h2⟩
   rintro ⟨c',h1,h2⟩
   rw [List.mem_append,List.mem_singleton] at h1
   rcases h1 with h1 | rfl
   ·exact ⟨c',h1,h2⟩
   exact absurd h2 huc
  obtain rfl:k=adj.length:=by omega
  exact hC
 exact this
end Pl
/- The document's levels are the program's, and a class is what they list. -/
namespace Pl
open Sx Go M Vc
theorem kin_ok {l:LI} {v:Int} (hl:l.length < 1000000) {Q:Bool→Prop}:Ret (sparsekit_In l v) Q=Q (decide (v∈l)):=by
 refine ret_of (Ret.eq ?_)
 unfold sparsekit_In
 simp only [ret_bind]
 refine ret_loop l.length (fun k (t:Int)=>t=k∧v∉l.take k) (by simp) ?_
 intro k t hk hI
 unfold sparsekit_In_l1
 simp only [ret_bind,ret_if,ret_get,ret_some,vq_l,vq_r]
 grind [List.take_add_one,List.mem_iff_getElem?]
theorem rCheck_ok {adj:L2} (hG:Gr adj) (hn:adj.length≤200):sparseref12_Check adj=some 0:=by
 have hb:=fun v l (h:adj[v]?=some l)=>hG.len h
 refine Ret.eq ?_
 unfold sparseref12_Check
 rw [if_neg (by omega),ret_bind]
 refine ret_loop adj.length (fun k (t:Int)=>t=k) rfl ?_
 rintro k t hk rfl
 unfold sparseref12_Check_l21
 simp only [ret_bind,ret_if,ret_get,ret_some,vq_l,vq_r,Int.toNat_natCast]
 refine ⟨fun h=>⟨by omega,h,fun l hl=>?_⟩,fun h=>trivial⟩
 have hll:=hb k l hl
 rw [ret_of (gAsc_ok (hG.asc k l hl) (by omega))]
 refine ⟨fun _=>?_,fun h=>absurd rfl h⟩
 refine ret_loop l.length (fun j (t:Int)=>t=j) rfl ?_
 rintro j t hj rfl
 unfold sparseref12_Check_l28
 simp only [ret_bind,ret_if,ret_get,ret_some,vq_l,vq_r,Int.toNat_natCast]
 refine ⟨by omega,by omega,fun l' hl'=>?_⟩
 obtain rfl:l=l':=by rw [hl] at hl'; exact sInj hl'
 refine ⟨fun h2=>⟨by omega,by omega,fun l' hl'=>?_⟩,fun h2=>?_⟩
 ·obtain rfl:l=l':=by rw [hl] at hl'; exact sInj hl'
  refine ⟨by omega,by omega,fun x hx=>?_⟩
  have hr:=hG.rng k l x hl (List.mem_of_getElem? hx)
  obtain ⟨m,hm,hkm⟩:=hG.sym k l x hl (List.mem_of_getElem? hx)
  have hml:=hb _ m hm
  refine ⟨fun h3=>?_,fun h3=>⟨hr.1,hr.2.1,fun m' hm'=>?_⟩⟩
  ·simp at h3; omega
  obtain rfl:m=m':=by rw [hm] at hm'; exact sInj hm'
  rw [kin_ok (by omega)]
  simp [hkm]
  rw [wa_i (by omega) (by omega)]
  omega
 have:k < adj.length:=by omega
 rw [wa_i (by omega) (by omega)]
 omega
theorem rLevels_ok {adj:L2} (hG:Gr adj) (hn:adj.length≤30) {root:Nat} (hr:root < adj.length):∃ out lev seen,sparseref12_Levels adj (root:Int)=some out∧BF adj root lev seen out []:=by
 obtain ⟨out,lev,seen,h1,h2⟩:=rlevels_ok hG hn hr
 refine ⟨out,lev,seen,?_,h2⟩
 unfold sparseref12_Levels
 rw [bindS (rCheck_ok hG (by omega)),if_neg (by simp; omega),bindS (mkL_nat false adj.length (by omega)),bindS (setI_lt (by simp; omega)),bindS h1]
theorem CC.uniq {adj:L2} {r:Nat} {c c':LI} (h:CC adj r c) (h':CC adj r c'):c=c':=by
 have key:∀ {c c':LI},CC adj r c→CC adj r c'→∀ x,x∈c→x∈c':=by
  intro c c' h h' x hx
  have h1:=h.rng x hx
  have h2:=h.min (fun u=>(u:Int)∈c') h'.mem (fun v w _ h3 h4=>h'.clo v w h3 h4) x.toNat (by rwa [show ((x.toNat:Nat):Int)=x by omega])
  rwa [show ((x.toNat:Nat):Int)=x by omega] at h2
 exact asc_unique h.asc h'.asc fun x=>⟨key h h' x,key h' h x⟩
end Pl
