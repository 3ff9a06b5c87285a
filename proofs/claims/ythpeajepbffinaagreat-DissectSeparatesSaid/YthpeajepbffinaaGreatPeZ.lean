/- The graph whose weights are all 1. -/
import Derived.Test.YthpeajepbffinaaGreatPdZ
import Derived.Test.YthpeajepbffinaaGreatPdY
import Derived.Test.YthpeajepbffinaaGreatPqZ
set_option linter.unusedVariables false
set_option linter.unusedSimpArgs false
set_option maxHeartbeats 4000000
namespace Pd
open Pl Sx Go M Vc
def onesE (adj:L2):L2:=adj.map fun l=>List.replicate l.length 1
theorem ones_get {adj:L2} {v:Nat} {l:LI} (h:adj[v]?=some l):(onesE adj)[v]?=some (List.replicate l.length 1):=by
 simp [onesE,h]
theorem ones_wt {adj:L2} (hG:Gr adj):Wt adj (List.replicate adj.length 1) (onesE adj):=by
 refine ⟨hG,by simp,by simp [onesE],fun x hx=>?_,fun v l e h1 h2=>?_,fun e he x hx=>?_,fun v k l e u x h1 h2 h3 h4=>?_⟩
 ·rw [List.eq_of_mem_replicate hx]; constructor<;>omega
 ·rw [ones_get h1] at h2; cases h2; simp
 ·simp only [onesE,List.mem_map] at he
  obtain ⟨l,_,rfl⟩:=he
  rw [List.eq_of_mem_replicate hx]; constructor<;>omega
 rw [ones_get h1] at h2; cases h2
 have hx:x=1:=List.eq_of_mem_replicate (mem_get h4)
 subst hx
 obtain ⟨m,m1,m2⟩:=hG.sym v l u h1 (mem_get h3)
 obtain ⟨k',k1⟩:=List.mem_iff_getElem?.1 m2
 refine ⟨m,_,k',m1,ones_get m1,k1,?_⟩
 have:=(List.getElem?_eq_some_iff.1 k1).1
 simp [this]
theorem units_ok {adj:L2} (hG:Gr adj) (hn:adj.length≤200):dissect_units adj=some (adj,List.replicate adj.length 1,onesE adj):=by
 unfold dissect_units
 have h1:loop (dissect_units_l2 adj) ([],0)=some (onesE adj):=by
  refine Ret.eq ?_
  refine ret_loop adj.length (fun k (t:L2×Int)=>t=((adj.take k).map (fun l=>List.replicate l.length 1),(k:Int))) (by simp) ?_
  rintro k _ hk rfl
  unfold dissect_units_l2
  simp only
  by_cases hkn:k < adj.length
  ·have hw:wa .i64 (k:Int) 1=((k+1:Nat):Int):=wa1 (by omega)
   have hl:=hG.len (gEq hkn)
   rw [if_pos (by omega),bindS (getI_lt hkn),bindS (repeat_ok (by omega) 1),bindS (app_small (by simp; omega)),hw,ret_some,vq_l]
   refine ⟨hkn,?_⟩
   rw [take_succ' hkn,List.map_append]
   rfl
  rw [if_neg (by omega),ret_some,vq_r,take_all (by omega)]
  rfl
 rw [bindS (repeat_ok (by omega) 1),bindS h1]
structure Un (adj:L2) (n:Nat) (W:Nat→Nat→Int):Prop where
 a:adj=cadj n W
 e:onesE adj=ced n W
 t:Tw n W 1
theorem ones_canon {adj:L2} (hG:Gr adj):∃ W,Un adj adj.length W:=by
 obtain ⟨c1,c2,c3⟩:=(ones_wt hG).canon (B:=1) (by omega) (fun e he x hx=>by
  simp only [onesE,List.mem_map] at he
  obtain ⟨l,_,rfl⟩:=he
  rw [List.eq_of_mem_replicate hx]; omega)
 exact ⟨_,c1,c2,c3⟩
theorem ones_sum (n:Nat):sm n (vw (List.replicate n 1))≤n:=by
 have:sm n (vw (List.replicate n 1))≤n*1:=sm_bound fun i hi=>by
  rw [vw_get (show (List.replicate n (1:Int))[i]?=some 1 by simp [hi])]
  omega
 omega
theorem Tw.up {n:Nat} {W:Nat→Nat→Int} {B C:Int} (h:Tw n W B) (hBC:B≤C):Tw n W C:=⟨fun v u h1 h2=>⟨(h.nn v u h1 h2).1,Int.le_trans (h.nn v u h1 h2).2 hBC⟩,h.sym,h.dg⟩
end Pd
/- The sides of a graph that is cut in two. -/
namespace Pd
open Pl Sx Go M Vc
theorem side2_ok {adj:L2} (hG:Gr adj) (hn:adj.length≤30):∃ o,dissect_bisect FUEL adj (List.replicate adj.length 1) (onesE adj)=some (o,true)∧sparseref18_Bisect FUEL adj (List.replicate adj.length 1) (onesE adj)=some (o,0)∧o.length=adj.length∧S01 o:=by
 obtain ⟨W,h1,h2,h3⟩:=ones_canon hG
 obtain ⟨k,hk⟩:=fuel_succ'
 have he:et adj.length W≤40000:=by
  have a1:∀ v,v < adj.length→sm adj.length (fun u=>W v u)≤adj.length*1:=fun v hv=>sm_bound fun u hu=>(h3.nn v u hv hu).2
  have a2:et adj.length W≤adj.length*(adj.length*1):=sm_bound a1
  have a3:(adj.length:Int)*(adj.length*1)≤200*200:=by
   have b1:(adj.length:Int)≤200:=by omega
   have b2:(adj.length:Int)*1≤200:=by omega
   exact Int.mul_le_mul b1 b2 (by omega) (by omega)
  omega
 have hs:=ones_sum adj.length
 obtain ⟨o,o1,o2,o3,o4⟩:=bisect2_ok adj.length hn (h3.up (by omega)) (vx:=List.replicate adj.length 1) ⟨by simp,fun x hx=>by rw [List.eq_of_mem_replicate hx]; constructor<;>omega⟩ (by omega) (by omega) FUEL FUEL (by omega) (by omega)
 rw [← h1,← h2] at o1 o2
 exact ⟨o,o1,o2,o3,o4⟩
theorem side_ok {adj:L2} (hG:Gr adj) (hn:adj.length≤30):∃ o,dissect_bisect FUEL adj (List.replicate adj.length 1) (onesE adj)=some (o,true)∧o.length=adj.length∧S01 o:=by
 obtain ⟨o,h1,_,h2,h3⟩:=side2_ok hG hn
 exact ⟨o,h1,h2,h3⟩
end Pd
/- Kuhn's algorithm: what a try does, and the matching it ends with. -/
namespace Km
open Pl Sx Go M Vc
structure KB (R C:Nat) (E:L2):Prop where
 len:E.length=C
 rng:∀ (j:Nat) l,E[j]?=some l→∀ i,i∈l→0≤i∧i < (R:Int)
 sz:∀ (j:Nat) l,E[j]?=some l→l.length≤100000
def inE (E:L2) (c i:Nat):Prop:=∃ l,E[c]?=some l∧(i:Int)∈l
def mkd (m:BL) (i:Nat):Prop:=m[i]?=some true
structure Cs (R C:Nat) (E:L2) (a b:LI) (x:Int):Prop where
 al:a.length=C
 bl:b.length=R
 cr:∀ (i:Nat) c,b[i]?=some c→c≠-1→0≤c∧c < (C:Int)
 col:∀ (i:Nat) c,b[i]?=some c→c≠-1→(i:Int)≠x→a[c.toNat]?=some (i:Int)∧inE E c.toNat i
 row:∀ (c:Nat) i,a[c]?=some i→i≠-1→0≤i∧i < (R:Int)∧b[i.toNat]?=some (c:Int)∧i≠x
def Dead (E:L2) (b:LI) (D:Nat→Prop):Prop:=∀ i,D i→∃ c:Nat,b[i]?=some (c:Int)∧∀ i',inE E c i'→D i'
structure TryF (R:Nat) (E:L2) (a b:LI) (m:BL) (a' b':LI) (m':BL):Prop where
 ea:a'=a
 eb:b'=b
 new:∀ i,mkd m' i→¬ mkd m i→∃ c:Nat,b[i]?=some (c:Int)∧∀ i',inE E c i'→mkd m' i'
structure TryT (R C:Nat) (E:L2) (a b:LI) (m:BL) (j:Nat) (x:Int) (a' b':LI):Prop where
 cs:Cs R C E a' b' x
 at_:∃ i:Nat,a'[j]?=some (i:Int)
 ca:∀ c:Nat,c≠j→a'[c]?≠a[c]?→∃ i,¬ mkd m i∧b[i]?=some (c:Int)
 cb:∀ i,mkd m i→b'[i]?=b[i]?
 kb:∀ (i:Nat) c,b[i]?=some c→c≠-1→∃ c',b'[i]?=some c'∧c'≠-1
 ka:∀ (c:Nat) i,a[c]?=some i→i≠-1→∃ i',a'[c]?=some i'∧i'≠-1
structure TryO (R C:Nat) (E:L2) (a b:LI) (m:BL) (j:Nat) (x:Int) (o:LI×LI×BL×Bool):Prop where
 ml:o.2.2.1.length=R
 mono:∀ i,mkd m i→mkd o.2.2.1 i
 all:o.2.2.2=false→∀ i,inE E j i→mkd o.2.2.1 i
 f:o.2.2.2=false→TryF R E a b m o.1 o.2.1 o.2.2.1
 t:o.2.2.2=true→TryT R C E a b m j x o.1 o.2.1
 dead:∀ D:Nat→Prop,Dead E b D→((∀ i,inE E j i→D i)→o.2.2.2=false)∧∀ i,D i→o.2.1[i]?=b[i]?
theorem mkd_set {m:BL} {i k:Nat} (hi:i < m.length):mkd (m.set i true) k↔k=i∨mkd m k:=by
 unfold mkd
 rw [List.getElem?_set]
 by_cases h:i=k
 ·subst h; simp [hi]
 rw [if_neg h]
 constructor
 ·exact .inr
 rintro (rfl | h')
 ·exact absurd rfl h
 exact h'
theorem count_set:∀ {m:BL} {i:Nat},m[i]?=some false→(m.set i true).count false+1=m.count false
 | [],i,h=>by simp at h
 | x::m,0,h=>by
  have:x=false:=by simpa using h
  subst this
  simp
 | x::m,i+1,h=>by
  have:=count_set (m:=m) (i:=i) (by simpa using h)
  rw [List.set_cons_succ,List.count_cons,List.count_cons]
  omega
theorem count_mono:∀ {m m':BL},m'.length=m.length→(∀ i:Nat,mkd m i→mkd m' i)→m'.count false≤m.count false
 | [],m',h,_=>by
  have:m'=[]:=List.eq_nil_of_length_eq_zero (by simpa using h)
  subst this; simp
 | x::m,m',h,hm=>by
  cases m' with
  | nil=>simp at h
  | cons y m'=>
   have h1:=count_mono (m:=m) (m':=m') (by simpa using h) (fun i hi=>by
    have:=hm (i+1) (by simpa [mkd] using hi)
    simpa [mkd] using this)
   have h2:=hm 0
   simp only [mkd,List.getElem?_cons_zero,Option.some.injEq] at h2
   rw [List.count_cons,List.count_cons]
   cases x<;>cases y<;>simp_all<;>omega
theorem take_row {R C:Nat} {E:L2} {a b:LI} {m:BL} {j i:Nat} {x:Int} (hCs:Cs R C E a b (-1)) (hj:j < C) (hi:i < R) (hx:a[j]?=some x) (hxm:x= -1∨mkd m x.toNat) (him:¬ mkd m i) (hie:inE E j i)
  {a' b':LI} (hb:Cs R C E a' b' (if b[i]?=some (-1) then -1 else (i:Int))) (haj:a'[j]?=a[j]?) (hbi:b'[i]?=b[i]?)
  (hca:∀ c:Nat,a'[c]?≠a[c]?→∃ i,¬ mkd m i∧b[i]?=some (c:Int)) (hcb:∀ i,mkd m i→b'[i]?=b[i]?)
  (hkb:∀ (i:Nat) c,b[i]?=some c→c≠-1→∃ c',b'[i]?=some c'∧c'≠-1) (hka:∀ (c:Nat) i,a[c]?=some i→i≠-1→∃ i',a'[c]?=some i'∧i'≠-1):
  TryT R C E a b m j x (a'.set j (i:Int)) (b'.set i (j:Int)):=by
 have hal:=hb.al
 have hbl:=hb.bl
 have hxi:x≠(i:Int):=by
  rintro rfl
  rcases hxm with h | h
  ·omega
  exact him (by simpa using h)
 have hold:∀ r:Nat,b'[r]?=some (j:Int)→r≠i→(r:Int)=x:=by
  intro r hr hri
  have h1:(r:Int)≠(if b[i]?=some (-1) then -1 else (i:Int)):=by split<;>omega
  have h2:=(hb.col r j hr (by omega) h1).1
  simp only [Int.toNat_natCast] at h2
  rw [haj,hx] at h2
  exact (sInj h2).symm
 have hkeep:∀ (c:Nat) r,a'[c]?=some r→r≠-1→r=(i:Int)→False:=by
  intro c r hr hr1 hri
  obtain ⟨h1,h2,h3,h4⟩:=hb.row c r hr hr1
  subst hri
  by_cases hf:b[i]?=some (-1)
  ·simp only [Int.toNat_natCast] at h3
   rw [hbi,hf] at h3
   have:=sInj h3
   omega
  rw [if_neg hf] at h4
  exact h4 rfl
 refine ⟨⟨by simp [hal],by simp [hbl],fun r c hr hc=>?_,fun r c hr hc hrx=>?_,fun c r hr hr1=>?_⟩,⟨i,by simp [hal,hj]⟩,fun c hc hne=>?_,fun r hr=>?_,fun r c hr hc=>?_,fun c r hr hr1=>?_⟩
 ·rw [List.getElem?_set] at hr
  split at hr
  ·split at hr
   ·have:=sInj hr; omega
   cases hr
  exact hb.cr r c hr hc
 ·rw [List.getElem?_set] at hr
  by_cases hri:i=r
  ·subst hri
   rw [if_pos rfl,if_pos (by omega)] at hr
   have:=sInj hr
   subst this
   exact ⟨by simp [hal,hj],by simpa using hie⟩
  rw [if_neg hri] at hr
  have h1:(r:Int)≠(if b[i]?=some (-1) then -1 else (i:Int)):=by split<;>omega
  obtain ⟨h2,h3⟩:=hb.col r c hr hc h1
  obtain ⟨h4,h5⟩:=hb.cr r c hr hc
  refine ⟨?_,h3⟩
  rw [List.getElem?_set]
  by_cases hcj:j=c.toNat
  ·exfalso
   apply hrx
   refine hold r ?_ (fun e=>hri e.symm)
   rw [hr]
   congr 1
   omega
  rw [if_neg hcj]; exact h2
 ·rw [List.getElem?_set] at hr
  by_cases hcj:j=c
  ·subst hcj
   rw [if_pos rfl,if_pos (by omega)] at hr
   have:=sInj hr
   subst this
   exact ⟨by omega,by omega,by simp [hbl,hi],fun e=>hxi e.symm⟩
  rw [if_neg hcj] at hr
  obtain ⟨h1,h2,h3,h4⟩:=hb.row c r hr hr1
  have hri:r≠(i:Int):=fun e=>hkeep c r hr hr1 e
  refine ⟨h1,h2,?_,?_⟩
  ·rw [List.getElem?_set,if_neg (by omega)]; exact h3
  rintro rfl
  have h5:=(hCs.row j r hx hr1).2.2.1
  rcases hxm with h | h
  ·exact hr1 h
  rw [← hcb _ h,h3] at h5
  have:=sInj h5
  omega
 ·refine hca c ?_
  rw [List.getElem?_set,if_neg (fun e=>hc e.symm)] at hne
  exact hne
 ·rw [List.getElem?_set,if_neg]
  ·exact hcb r hr
  rintro rfl; exact him hr
 ·rw [List.getElem?_set]
  by_cases hri:i=r
  ·subst hri
   exact ⟨j,by rw [if_pos rfl,if_pos (by omega)],by omega⟩
  rw [if_neg hri]; exact hkb r c hr hc
 rw [List.getElem?_set]
 by_cases hcj:j=c
 ·subst hcj
  exact ⟨i,by rw [if_pos rfl,if_pos (by omega)],by omega⟩
 rw [if_neg hcj]; exact hka c r hr hr1
theorem try_succ (k:Nat):matching_kuhn_try (k+1)=matching_kuhn_try_body (matching_kuhn_try k):=by simp only [matching_kuhn_try]
theorem try_ok {R C:Nat} {E:L2} (hE:KB R C E):∀ (k:Nat) {a b:LI} {m:BL} {j:Nat} {x:Int},Cs R C E a b (-1)→m.length=R→j < C→a[j]?=some x→(x= -1∨mkd m x.toNat)→m.count false < k→
  Ret (matching_kuhn_try k E a b m (j:Int)) (TryO R C E a b m j x):=by
 intro k
 induction k with
 | zero=>intros; omega
 | succ k ih=>
  intro a b m j x hCs hml hj hx hxm hk
  rw [try_succ]
  unfold matching_kuhn_try_body
  obtain ⟨l,hl⟩:∃ l,E[j]?=some l:=⟨E[j]'(by rw [hE.len]; exact hj),by simp [hE.len,hj]⟩
  have hl0:getI E (j:Int)=some l:=hl
  have hlr:=hE.rng j l hl
  have hll:=hE.sz j l hl
  have hal:=hCs.al
  have hbl:=hCs.bl
  rw [bindS hl0,ret_bind]
  refine ret_call (P:=fun o=>match o with
   | .inl s=>TryO R C E a b m j x (s.1,s.2.1,s.2.2,false)
   | .inr s=>TryO R C E a b m j x (s.1,s.2.1,s.2.2,true)) ?_ ?_
  ·refine ret_loop l.length (fun t (s:LI×LI×BL×Int)=>s.1=a∧s.2.1=b∧s.2.2.2=(t:Int)∧s.2.2.1.length=R∧(∀ i,mkd m i→mkd s.2.2.1 i)∧(∀ i:Nat,(i:Int)∈l.take t→mkd s.2.2.1 i)∧TryF R E a b m s.1 s.2.1 s.2.2.1)
    ⟨rfl,rfl,rfl,hml,fun _ h=>h,fun i hi=>by simp at hi,rfl,rfl,fun i h1 h2=>absurd h1 h2⟩ ?_
   rintro t ⟨a',b',m',t'⟩ ht ⟨e1,e2,e3,hm1,hm2,hm3,hF⟩
   simp only at e1 e2 e3 hm1 hm2 hm3 hF
   subst e1; subst e2; subst e3
   unfold matching_kuhn_try_l9 matching_kuhn_try_j12
   simp only
   by_cases htl:t < l.length
   ·have hw:wa .i64 (t:Int) 1=((t+1:Nat):Int):=wa1 (by omega)
    obtain ⟨i,hi⟩:∃ i:Nat,l[t]?=some (i:Int):=by
     have:=hlr _ (List.getElem_mem htl)
     exact ⟨l[t].toNat,by rw [gEq htl]; congr 1; omega⟩
    have hi0:getI l (t:Int)=some (i:Int):=hi
    have hiR:i < R:=by have:=hlr _ (mem_get hi); omega
    have hie:inE E j i:=⟨l,hl,mem_get hi⟩
    rw [if_pos (by omega),bindS hi0,hw]
    obtain ⟨q,hq⟩:∃ q,m'[i]?=some q:=⟨m'[i]'(by omega),by simp [hm1,hiR]⟩
    have hq0:getI m' (i:Int)=some q:=hq
    rw [bindS hq0]
    cases q with
    | true=>
     rw [if_pos rfl,ret_some,vq_l]
     refine ⟨htl,rfl,rfl,rfl,hm1,hm2,fun r hr=>?_,hF⟩
     rcases (mts hi).1 hr with h | h
     ·exact hm3 r h
     have:r=i:=by omega
     subst this; exact hq
    | false=>
     have hnm':¬ mkd m' i:=by unfold mkd; rw [hq]; simp
     have hnm:¬ mkd m i:=fun h=>hnm' (hm2 i h)
     obtain ⟨c,hc⟩:∃ c,b'[i]?=some c:=⟨b'[i]'(by omega),by simp [hbl,hiR]⟩
     have hc0:getI b' (i:Int)=some c:=hc
     rw [if_neg (by simp),bindS (setI_lt (by omega)),bindS hc0]
     have hms:∀ r,mkd (m'.set i true) r↔r=i∨mkd m' r:=fun r=>mkd_set (by omega)
     have hcnt:=count_set hq
     have hcm:=count_mono (m:=m) (m':=m') (by omega) hm2
     by_cases hf:c= -1
     ·subst hf
      rw [if_pos rfl]
      rw [obs]
      simp only [if_true]
      rw [bindS (setI_lt (by omega)),bindS (setI_lt (by omega)),ret_some,vq_r]
      have hT:=take_row (a':=a') (b':=b') hCs hj hiR hx hxm hnm hie (by rw [if_pos hc]; exact hCs) rfl rfl (fun c h=>absurd rfl h) (fun _ _=>rfl) (fun i c h1 h2=>⟨c,h1,h2⟩) (fun c i h1 h2=>⟨i,h1,h2⟩)
      refine ⟨by simp [hm1],fun r hr=>(hms r).2 (.inr (hm2 r hr)),fun h=>(by cases h),fun h=>(by cases h),fun _=>hT,fun D hD=>?_⟩
      have hnD:¬ D i:=by
       intro h
       obtain ⟨c,c1,_⟩:=hD i h
       rw [hc] at c1
       have:=sInj c1
       omega
      refine ⟨fun h=>absurd (h i hie) hnD,fun r hr=>?_⟩
      simp only
      rw [List.getElem?_set,if_neg]
      rintro rfl; exact hnD hr
     obtain ⟨hc1,hc2⟩:=hCs.cr i c hc hf
     obtain ⟨c,rfl⟩:∃ c':Nat,c=(c':Int):=⟨c.toNat,by omega⟩
     obtain ⟨hac,hice⟩:=hCs.col i c hc hf (by omega)
     simp only [Int.toNat_natCast] at hac hice
     rw [if_neg hf,bindS hc0,ret_bind,ret_bind]
     refine ret_call (ih (a:=a') (b:=b') (m:=m'.set i true) (j:=c) (x:=(i:Int)) hCs (by simp [hm1]) (by omega) hac (.inr (by simpa using (hms i).2 (.inl rfl))) (by omega)) ?_
     rintro ⟨a2,b2,m2,ok⟩ hO
     have o1:=hO.ml; have o2:=hO.mono; have o3:=hO.all; have o4:=hO.f; have o5:=hO.t; have o6:=hO.dead
     simp only at o1 o2 o3 o4 o5 o6
     simp only [ret_some]
     cases ok with
     | true=>
      have hT:=o5 rfl
      simp only [if_true]
      have h2l:=hT.cs.al
      have h2b:=hT.cs.bl
      have hjc:j≠c:=by
       rintro rfl
       rw [hac] at hx
       have:=sInj hx
       rcases hxm with h | h
       ·omega
       rw [← this] at h; exact hnm (by simpa using h)
      have haj:a2[j]?=a'[j]?:=by
       by_cases he:a2[j]?=a'[j]?
       ·exact he
       exfalso
       obtain ⟨r,r1,r2⟩:=hT.ca j hjc he
       have h3:=(hCs.col r j r2 (by omega) (by omega)).1
       simp only [Int.toNat_natCast] at h3
       rw [hx] at h3
       have:=sInj h3
       rcases hxm with h | h
       ·omega
       rw [this] at h
       exact r1 ((hms r).2 (.inr (hm2 r (by simpa using h))))
      rw [bindS (setI_lt (by omega)),bindS (setI_lt (by omega)),ret_some,vq_r]
      have hT2:=take_row (a':=a2) (b':=b2) hCs hj hiR hx hxm hnm hie (by rw [if_neg (by rw [hc]; intro h; have:=sInj h; omega)]; exact hT.cs) haj (hT.cb i ((hms i).2 (.inl rfl)))
       (fun c' h=>by
        by_cases hcc:c'=c
        ·subst hcc; exact ⟨i,hnm,hc⟩
        obtain ⟨r,r1,r2⟩:=hT.ca c' hcc h
        exact ⟨r,fun hr=>r1 ((hms r).2 (.inr (hm2 r hr))),r2⟩)
       (fun r hr=>hT.cb r ((hms r).2 (.inr (hm2 r hr)))) hT.kb hT.ka
      refine ⟨o1,fun r hr=>o2 r ((hms r).2 (.inr (hm2 r hr))),fun h=>(by cases h),fun h=>(by cases h),fun _=>hT2,fun D hD=>?_⟩
      obtain ⟨d1,d2⟩:=o6 D hD
      have hnD:¬ D i:=by
       intro h
       obtain ⟨c',c1,c3⟩:=hD i h
       rw [hc] at c1
       have:=sInj c1
       have:c'=c:=by omega
       subst this
       have:=d1 c3
       cases this
      refine ⟨fun h=>absurd (h i hie) hnD,fun r hr=>?_⟩
      simp only
      rw [List.getElem?_set,if_neg]
      ·exact d2 r hr
      rintro rfl; exact hnD hr
     | false=>
      have hf2:=o4 rfl
      obtain ⟨f1,f2,f3⟩:=hf2
      subst f1; subst f2
      simp only [if_false,Bool.false_eq_true]
      rw [ret_some,vq_l]
      refine ⟨htl,rfl,rfl,rfl,o1,fun r hr=>o2 r ((hms r).2 (.inr (hm2 r hr))),fun r hr=>?_,rfl,rfl,fun r r1 r2=>?_⟩
      ·rcases (mts hi).1 hr with h | h
       ·exact o2 r ((hms r).2 (.inr (hm3 r h)))
       have:r=i:=by omega
       subst this; exact o2 r ((hms r).2 (.inl rfl))
      by_cases hri:r=i
      ·subst hri
       exact ⟨c,hc,o3 rfl⟩
      by_cases hrm:mkd m' r
      ·obtain ⟨c',c1,c2⟩:=hF.new r hrm r2
       exact ⟨c',c1,fun i' h=>o2 i' ((hms i').2 (.inr (c2 i' h)))⟩
      exact f3 r r1 (fun h=>((hms r).1 h).elim hri hrm)
   rw [if_neg (by omega),ret_some,vq_r]
   rw [take_all (by omega)] at hm3
   refine ⟨hm1,hm2,fun _ i hi=>?_,fun _=>hF,fun h=>(by cases h),fun D hD=>⟨fun _=>rfl,fun _ _=>rfl⟩⟩
   obtain ⟨l',h1,h2⟩:=hi
   rw [hl] at h1
   cases h1
   exact hm3 i h2
  rintro (⟨a',b',m'⟩ | ⟨a',b',m'⟩) h
  ·simp only [ret_some]; exact h
  simp only [ret_some]; exact h
def Fin (R C:Nat) (E:L2) (a b:LI) (D:Nat→Prop):Prop:=Cs R C E a b (-1)∧Dead E b D∧∀ c,c < C→a[c]?=some (-1)→∀ i,inE E c i→D i
theorem full_ok {n:Nat} (hn:n≤100000) (x:Int):matching_full (n:Int) x=some (List.replicate n x):=by
 unfold matching_full
 have h1:loop (matching_full_l1 (List.replicate n 0) x) (List.replicate n 0,0)=some (List.replicate n x):=by
  refine Ret.eq ?_
  refine ret_loop n (fun k (t:LI×Int)=>t=(List.replicate k x++List.replicate (n - k) 0,(k:Int))) (by simp) ?_
  rintro k _ hk rfl
  unfold matching_full_l1
  simp only
  by_cases hkn:k < n
  ·have hw:wa .i64 (k:Int) 1=((k+1:Nat):Int):=wa1 (by omega)
   rw [if_pos (by simp; omega),bindS (setI_lt (by simp; omega)),hw,ret_some,vq_l]
   refine ⟨hkn,?_⟩
   congr 1
   rw [List.set_append_right _ _ (by simp),List.length_replicate,Nat.sub_self,show n - k=(n - (k+1))+1 by omega,List.replicate_succ,List.set_cons_zero,List.replicate_succ',List.append_assoc]
   rfl
  rw [if_neg (by simp; omega),ret_some,vq_r,show k=n by omega]
  simp
 rw [bindS (mkL_nat 0 n (by omega)),bindS h1]
theorem count_none (n:Nat):(List.replicate n false).count false=n:=by simp
structure Mx (R C:Nat) (E:L2) (k:Nat) (a b:LI) (m:BL) (D:Nat→Prop):Prop where
 cs:Cs R C E a b (-1)
 dd:Dead E b D
 dn:∀ c,c < k→a[c]?=some (-1)→∀ i,inE E c i→D i
 td:∀ c,k≤c→c < C→a[c]?=some (-1)
theorem round_next {R C:Nat} {E:L2} {k:Nat} {a b:LI} {m0:BL} {D:Nat→Prop} (hM:Mx R C E k a b m0 D) (hkn:k < C) {o:LI×LI×BL×Bool} (hO:TryO R C E a b (List.replicate R false) k (-1) o):∃ D',Mx R C E (k+1) o.1 o.2.1 o.2.2.1 D':=by
 obtain ⟨a',b',m',ok⟩:=o
 have hCs:=hM.cs
 have o3:=hO.all; have o4:=hO.f; have o5:=hO.t; have o6:=hO.dead
 simp only at o3 o4 o5 o6
 have hno:∀ i,¬ mkd (List.replicate R false) i:=by
  intro i h
  have:=List.eq_of_mem_replicate (mem_get h)
  cases this
 cases ok with
 | true=>
  obtain ⟨t1,t2,t3,t4,t5,t6⟩:=o5 rfl
  obtain ⟨_,d2⟩:=o6 D hM.dd
  simp only
  refine ⟨D,t1,fun i hi=>?_,fun c hc hac i hi=>?_,fun c h1 h2=>?_⟩
  ·obtain ⟨c,c1,c2⟩:=hM.dd i hi
   exact ⟨c,by rw [d2 i hi]; exact c1,c2⟩
  ·by_cases hck:c=k
   ·subst hck
    obtain ⟨r,r1⟩:=t2
    rw [hac] at r1
    have:=sInj r1
    omega
   obtain ⟨q,hq⟩:∃ q,a[c]?=some q:=⟨a[c]'(by rw [hCs.al]; omega),by simp [hCs.al,show c < C by omega]⟩
   by_cases hq1:q= -1
   ·subst hq1
    exact hM.dn c (by omega) hq i hi
   obtain ⟨q',h1,h2⟩:=t6 c q hq hq1
   rw [hac] at h1
   exact absurd (sInj h1).symm h2
  have h3:=hM.td c (by omega) h2
  by_cases he:a'[c]?=a[c]?
  ·rw [he]; exact h3
  obtain ⟨r,r1,r2⟩:=t3 c (by omega) he
  have:=(hCs.col r c r2 (by omega) (by omega)).1
  simp only [Int.toNat_natCast] at this
  rw [h3] at this
  have:=sInj this
  omega
 | false=>
  obtain ⟨f1,f2,f3⟩:=o4 rfl
  have f4:=o3 rfl
  subst f1; subst f2
  simp only
  refine ⟨fun i=>D i∨mkd m' i,hCs,fun i hi=>?_,fun c hc hac i hi=>?_,fun c h1 h2=>hM.td c (by omega) h2⟩
  ·rcases hi with h | h
   ·obtain ⟨c,c1,c2⟩:=hM.dd i h
    exact ⟨c,c1,fun i' h'=>.inl (c2 i' h')⟩
   obtain ⟨c,c1,c2⟩:=f3 i h (hno i)
   exact ⟨c,c1,fun i' h'=>.inr (c2 i' h')⟩
  by_cases hck:c=k
  ·subst hck; exact .inr (f4 i hi)
  exact .inl (hM.dn c (by omega) hac i hi)
theorem round_0 {R C:Nat} {E:L2}:Mx R C E 0 (List.replicate C (-1)) (List.replicate R (-1)) [] (fun _=>False):=
 ⟨⟨by simp,by simp,fun i c h1 h2=>absurd (List.eq_of_mem_replicate (mem_get h1)) h2,fun i c h1 h2=>absurd (List.eq_of_mem_replicate (mem_get h1)) h2,fun i c h1 h2=>absurd (List.eq_of_mem_replicate (mem_get h1)) h2⟩,fun i h=>h.elim,fun c h=>by omega,fun c h1 h2=>by simp [h2]⟩
theorem fuel_big:∃ f,FUEL=f+100001:=⟨FUEL - 100001,by unfold FUEL; omega⟩
theorem rounds_ok {R C:Nat} {E:L2} (hE:KB R C E) (hR:R≤100000) (hC:C≤100000):
  Ret (loop (matching_matched_l1 (C:Int) (R:Int) E) (List.replicate C (-1),List.replicate R (-1),[],0)) (fun o=>∃ D,Fin R C E o.1 o.2.1 D):=by
 obtain ⟨f,hf⟩:=fuel_big
 refine ret_loop C (fun k (t:LI×LI×BL×Int)=>t.2.2.2=(k:Int)∧∃ D,Mx R C E k t.1 t.2.1 t.2.2.1 D) ⟨rfl,_,round_0⟩ ?_
 rintro k ⟨a,b,m,t⟩ hk ⟨e1,D,hM⟩
 simp only at e1 hM
 subst e1
 unfold matching_matched_l1
 simp only
 have hCs:=hM.cs
 by_cases hkn:k < C
 ·have hw:wa .i64 (k:Int) 1=((k+1:Nat):Int):=wa1 (by omega)
  rw [if_pos (by omega),bindS (mkL_nat false R (by omega)),ret_bind]
  refine ret_call (try_ok hE FUEL hCs (by simp) hkn (hM.td k (by omega) hkn) (.inl rfl) (by rw [count_none]; omega)) ?_
  intro o hO
  rw [ret_some,hw,vq_l]
  exact ⟨hkn,rfl,round_next hM hkn hO⟩
 rw [if_neg (by omega),ret_some,vq_r]
 have:k=C:=by omega
 subst this
 exact ⟨D,hCs,hM.dd,hM.dn⟩
end Km
/- What is reachable from the columns that are not matched: the least closed set. -/
namespace Km
open Pl Sx Go M Vc
def tr (l:BL) (i:Nat):Prop:=l[i]?=some true
structure Clo (E:L2) (a b:LI) (C:Nat) (X Y:Nat→Prop):Prop where
 s:∀ c,c < C→a[c]?=some (-1)→X c
 r:∀ c i,X c→inE E c i→Y i
 c:∀ (i c:Nat),Y i→b[i]?=some (c:Int)→X c
structure Rch (R C:Nat) (E:L2) (a b:LI) (rows cols:BL):Prop where
 rl:rows.length=R
 cl:cols.length=C
 clo:Clo E a b C (tr cols) (tr rows)
 lst:∀ X Y:Nat→Prop,Clo E a b C X Y→(∀ c,tr cols c→X c)∧∀ i,tr rows i→Y i
theorem tr_set {l:BL} {i k:Nat} (hi:i < l.length):tr (l.set i true) k↔k=i∨tr l k:=mkd_set hi
theorem tr_ext {l m:BL} (h:l.length=m.length) (he:∀ i,tr l i↔tr m i):l=m:=by
 apply List.ext_getElem?
 intro i
 by_cases hi:i < l.length
 ·have h1:=he i
  simp only [tr] at h1
  rw [gEq hi,gEq (by omega)] at h1 ⊢
  congr 1
  cases h2:l[i]<;>cases h3:m[i]<;>simp_all
 rw [List.getElem?_eq_none (by omega),List.getElem?_eq_none (by omega)]
theorem Rch.uniq {R C:Nat} {E:L2} {a b:LI} {r c r' c':BL} (h:Rch R C E a b r c) (h':Rch R C E a b r' c'):r=r'∧c=c':=by
 obtain ⟨h1,h2⟩:=h.lst _ _ h'.clo
 obtain ⟨h3,h4⟩:=h'.lst _ _ h.clo
 exact ⟨tr_ext (h.rl.trans h'.rl.symm) fun i=>⟨h2 i,h4 i⟩,tr_ext (h.cl.trans h'.cl.symm) fun i=>⟨h1 i,h3 i⟩⟩
structure Rw (R C:Nat) (E:L2) (a b:LI) (rows cols:BL) (todo:LI):Prop where
 rl:rows.length=R
 cl:cols.length=C
 td:∀ c,c∈todo→0≤c∧c < (C:Int)
 s:∀ c,c < C→a[c]?=some (-1)→tr cols c
 r:∀ c i,tr cols c→(c:Int)∉todo→inE E c i→tr rows i
 c:∀ (i c:Nat),tr rows i→b[i]?=some (c:Int)→tr cols c
 lst:∀ X Y:Nat→Prop,Clo E a b C X Y→(∀ c,tr cols c→X c)∧(∀ i,tr rows i→Y i)
 tc:∀ c:Nat,(c:Int)∈todo→tr cols c
 bd:todo.length+cols.count false≤C
theorem Rw.done {R C:Nat} {E:L2} {a b:LI} {rows cols:BL} (h:Rw R C E a b rows cols []):Rch R C E a b rows cols:=
 ⟨h.rl,h.cl,⟨h.s,fun c i h1 h2=>h.r c i h1 (by simp) h2,h.c⟩,h.lst⟩
structure Ri (R C:Nat) (E:L2) (a b:LI) (j:Nat) (p:LI) (rows cols:BL) (todo:LI) (B:Nat):Prop where
 rl:rows.length=R
 cl:cols.length=C
 td:∀ c,c∈todo→0≤c∧c < (C:Int)
 s:∀ c,c < C→a[c]?=some (-1)→tr cols c
 r:∀ c i,tr cols c→(c:Int)∉todo→c≠j→inE E c i→tr rows i
 rj:∀ i:Nat,(i:Int)∈p→tr rows i
 c:∀ (i c:Nat),tr rows i→b[i]?=some (c:Int)→tr cols c
 lst:∀ X Y:Nat→Prop,Clo E a b C X Y→(∀ c,tr cols c→X c)∧(∀ i,tr rows i→Y i)
 tc:∀ c:Nat,(c:Int)∈todo→tr cols c
 bd:todo.length+cols.count false≤B
 cj:tr cols j
theorem Ri.step {R C:Nat} {E:L2} {a b:LI} (hCs:Cs R C E a b (-1)) {j:Nat} {p:LI} {rows cols:BL} {todo:LI} {B:Nat} (h:Ri R C E a b j p rows cols todo B) {i:Nat} (hi:i < R) (hie:inE E j i) {c:Int} (hc:b[i]?=some c):
  (c= -1∨(∃ d:Nat,c=(d:Int)∧tr cols d)→Ri R C E a b j (p++[(i:Int)]) (rows.set i true) cols todo B)∧(∀ d:Nat,c=(d:Int)→d < C→cols[d]?=some false→∀ todo':LI,todo'.length=todo.length+1→(∀ x,x∈todo'↔x∈todo∨x=(d:Int))→Ri R C E a b j (p++[(i:Int)]) (rows.set i true) (cols.set d true) todo' B):=by
 have hrl:=h.rl
 have hcl:=h.cl
 have hR:∀ k,tr (rows.set i true) k↔k=i∨tr rows k:=fun k=>tr_set (by omega)
 constructor
 ·intro hcc
  refine ⟨by simp [hrl],hcl,h.td,h.s,fun c' i' h1 h2 h3 h4=>(hR i').2 (.inr (h.r c' i' h1 h2 h3 h4)),fun k hk=>(hR k).2 ?_,fun k c' h1 h2=>?_,fun X Y hXY=>?_,h.tc,h.bd,h.cj⟩
  ·rcases List.mem_append.1 hk with hk | hk
   ·exact .inr (h.rj k hk)
   simp at hk; exact .inl (by omega)
  ·rcases (hR k).1 h1 with rfl | h1
   ·rw [hc] at h2
    have:=sInj h2
    rcases hcc with h5 | ⟨d,h5,h6⟩
    ·omega
    have:d=c':=by omega
    subst this; exact h6
   exact h.c k c' h1 h2
  obtain ⟨l1,l2⟩:=h.lst X Y hXY
  refine ⟨l1,fun k hk=>?_⟩
  rcases (hR k).1 hk with rfl | hk
  ·exact hXY.r j k (l1 j h.cj) hie
  exact l2 k hk
 intro d hd hdC hdf todo' htl htm
 subst hd
 have hT:∀ k,tr (cols.set d true) k↔k=d∨tr cols k:=fun k=>tr_set (by omega)
 refine ⟨by simp [hrl],by simp [hcl],fun x hx=>?_,fun c' h1 h2=>(hT c').2 (.inr (h.s c' h1 h2)),fun c' i' h1 h2 h3 h4=>(hR i').2 (.inr ?_),fun k hk=>(hR k).2 ?_,fun k c' h1 h2=>(hT c').2 ?_,fun X Y hXY=>?_,fun c' hc'=>(hT c').2 ?_,?_,(hT j).2 (.inr h.cj)⟩
 ·rcases (htm x).1 hx with hx | rfl
  ·exact h.td x hx
  omega
 ·have h5:c'≠d:=by
   rintro rfl
   exact h2 ((htm _).2 (.inr rfl))
  rcases (hT c').1 h1 with h6 | h6
  ·exact absurd h6 h5
  exact h.r c' i' h6 (fun h7=>h2 ((htm _).2 (.inl h7))) h3 h4
 ·rcases List.mem_append.1 hk with hk | hk
  ·exact .inr (h.rj k hk)
  simp at hk; exact .inl (by omega)
 ·rcases (hR k).1 h1 with rfl | h1
  ·rw [hc] at h2
   have:=sInj h2
   exact .inl (by omega)
  exact .inr (h.c k c' h1 h2)
 ·obtain ⟨l1,l2⟩:=h.lst X Y hXY
  have hYi:=hXY.r j i (l1 j h.cj) hie
  refine ⟨fun k hk=>?_,fun k hk=>?_⟩
  ·rcases (hT k).1 hk with rfl | hk
   ·exact hXY.c i k hYi hc
   exact l1 k hk
  rcases (hR k).1 hk with rfl | hk
  ·exact hYi
  exact l2 k hk
 ·rcases (htm _).1 hc' with h5 | h5
  ·exact .inr (h.tc c' h5)
  exact .inl (by omega)
 have:=count_set hdf
 have:=h.bd
 omega
theorem reach_in {R C:Nat} {E:L2} {a b:LI} {mm:BL} (hCs:Cs R C E a b (-1)) (hE:KB R C E) (hC:C≤100000) {j:Nat} {l:LI} (hl:E[j]?=some l) {rows cols:BL} {todo:LI} {B:Nat} (hB:B≤1000000) (h:Ri R C E a b j [] rows cols todo B):
  Ret (loop (matching_Reachable_l24 l (E,a,b,mm)) (rows,cols,todo,0)) (fun o=>Ri R C E a b j l o.1 o.2.1 o.2.2 B):=by
 have hll:=hE.sz j l hl
 refine ret_loop l.length (fun k (t:BL×BL×LI×Int)=>t.2.2.2=(k:Int)∧Ri R C E a b j (l.take k) t.1 t.2.1 t.2.2.1 B) ⟨rfl,by simpa using h⟩ ?_
 rintro k ⟨r,c,q,t⟩ hk ⟨e1,hI⟩
 simp only at e1 hI
 subst e1
 unfold matching_Reachable_l24 matching_Reachable_j26
 simp only
 by_cases hkl:k < l.length
 ·have hw:wa .i64 (k:Int) 1=((k+1:Nat):Int):=wa1 (by omega)
  obtain ⟨i,hi⟩:∃ i:Nat,l[k]?=some (i:Int):=by
   have:=hE.rng j l hl _ (List.getElem_mem hkl)
   exact ⟨l[k].toNat,by rw [gEq hkl]; congr 1; omega⟩
  have hi0:getI l (k:Int)=some (i:Int):=hi
  have hiR:i < R:=by have:=hE.rng j l hl _ (mem_get hi); omega
  have hie:inE E j i:=⟨l,hl,mem_get hi⟩
  have hrl:=hI.rl
  have hcl:=hI.cl
  have hbl:=hCs.bl
  have hq:=hI.bd
  obtain ⟨d,hd⟩:∃ d,b[i]?=some d:=⟨b[i]'(by omega),by simp [hbl,hiR]⟩
  have hd0:getI b (i:Int)=some d:=hd
  obtain ⟨s1,s2⟩:=hI.step hCs hiR hie hd
  rw [← tks hi] at s1 s2
  rw [if_pos (by omega),bindS hi0,bindS (setI_lt (by omega)),bindS hd0,hw]
  by_cases hd1:d= -1
  ·rw [if_pos hd1,obs,if_neg (by simp),ret_some,vq_l]
   exact ⟨hkl,rfl,s1 (.inl hd1)⟩
  obtain ⟨d1,d2⟩:=hCs.cr i d hd hd1
  obtain ⟨d,rfl⟩:∃ d':Nat,d=(d':Int):=⟨d.toNat,by omega⟩
  rw [if_neg hd1]
  obtain ⟨z,hz⟩:∃ z,c[d]?=some z:=⟨c[d]'(by omega),by simp [show d < c.length by omega]⟩
  have hz0:getI c (d:Int)=some z:=hz
  rw [bindS hz0,obs]
  cases z with
  | true=>
   rw [if_neg (by simp),ret_some,vq_l]
   exact ⟨hkl,rfl,s1 (.inr ⟨d,rfl,hz⟩)⟩
  | false=>
   have hc0:=count_set hz
   rw [if_pos (by simp),bindS (setI_lt (by omega)),bindS (app_small (by simp; omega)),ret_some,vq_l]
   exact ⟨hkl,rfl,s2 d rfl (by omega) hz _ (by simp) (fun x=>by simp)⟩
 rw [if_neg (by omega),ret_some,vq_r]
 rw [take_all (by omega)] at hI
 exact hI
theorem Rw.enter {R C:Nat} {E:L2} {a b:LI} {rows cols:BL} {todo todo':LI} {j:Nat} (h:Rw R C E a b rows cols todo) (hj:(j:Int)∈todo) (hm:∀ x,x∈todo↔x∈todo'∨x=(j:Int)) (hl:todo'.length+1=todo.length):
  Ri R C E a b j [] rows cols todo' (C - 1):=by
 have:=h.bd
 refine ⟨h.rl,h.cl,fun c hc=>h.td c ((hm c).2 (.inl hc)),h.s,fun c i h1 h2 h3 h4=>h.r c i h1 (fun h5=>?_) h4,fun i hi=>by simp at hi,h.c,h.lst,fun c hc=>h.tc c ((hm _).2 (.inl hc)),by omega,h.tc j hj⟩
 rcases (hm _).1 h5 with h6 | h6
 ·exact h2 h6
 exact h3 (by omega)
theorem Ri.leave {R C:Nat} {E:L2} {a b:LI} {rows cols:BL} {todo:LI} {j:Nat} {l:LI} (hl:E[j]?=some l) {B:Nat} (hB:B+1≤C) (h:Ri R C E a b j l rows cols todo B):Rw R C E a b rows cols todo:=by
 have:=h.bd
 refine ⟨h.rl,h.cl,h.td,h.s,fun c i h1 h2 h4=>?_,h.c,h.lst,h.tc,by omega⟩
 by_cases hcj:c=j
 ·subst hcj
  obtain ⟨l',e1,e2⟩:=h4
  rw [hl] at e1
  cases e1
  exact h.rj i e2
 exact h.r c i h1 h2 hcj h4
theorem reach_out {R C:Nat} {E:L2} {a b:LI} {mm:BL} (hCs:Cs R C E a b (-1)) (hE:KB R C E) (hC:C≤100000) {rows cols:BL} {todo:LI} (h:Rw R C E a b rows cols todo):
  Ret (loop (matching_Reachable_l19 (E,a,b,mm)) (rows,cols,todo)) (fun o=>Rch R C E a b o.1 o.2):=by
 refine ret_loop C (fun k (t:BL×BL×LI)=>Rw R C E a b t.1 t.2.1 t.2.2∧t.2.2.length+t.2.1.count false+k≤C) ⟨h,by have:=h.bd; simpa using this⟩ ?_
 rintro k ⟨r,c,q⟩ hk ⟨hI,hb⟩
 simp only at hI hb
 unfold matching_Reachable_l19
 simp only
 cases q with
 | nil=>
  rw [if_neg (by simp),ret_some,vq_r]
  exact hI.done
 | cons x q=>
  have hx:=hI.td x (by simp)
  obtain ⟨j,rfl⟩:∃ j:Nat,x=(j:Int):=⟨x.toNat,by omega⟩
  have hbl:=hI.bd
  simp only [List.length_cons] at hb hbl
  obtain ⟨l,hl⟩:∃ l,E[j]?=some l:=⟨E[j]'(by rw [hE.len]; omega),by simp [hE.len,show j < C by omega]⟩
  have hl0:getI E (j:Int)=some l:=hl
  have hsl:sli ((j:Int)::q) 1 ((((j:Int)::q).length:Nat):Int)=some q:=by
   unfold sli subL
   rw [if_pos (by simp; omega)]
   simp
  have hg:getI ((j:Int)::q) 0=some (j:Int):=rfl
  rw [if_pos (by simp),bindS hg,bindS hsl,bindS hl0,ret_bind]
  have hE1:=hI.enter (todo':=q) (j:=j) (by simp) (fun x=>by simp [or_comm]) (by simp)
  have hE2:Ri R C E a b j [] r c q (C - 1 - k):=⟨hE1.rl,hE1.cl,hE1.td,hE1.s,hE1.r,hE1.rj,hE1.c,hE1.lst,hE1.tc,by omega,hE1.cj⟩
  refine ret_call (reach_in hCs hE hC hl (by omega) hE2) ?_
  rintro ⟨r2,c2,q2⟩ h2
  simp only at h2
  rw [ret_some,vq_l]
  have:=h2.bd
  exact ⟨by omega,h2.leave hl (by omega),by simp only; omega⟩
theorem reach_start {R C:Nat} {E:L2} {a b:LI} {mm:BL} (hCs:Cs R C E a b (-1)) (hC:C≤100000):
  Ret (loop (matching_Reachable_l4 (E,a,b,mm)) (List.replicate C false,[],0)) (fun o=>Rw R C E a b (List.replicate R false) o.1 o.2):=by
 have hal:=hCs.al
 have hno:∀ (n i:Nat),¬ tr (List.replicate n false) i:=by
  intro n i h
  have:=List.eq_of_mem_replicate (mem_get h)
  cases this
 refine ret_loop C (fun k (t:BL×LI×Int)=>t.2.2=(k:Int)∧t.1.length=C∧(∀ c,tr t.1 c↔c < k∧a[c]?=some (-1))∧(∀ x,x∈t.2.1↔∃ c:Nat,x=(c:Int)∧c < k∧a[c]?=some (-1))∧t.2.1.length+t.1.count false≤C)
  ⟨rfl,by simp,fun c=>⟨fun h=>absurd h (hno _ _),fun h=>by omega⟩,fun x=>⟨fun h=>by simp at h,fun ⟨c,_,h,_⟩=>by omega⟩,by simp⟩ ?_
 rintro k ⟨c,q,t⟩ hk ⟨e1,e2,e3,e4,e5⟩
 simp only at e1 e2 e3 e4 e5
 subst e1
 unfold matching_Reachable_l4 matching_Reachable_j27
 simp only
 by_cases hkn:k < C
 ·have hw:wa .i64 (k:Int) 1=((k+1:Nat):Int):=wa1 (by omega)
  obtain ⟨z,hz⟩:∃ z,a[k]?=some z:=⟨a[k]'(by omega),by simp [hal,hkn]⟩
  have hz0:getI a (k:Int)=some z:=hz
  rw [if_pos (by omega),bindS hz0,hw]
  by_cases hz1:z= -1
  ·subst hz1
   have hkf:c[k]?=some false:=by
    have h1:¬ tr c k:=fun h=>by have:=(e3 k).1 h; omega
    unfold tr at h1
    rw [gEq (by omega)] at h1 ⊢
    congr 1
    cases h2:c[k]<;>simp_all
   have hcs:=count_set hkf
   rw [if_pos rfl,bindS (setI_lt (by omega)),bindS (app_small (by simp; omega)),ret_some,vq_l]
   refine ⟨hkn,rfl,by simp [e2],fun c'=>?_,fun x=>?_,by simp; omega⟩
   ·rw [tr_set (by omega),e3]
    constructor
    ·rintro (rfl | h)
     ·exact ⟨by omega,hz⟩
     exact ⟨by omega,h.2⟩
    rintro ⟨h1,h2⟩
    by_cases h3:c'=k
    ·exact .inl h3
    exact .inr ⟨by omega,h2⟩
   rw [List.mem_append,e4,List.mem_singleton]
   constructor
   ·rintro (⟨c',h1,h2,h3⟩ | rfl)
    ·exact ⟨c',h1,by omega,h3⟩
    exact ⟨k,rfl,by omega,hz⟩
   rintro ⟨c',h1,h2,h3⟩
   by_cases h4:c'=k
   ·subst h4; exact .inr h1
   exact .inl ⟨c',h1,by omega,h3⟩
  rw [if_neg hz1,ret_some,vq_l]
  refine ⟨hkn,rfl,e2,fun c'=>?_,fun x=>?_,e5⟩
  ·simp only
   rw [e3]
   constructor
   ·rintro ⟨h1,h2⟩; exact ⟨by omega,h2⟩
   rintro ⟨h1,h2⟩
   refine ⟨?_,h2⟩
   by_cases h3:c'=k
   ·subst h3; rw [hz] at h2; exact absurd (sInj h2) hz1
   omega
  simp only
  rw [e4]
  constructor
  ·rintro ⟨c',h1,h2,h3⟩; exact ⟨c',h1,by omega,h3⟩
  rintro ⟨c',h1,h2,h3⟩
  refine ⟨c',h1,?_,h3⟩
  by_cases h4:c'=k
  ·subst h4; rw [hz] at h3; exact absurd (sInj h3) hz1
  omega
 rw [if_neg (by omega),ret_some,vq_r]
 have:k=C:=by omega
 subst this
 refine ⟨by simp,e2,fun x hx=>?_,fun c' h1 h2=>(e3 c').2 ⟨h1,h2⟩,fun c' i h1 h2 h3=>?_,fun i c' h1 h2=>absurd h1 (hno _ _),fun X Y hXY=>⟨fun c' h=>?_,fun i h=>absurd h (hno _ _)⟩,fun c' h=>?_,e5⟩
 ·obtain ⟨c',h1,h2,h3⟩:=(e4 x).1 hx
  omega
 ·exact absurd ((e4 _).2 ⟨c',rfl,(e3 c').1 h1⟩) h2
 ·exact hXY.s c' ((e3 c').1 h).1 ((e3 c').1 h).2
 obtain ⟨c'',h1,h2⟩:=(e4 _).1 h
 have:c''=c':=by omega
 subst this
 exact (e3 c'').2 h2
structure Mat (R C:Nat) (E:L2) (a b:LI) (rows cols:BL):Prop where
 fin:∃ D,Fin R C E a b D
 rch:Rch R C E a b rows cols
theorem reachable_of {x1 x2:Int} {x3 x5 x7:LI} {R C:Nat} {E:L2} (hE:KB R C E) (hR:R≤100000) (hC:C≤100000) (h1:x1=(R:Int)) (h2:x2=(C:Int)) (hEd:matching_Edges x1 x2 x3 x5 x7=some E):
  Ret (matching_Reachable x1 x2 x3 x5 x7) (fun o=>∃ a b mm,matching_matched x1 x2 x3 x5 x7=some (E,a,b,mm)∧Mat R C E a b o.1 o.2):=by
 subst h1; subst h2
 obtain ⟨⟨a,b,mm⟩,r1,D,r2⟩:=rounds_ok hE hR hC
 simp only at r2
 have hm:matching_matched (R:Int) (C:Int) x3 x5 x7=some (E,a,b,mm):=by
  unfold matching_matched
  rw [bindS hEd,bindS (full_ok hC _),bindS (full_ok hR _),bindS r1]
 obtain ⟨⟨c,q⟩,s1,s2⟩:=reach_start (mm:=mm) (E:=E) r2.1 hC
 obtain ⟨⟨r',c'⟩,t1,t2⟩:=reach_out (mm:=mm) r2.1 hE hC s2
 refine ⟨(r',c'),?_,a,b,mm,hm,⟨D,r2⟩,t2⟩
 unfold matching_Reachable
 rw [bindS hm,bindS (mkL_nat false R (by omega)),bindS (mkL_nat false C (by omega)),bindS s1]
 simp only at t1 ⊢
 rw [bindS t1]
theorem list_b {l:BL} {v:Bool} (hl:l.length≤100000):matching_List l v=some (coll (fun i=>l[i]?=some v) l.length):=by
 unfold matching_List
 have h1:loop (matching_List_l3 l v) ([],0)=some (coll (fun i=>l[i]?=some v) l.length):=by
  refine Ret.eq ?_
  refine ret_loop l.length (fun k (t:LI×Int)=>t=(coll (fun i=>l[i]?=some v) k,(k:Int))) rfl ?_
  rintro k _ hk rfl
  unfold matching_List_l3 matching_List_j4
  simp only
  by_cases hkn:k < l.length
  ·have hw:wa .i64 (k:Int) 1=((k+1:Nat):Int):=wa1 (by omega)
   have hcl:=coll_len (tm:=fun i=>l[i]?=some v) k
   rw [if_pos (by omega),bindS (getI_lt hkn),hw]
   by_cases hv:l[k]=v
   ·rw [if_pos (by simpa using hv),bindS (app_small (by simp; omega)),ret_some,vq_l]
    refine ⟨hkn,?_⟩
    rw [coll,if_pos (by rw [gEq hkn,hv])]
   rw [if_neg (by simpa using hv),ret_some,vq_l]
   refine ⟨hkn,?_⟩
   rw [coll,if_neg (by rw [gEq hkn]; simpa using hv),List.append_nil]
  rw [if_neg (by omega),ret_some,vq_r,show k=l.length by omega]
 rw [bindS h1]
end Km
/- Matrices as lists of the columns' rows: they are valid, and their edges are these lists. -/
namespace Km
open Pl Sx Go M Vc
def off (E:L2) (j:Nat):Nat:=(E.take j).flatten.length
structure Mv (R C:Nat) (E:L2) (st ix vl:LI):Prop where
 len:E.length=C
 asc:∀ l,l∈E→l.Pairwise (· < ·)
 rng:∀ l,l∈E→∀ i,i∈l→0≤i∧i < (R:Int)
 ixe:ix=E.flatten
 sl:st.length=C+1
 ste:∀ j,j≤C→st[j]?=some (off E j:Int)
 vle:vl.length=ix.length
 fin:∀ v,v∈vl→matrix_Check_1 v=some false
theorem off_succ {E:L2} {j:Nat} {l:LI} (h:E[j]?=some l):off E (j+1)=off E j+l.length:=by
 unfold off
 rw [tks h,List.flatten_append,List.length_append]
 simp
theorem off_le {E:L2} {i j:Nat} (h:i≤j):off E i≤off E j:=by
 unfold off
 have:E.take i <+: E.take j:=by
  rw [show i=min i j by omega,← List.take_take]
  exact List.take_prefix _ _
 obtain ⟨t,ht⟩:=this
 rw [← ht,List.flatten_append,List.length_append]
 omega
theorem off_top (E:L2) {j:Nat}:off E j≤E.flatten.length:=by
 have h:=off_le (E:=E) (i:=j) (j:=max j E.length) (by omega)
 unfold off at h ⊢
 rw [List.take_of_length_le (l:=E) (i:=max j E.length) (by omega)] at h
 exact h
theorem off_all (E:L2):off E E.length=E.flatten.length:=by
 unfold off; rw [List.take_length]
theorem slice_at:∀ {E:L2} {j:Nat} {l:LI},E[j]?=some l→(E.flatten.take (off E (j+1))).drop (off E j)=l
 | [],j,l,h=>by simp at h
 | x::E,0,l,h=>by
  have:x=l:=by simpa using h
  subst this
  simp [off]
 | x::E,j+1,l,h=>by
  have h1:=slice_at (E:=E) (j:=j) (l:=l) (by simpa using h)
  have e1:∀ j,off (x::E) (j+1)=x.length+off E j:=fun j=>by simp [off]
  rw [e1,e1,List.flatten_cons,List.take_length_add_append,List.drop_length_add_append]
  exact h1
theorem Mv.kb {R C:Nat} {E:L2} {st ix vl:LI} (h:Mv R C E st ix vl) (hR:R≤100000):KB R C E:=
 ⟨h.len,fun j l hl i hi=>h.rng l (mem_get hl) i hi,fun j l hl=>by
  have:=asc_len (h.asc l (mem_get hl)) (h.rng l (mem_get hl))
  omega⟩
theorem edges_ok {R C:Nat} {E:L2} {st ix vl:LI} (h:Mv R C E st ix vl) (hC:C≤100000) (hix:ix.length≤100000) (x1:Int):matching_Edges x1 (C:Int) st ix vl=some E:=by
 have hlen:=h.len
 have h1:loop (matching_Edges_l1 (List.replicate C []) st ix) (List.replicate C [],0)=some E:=by
  refine Ret.eq ?_
  refine ret_loop C (fun k (t:L2×Int)=>t=(E.take k++List.replicate (C - k) [],(k:Int))) (by simp) ?_
  rintro k _ hk rfl
  unfold matching_Edges_l1
  simp only
  by_cases hkn:k < C
  ·have hw:wa .i64 (k:Int) 1=((k+1:Nat):Int):=wa1 (by omega)
   have g1:getI st (k:Int)=some (off E k:Int):=h.ste k (by omega)
   have g2:getI st ((k+1:Nat):Int)=some (off E (k+1):Int):=h.ste (k+1) (by omega)
   have hl:E[k]?=some E[k]:=by simp [hlen,hkn]
   have o1:=off_le (E:=E) (i:=k) (j:=k+1) (by omega)
   have o2:=off_top E (j:=k+1)
   have hsl:sli ix (off E k:Int) (off E (k+1):Int)=some E[k]:=by
    unfold sli subL
    rw [if_pos (by rw [h.ixe]; omega),h.ixe]
    simp only [Int.toNat_natCast]
    rw [slice_at hl]
   rw [if_pos (by simp; omega),bindS g1,hw,bindS g2,bindS hsl,bindS (setI_lt (by simp; omega)),ret_some,vq_l]
   refine ⟨hkn,?_⟩
   congr 1
   have:(E.take k).length=k:=by simp; omega
   rw [List.set_append_right _ _ (by omega),this,Nat.sub_self,show C - k=(C - (k+1))+1 by omega,List.replicate_succ,List.set_cons_zero,tks hl,List.append_assoc]
   rfl
  rw [if_neg (by simp; omega),ret_some,vq_r,take_all (by omega),show C - k=0 by omega]
  simp
 unfold matching_Edges
 rw [bindS (mkL_nat ([]:LI) C (by omega)),bindS h1]
theorem sorted_ok {st:LI} (hl:st.length≤100000) (h:∀ k,∀ hk:k+1 < st.length,st[k]≤st[k+1]):slices_IsSorted_int st=some true:=by
 unfold slices_IsSorted_int
 cases st with
 | nil=>
  have h1:loop (slices_IsSorted_int_l1 []) (ws .i64 (([]:LI).length:Int) 1)=some (.inl ()):=by
   refine Ret.eq ?_
   refine ret_loop 0 (fun k (t:Int)=>t= -1) (by rw [ws_in (by constructor<;>simp)]; rfl) ?_
   rintro k _ hk rfl
   unfold slices_IsSorted_int_l1
   rw [if_neg (by omega),ret_some,vq_r]
  rw [bindS h1]
 | cons x r=>
  have e0:ws .i64 (((x::r).length:Nat):Int) 1=(r.length:Int):=by
   simp only [List.length_cons] at hl ⊢
   rw [ws_in (by constructor<;>omega)]
   omega
  have hrl:r.length≤100000:=by simp at hl; omega
  have h1:loop (slices_IsSorted_int_l1 (x::r)) (ws .i64 (((x::r).length:Nat):Int) 1)=some (.inl ()):=by
   refine Ret.eq ?_
   refine ret_loop r.length (fun k (t:Int)=>t=((r.length - k:Nat):Int)) (by rw [e0]; simp) ?_
   rintro k _ hk rfl
   unfold slices_IsSorted_int_l1
   simp only [List.length_cons] at hl
   by_cases hkn:k < r.length
   ·have e1:ws .i64 ((r.length - k:Nat):Int) 1=((r.length - (k+1):Nat):Int):=by
     rw [ws_in (by constructor<;>omega)]
     omega
    have i1:r.length - k < (x::r).length:=by simp; omega
    have i2:r.length - (k+1) < (x::r).length:=by simp; omega
    have h2:=h (r.length - (k+1)) (by simp; omega)
    have h3:¬ (x::r)[r.length - k] < (x::r)[r.length - (k+1)]:=by
     have:(x::r)[r.length - (k+1)+1]'(by simp; omega)=(x::r)[r.length - k]:=by congr 1; omega
     rw [this] at h2
     omega
    rw [if_pos (by omega),bindS (getI_lt i1),e1,bindS (getI_lt i2),bindS (less_ok _ _),if_neg (by simpa using h3),ret_some,vq_l]
    exact ⟨hkn,rfl⟩
   rw [if_neg (by omega),ret_some,vq_r]
  rw [bindS h1]
theorem col_ok {l:LI} {R:Nat} (h:l.Pairwise (· < ·)) (hr:∀ x,x∈l→0≤x∧x < (R:Int)) (hl:l.length≤100000):loop (matrix_columns_l27 l (R:Int)) (-1,0)=some (.inl ()):=by
 refine Ret.eq ?_
 refine ret_loop l.length (fun k (t:Int×Int)=>t.2=(k:Int)∧(t.1= -1∨(0 < k∧l[k - 1]?=some t.1))∧(k=0→t.1= -1)) ⟨rfl,.inl rfl,fun _=>rfl⟩ ?_
 rintro k ⟨a,b⟩ hk ⟨e1,e2,e3⟩
 simp only at e1 e2 e3
 subst e1
 unfold matrix_columns_l27
 simp only
 by_cases hkn:k < l.length
 ·have hw:wa .i64 (k:Int) 1=((k+1:Nat):Int):=wa1 (by omega)
  have hx:=hr _ (List.getElem_mem hkn)
  have hlt:a < l[k]:=by
   rcases e2 with h1 | ⟨h1,h2⟩
   ·omega
   rw [gEq (by omega)] at h2
   have:=asc_get h (i:=k - 1) (j:=k) hkn (by omega)
   have:=sInj h2
   omega
  have hc:¬ ((decide (l[k]≤a)) || (decide ((R:Int)≤l[k])))=true:=by
   simp only [Bool.or_eq_true,decide_eq_true_eq]
   omega
  rw [if_pos (by omega),bindS (getI_lt hkn),if_neg hc,hw,ret_some,vq_l]
  exact ⟨hkn,rfl,.inr ⟨by omega,by simp⟩,fun h=>by omega⟩
 rw [if_neg (by omega),ret_some,vq_r]
theorem nonan_ok {vl:LI} (h:∀ v,v∈vl→matrix_Check_1 v=some false) (hl:vl.length≤100000):slices_ContainsFunc_apiFloat vl=some false:=by
 have h1:loop (slices_IndexFunc_apiFloat_l1 vl) 0=some (.inl ()):=by
  refine Ret.eq ?_
  refine ret_loop vl.length (fun k (t:Int)=>t=(k:Int)) rfl ?_
  rintro k _ hk rfl
  unfold slices_IndexFunc_apiFloat_l1
  by_cases hkn:k < vl.length
  ·have hw:wa .i64 (k:Int) 1=((k+1:Nat):Int):=wa1 (by omega)
   rw [if_pos (by omega),bindS (getI_lt hkn),bindS (h _ (List.getElem_mem hkn)),if_neg (by simp),hw,ret_some,vq_l]
   exact ⟨hkn,rfl⟩
  rw [if_neg (by omega),ret_some,vq_r]
 unfold slices_ContainsFunc_apiFloat slices_IndexFunc_apiFloat
 rw [bindS h1]
 rfl
theorem matrixCheck_ok {R C:Nat} {E:L2} {st ix vl:LI} (h:Mv R C E st ix vl) (hR:R≤200) (hC:C≤200) (hix:ix.length≤10000):matrix_Check (R:Int) (C:Int) st ix vl=some 0:=by
 have hlen:=h.len
 have hsl:=h.sl
 have w1:matrix_within (R:Int) 0 200=some true:=by
  unfold matrix_within
  have a1:decide ((0:Int)≤(R:Int))=true:=by simp
  have a2:decide ((R:Int)≤200)=true:=by simp; omega
  rw [a1,a2]; rfl
 have w2:matrix_within (C:Int) 0 200=some true:=by
  unfold matrix_within
  have a1:decide ((0:Int)≤(C:Int))=true:=by simp
  have a2:decide ((C:Int)≤200)=true:=by simp; omega
  rw [a1,a2]; rfl
 have hcols:loop (matrix_columns_l24 (C:Int) st ix (R:Int)) 0=some (.inl ()):=by
  refine Ret.eq ?_
  refine ret_loop C (fun k (t:Int)=>t=(k:Int)) rfl ?_
  rintro k _ hk rfl
  unfold matrix_columns_l24
  by_cases hkn:k < C
  ·have hw:wa .i64 (k:Int) 1=((k+1:Nat):Int):=wa1 (by omega)
   have g1:getI st (k:Int)=some (off E k:Int):=h.ste k (by omega)
   have g2:getI st ((k+1:Nat):Int)=some (off E (k+1):Int):=h.ste (k+1) (by omega)
   have hl:E[k]?=some E[k]:=by simp [hlen,hkn]
   have o1:=off_le (E:=E) (i:=k) (j:=k+1) (by omega)
   have o2:=off_top E (j:=k+1)
   have hsl:sli ix (off E k:Int) (off E (k+1):Int)=some E[k]:=by
    unfold sli subL
    rw [if_pos (by rw [h.ixe]; omega),h.ixe]
    simp only [Int.toNat_natCast]
    rw [slice_at hl]
   have hm:=List.getElem_mem (l:=E) (n:=k) (by omega)
   have:=asc_len (h.asc _ hm) (h.rng _ hm)
   rw [if_pos (by omega),bindS g1,hw,bindS g2,bindS hsl,bindS (col_ok (h.asc _ hm) (h.rng _ hm) (by omega)),ret_some,vq_l]
   exact ⟨hkn,rfl⟩
  rw [if_neg (by omega),ret_some,vq_r]
 have g0:getI st 0=some 0:=by
  have:=h.ste 0 (by omega)
  exact this
 have gC:getI st (C:Int)=some (ix.length:Int):=by
  have:=h.ste C (by omega)
  rw [← hlen,off_all,← h.ixe] at this
  rw [← hlen]
  exact this
 have hsrt:slices_IsSorted_int st=some true:=by
  refine sorted_ok (by omega) fun k hk=>?_
  have a1:=h.ste k (by omega)
  have a2:=h.ste (k+1) (by omega)
  rw [gEq (by omega)] at a1 a2
  have:=sInj a1
  have:=sInj a2
  have:=off_le (E:=E) (i:=k) (j:=k+1) (by omega)
  omega
 have hmc:matrix_columns (R:Int) (C:Int) st ix vl=some true:=by
  unfold matrix_columns
  have hw:wa .i64 (C:Int) 1=((C+1:Nat):Int):=wa1 (by omega)
  rw [hw,if_pos (by omega),bindS g0,obs]
  simp only [decide_true,Bool.not_true]
  rw [if_neg (by simp),bindS hsrt,obs]
  simp only [Bool.not_true]
  rw [if_neg (by simp),bindS gC,obs]
  simp only [decide_true,Bool.not_true]
  rw [if_neg (by simp),obs,h.vle]
  simp only [decide_true,Bool.not_true]
  rw [if_neg (by simp),bindS hcols]
 unfold matrix_Check
 rw [bindS w1,if_pos rfl,bindS w2,obs]
 have hc:¬ ((!true) || (decide ((10000:Int) < (ix.length:Int))))=true:=by
  simp only [Bool.or_eq_true,decide_eq_true_eq,Bool.not_true]
  rintro (h | h)
  ·cases h
  omega
 rw [if_neg hc,bindS hmc,if_pos rfl,bindS (nonan_ok h.fin (by have:=h.vle; omega)),if_neg (by simp)]
theorem one_fin:matrix_Check_1 4607182418800017408=some false:=by kernel_rfl
end Km
/- The separator: the border, its matrix, the cover and the three lists. -/
namespace Km
open Pl Sx Go M Vc Pd
theorem other_ok {n:Nat} {side:LI} (hs:side.length=n) (s:Int) {l:LI} (hr:∀ x,x∈l→0≤x∧x < (n:Int)) (hl:l.length≤100000):∃ b,slices_ContainsFunc_int_v2 l side s=some b∧(b=true↔∃ x,x∈l∧sd side x.toNat≠s):=by
 have h1:Ret (loop (slices_IndexFunc_int_v2_l1 l side s) 0) (fun o=>match o with | .inl ()=>∀ x,x∈l→sd side x.toNat=s | .inr i=>0≤i∧∃ x,x∈l∧sd side x.toNat≠s):=by
  refine ret_loop l.length (fun k (t:Int)=>t=(k:Int)∧∀ x,x∈l.take k→sd side x.toNat=s) ⟨rfl,fun x hx=>by simp at hx⟩ ?_
  rintro k t hk ⟨rfl,hI⟩
  unfold slices_IndexFunc_int_v2_l1 dissect_border_1
  by_cases hkn:k < l.length
  ·have hw:wa .i64 (k:Int) 1=((k+1:Nat):Int):=wa1 (by omega)
   have hx:=hr _ (List.getElem_mem hkn)
   have hg:getI side l[k]=some (sd side l[k].toNat):=getI_of hx.1 (sd_at hs (by omega))
   rw [if_pos (by omega),bindS (getI_lt hkn),bindS hg,obs]
   by_cases he:sd side l[k].toNat=s
   ·rw [if_neg (by simp [he]),hw,ret_some,vq_l]
    refine ⟨hkn,rfl,fun x hx=>?_⟩
    rcases (mts (gEq hkn)).1 hx with h | rfl
    ·exact hI x h
    exact he
   rw [if_pos (by simp [he]),ret_some,vq_r]
   exact ⟨by omega,_,List.getElem_mem hkn,he⟩
  rw [if_neg (by omega),ret_some,vq_r]
  rw [take_all (by omega)] at hI
  exact hI
 obtain ⟨o,o1,o2⟩:=h1
 unfold slices_ContainsFunc_int_v2 slices_IndexFunc_int_v2
 rw [bindS o1]
 rcases o with ⟨⟩ | i
 ·simp only at o2
  refine ⟨_,rfl,?_⟩
  constructor
  ·intro h; simp at h
  rintro ⟨x,hx,h⟩; exact absurd (o2 x hx) h
 simp only at o2
 refine ⟨_,rfl,?_⟩
 constructor
 ·intro _; exact o2.2
 intro _; simpa using o2.1
def Bd (adj:L2) (side:LI) (s:Int) (v:Nat):Prop:=sd side v=s∧∃ u,nbp adj v u∧sd side u≠s
open Classical in
noncomputable def bor (adj:L2) (side:LI) (s:Int):LI:=coll (fun v=>Bd adj side s v) adj.length
open Classical in
theorem border_ok {adj:L2} (hG:Gr adj) (hn:adj.length≤1000) {side:LI} (hs:side.length=adj.length) (s:Int):dissect_border adj side s=some (bor adj side s):=by
 unfold dissect_border
 have h1:loop (dissect_border_l9 adj side s) ([],0)=some (bor adj side s):=by
  refine Ret.eq ?_
  refine ret_loop adj.length (fun k (t:LI×Int)=>t=(coll (fun v=>Bd adj side s v) k,(k:Int))) rfl ?_
  rintro k _ hk rfl
  unfold dissect_border_l9 dissect_border_j13
  simp only
  by_cases hkn:k < adj.length
  ·have hw:wa .i64 (k:Int) 1=((k+1:Nat):Int):=wa1 (by omega)
   have hl:adj[k]?=some adj[k]:=gEq hkn
   have hsd:getI side (k:Int)=some (sd side k):=sd_at hs hkn
   obtain ⟨b,b1,b2⟩:=other_ok hs s (l:=adj[k]) (fun x hx=>by have:=hG.rng k _ x hl hx; omega) (by have:=hG.len hl; omega)
   have hcl:=coll_len (tm:=fun v=>Bd adj side s v) k
   rw [if_pos (by omega),bindS (getI_lt hkn),bindS hsd,hw]
   have hb:∀ (c:Prop) [Decidable c],(c↔Bd adj side s k)→Ret (if c then (app (coll (fun v=>Bd adj side s v) k) [(k:Int)]).bind fun x70=>some (Sum.inl (x70,((k+1:Nat):Int))) else some (Sum.inl (coll (fun v=>Bd adj side s v) k,((k+1:Nat):Int)))) (VQ (fun t'=>k < adj.length∧t'=(coll (fun v=>Bd adj side s v) (k+1),((k+1:Nat):Int))) fun y=>y=bor adj side s):=by
    intro c _ hc
    by_cases h:c
    ·rw [if_pos h,bindS (app_small (by simp; omega)),ret_some,vq_l]
     refine ⟨hkn,?_⟩
     rw [coll,if_pos (hc.1 h)]
    rw [if_neg h,ret_some,vq_l]
    refine ⟨hkn,?_⟩
    rw [coll,if_neg (fun h'=>h (hc.2 h')),List.append_nil]
   by_cases hsk:sd side k=s
   ·rw [if_pos hsk,bindS b1,obs]
    refine hb (b=true) ?_
    rw [b2]
    constructor
    ·rintro ⟨x,hx,h⟩
     have:=hG.rng k _ x hl hx
     exact ⟨hsk,x.toNat,⟨_,hl,by rw [Int.toNat_of_nonneg this.1]; exact hx⟩,h⟩
    rintro ⟨_,u,⟨l,l1,l2⟩,h⟩
    rw [hl] at l1
    cases l1
    exact ⟨u,l2,by simpa using h⟩
   rw [if_neg hsk,obs]
   refine hb (false=true) ?_
   exact ⟨fun h=>(by cases h),fun h=>absurd h.1 hsk⟩
  rw [if_neg (by omega),ret_some,vq_r,show k=adj.length by omega]
  rfl
 rw [bindS h1]
theorem bor_mem {adj:L2} {side:LI} {s x:Int}:x∈bor adj side s↔0≤x∧x.toNat < adj.length∧Bd adj side s x.toNat:=by classical exact coll_mem _
theorem bor_len (adj:L2) (side:LI) (s:Int):(bor adj side s).length≤adj.length:=by classical exact coll_len _
def rowP (adj:L2) (rs:LI) (v:Int) (i:Nat):Prop:=∃ u:Nat,rs[i]?=some (u:Int)∧nbp adj v.toNat u
open Classical in
noncomputable def colE (adj:L2) (rs:LI) (v:Int):LI:=coll (fun i=>rowP adj rs v i) rs.length
noncomputable def tabE (adj:L2) (rs cs:LI):L2:=cs.map (colE adj rs)
def ONE:Int:=4607182418800017408
theorem colE_len (adj:L2) (rs:LI) (v:Int):(colE adj rs v).length≤rs.length:=by classical exact coll_len _
theorem colE_mem {adj:L2} {rs:LI} {v x:Int}:x∈colE adj rs v↔0≤x∧x.toNat < rs.length∧rowP adj rs v x.toNat:=by classical exact coll_mem _
theorem flat_cols (adj:L2) (rs:LI):∀ cs:LI,(tabE adj rs cs).flatten.length≤cs.length*rs.length
 | []=>by simp [tabE]
 | v::cs=>by
  have h1:=flat_cols adj rs cs
  have h2:=colE_len adj rs v
  simp only [tabE,List.map_cons,List.flatten_cons,List.length_append,List.length_cons] at h1 ⊢
  rw [Nat.succ_mul]
  omega
open Classical in
theorem column_ok {adj:L2} (hG:Gr adj) (hn:adj.length≤200) {rs:LI} (hrl:rs.length≤200) (hr:∀ x,x∈rs→0≤x∧x < (adj.length:Int)) {v:Int} (hv:0≤v∧v < (adj.length:Int)) {ix vl:LI} (h1:ix.length≤100000) (h2:vl.length≤100000):
  loop (dissect_cover_l30 rs adj v) (ix,vl,0)=some (ix++colE adj rs v,vl++List.replicate (colE adj rs v).length ONE):=by
 refine Ret.eq ?_
 refine ret_loop rs.length (fun k (t:LI×LI×Int)=>t=(ix++coll (fun i=>rowP adj rs v i) k,vl++List.replicate (coll (fun i=>rowP adj rs v i) k).length ONE,(k:Int))) (by simp [coll]) ?_
 rintro k _ hk rfl
 unfold dissect_cover_l30 dissect_cover_j32
 simp only
 by_cases hkn:k < rs.length
 ·have hw:wa .i64 (k:Int) 1=((k+1:Nat):Int):=wa1 (by omega)
  have hx:=hr _ (List.getElem_mem hkn)
  obtain ⟨l,hl⟩:∃ l,adj[v.toNat]?=some l:=⟨adj[v.toNat]'(by omega),by simp [show v.toNat < adj.length by omega]⟩
  have hl0:getI adj v=some l:=getI_of hv.1 hl
  have hll:=hG.len hl
  obtain ⟨i,hi⟩:=search_ok (hG.asc _ _ hl) (by omega) rs[k]
  have hcl:=coll_len (tm:=fun i=>rowP adj rs v i) k
  have hiff:rs[k]∈l↔rowP adj rs v k:=by
   constructor
   ·intro h
    exact ⟨rs[k].toNat,by rw [gEq hkn]; congr 1; omega,l,hl,by rw [Int.toNat_of_nonneg hx.1]; exact h⟩
   rintro ⟨u,u1,l',l1,l2⟩
   rw [gEq hkn] at u1
   rw [hl] at l1
   cases l1
   rw [sInj u1]
   exact l2
  rw [if_pos (by omega),bindS (getI_lt hkn),bindS hl0,bindS hi,hw]
  simp only
  by_cases hm:rs[k]∈l
  ·rw [decide_eq_true hm,if_pos rfl,bindS (app_small (by simp; omega)),bindS (app_small (by simp; omega)),ret_some,vq_l]
   refine ⟨hkn,?_⟩
   rw [coll,if_pos (hiff.1 hm)]
   simp [List.replicate_succ',List.append_assoc,ONE]
  rw [decide_eq_false hm,if_neg (by simp),ret_some,vq_l]
  refine ⟨hkn,?_⟩
  rw [coll,if_neg (fun h=>hm (hiff.2 h)),List.append_nil]
 rw [if_neg (by omega),ret_some,vq_r,show k=rs.length by omega]
 rfl
theorem matrix_made {adj:L2} (hG:Gr adj) (hn:adj.length≤200) {rs cs:LI} (hrl:rs.length≤200) (hcl:cs.length≤200) (hr:∀ x,x∈rs→0≤x∧x < (adj.length:Int)) (hc:∀ x,x∈cs→0≤x∧x < (adj.length:Int)):
  Ret (loop (dissect_cover_l21 cs rs adj) ([0],[],[],0)) (fun o=>Mv rs.length cs.length (tabE adj rs cs) o.1 o.2.1 o.2.2∧o.2.2=List.replicate o.2.1.length ONE):=by
 refine ret_loop cs.length (fun k (t:LI×LI×LI×Int)=>t.2.2.2=(k:Int)∧t.1.length=k+1∧(∀ j,j≤k→t.1[j]?=some (off (tabE adj rs cs) j:Int))∧t.2.1=((tabE adj rs cs).take k).flatten∧t.2.2.1=List.replicate t.2.1.length ONE)
  ⟨rfl,rfl,fun j hj=>(by have h:j=0:=(by omega); subst h; simp [off]),by simp,by simp⟩ ?_
 rintro k ⟨st,ix,vl,t⟩ hk ⟨e1,e2,e3,e4,e5⟩
 simp only at e1 e2 e3 e4 e5
 subst e1
 unfold dissect_cover_l21
 simp only
 have hfl:=flat_cols adj rs cs
 have hm:cs.length*rs.length≤200*200:=Nat.mul_le_mul hcl hrl
 have hot:=off_top (tabE adj rs cs) (j:=k)
 have hixl:ix.length=off (tabE adj rs cs) k:=by rw [e4]; rfl
 by_cases hkn:k < cs.length
 ·have hw:wa .i64 (k:Int) 1=((k+1:Nat):Int):=wa1 (by omega)
  have hx:=hc _ (List.getElem_mem hkn)
  have hE:(tabE adj rs cs)[k]?=some (colE adj rs cs[k]):=by simp [tabE,hkn]
  have hos:=off_succ hE
  have hcle:=colE_len adj rs cs[k]
  rw [if_pos (by omega),bindS (getI_lt hkn),bindS (column_ok hG hn hrl hr hx (by omega) (by rw [e5]; simp; omega))]
  simp only
  rw [bindS (app_small (by simp; omega)),hw,ret_some,vq_l]
  refine ⟨hkn,rfl,by simp [e2],fun j hj=>?_,?_,?_⟩
  ·simp only
   by_cases hjk:j≤k
   ·rw [List.getElem?_append_left (by omega)]; exact e3 j hjk
   have:j=k+1:=by omega
   subst this
   rw [List.getElem?_append_right (by omega),e2,Nat.sub_self]
   simp only [List.getElem?_cons_zero,List.length_append]
   congr 1
   omega
  ·simp only
   rw [tks hE,List.flatten_append,e4]
   simp
  simp only
  rw [List.length_append,e5,List.replicate_append_replicate]
 rw [if_neg (by omega),ret_some,vq_r]
 have:k=cs.length:=by omega
 subst this
 have hlen:(tabE adj rs cs).length=cs.length:=by simp [tabE]
 refine ⟨⟨hlen,fun l hl=>?_,fun l hl i hi=>?_,?_,e2,e3,by rw [e5]; simp,fun v hv=>?_⟩,e5⟩
 ·simp only [tabE,List.mem_map] at hl
  obtain ⟨v,_,rfl⟩:=hl
  classical exact coll_asc _
 ·simp only [tabE,List.mem_map] at hl
  obtain ⟨v,_,rfl⟩:=hl
  have:=colE_mem.1 hi
  omega
 ·simp only
  rw [e4,List.take_of_length_le (by omega)]
 rw [e5] at hv
 rw [List.eq_of_mem_replicate hv]
 exact one_fin
theorem mark_rows {r:LI×LI×Int} {rs:LI} {n:Nat} (hc:r.1.length≤100000) (h1:∀ x,x∈r.1→0≤x∧x < (rs.length:Int)) (h2:∀ x,x∈rs→0≤x∧x < (n:Int)) {ch:BL} (hl:ch.length=n):
  Ret (loop (dissect_cover_l22 r rs) (ch,0)) (fun o=>o.length=n∧∀ v:Nat,tr o v↔tr ch v∨∃ i,i∈r.1∧rs[i.toNat]?=some (v:Int)):=by
 refine ret_loop r.1.length (fun k (t:BL×Int)=>t.2=(k:Int)∧t.1.length=n∧∀ v:Nat,tr t.1 v↔tr ch v∨∃ i,i∈r.1.take k∧rs[i.toNat]?=some (v:Int)) ⟨rfl,hl,fun v=>by simp⟩ ?_
 rintro k ⟨c,t⟩ hk ⟨e1,e2,e3⟩
 simp only at e1 e2 e3
 subst e1
 unfold dissect_cover_l22
 simp only
 by_cases hkn:k < r.1.length
 ·have hw:wa .i64 (k:Int) 1=((k+1:Nat):Int):=wa1 (by omega)
  have hx:=h1 _ (List.getElem_mem hkn)
  have hi:r.1[k]?=some r.1[k]:=gEq hkn
  obtain ⟨u,hu⟩:∃ u:Nat,rs[r.1[k].toNat]?=some (u:Int):=by
   have h3:=h2 _ (List.getElem_mem (l:=rs) (n:=r.1[k].toNat) (by omega))
   exact ⟨rs[r.1[k].toNat].toNat,by rw [gEq (by omega)]; congr 1; omega⟩
  have hun:=h2 _ (mem_get hu)
  rw [if_pos (by omega),bindS (getI_lt hkn),bindS (getI_of hx.1 hu),bindS (setI_lt (by omega)),hw,ret_some,vq_l]
  refine ⟨hkn,rfl,by simp [e2],fun v=>?_⟩
  simp only
  rw [tr_set (by omega),e3]
  constructor
  ·rintro (rfl | h | ⟨i,i1,i2⟩)
   ·exact .inr ⟨_,(mts hi).2 (.inr rfl),hu⟩
   ·exact .inl h
   exact .inr ⟨i,(mts hi).2 (.inl i1),i2⟩
  rintro (h | ⟨i,i1,i2⟩)
  ·exact .inr (.inl h)
  rcases (mts hi).1 i1 with i1 | rfl
  ·exact .inr (.inr ⟨i,i1,i2⟩)
  rw [hu] at i2
  exact .inl (by have:=sInj i2; omega)
 rw [if_neg (by omega),ret_some,vq_r]
 rw [take_all (by omega)] at e3
 exact ⟨e2,e3⟩
theorem mark_cols {r:LI×LI×Int} {rs:LI} {n:Nat} (hc:r.2.1.length≤100000) (h1:∀ x,x∈r.2.1→0≤x∧x < (rs.length:Int)) (h2:∀ x,x∈rs→0≤x∧x < (n:Int)) {ch:BL} (hl:ch.length=n):
  Ret (loop (dissect_cover_l23 r rs) (ch,0)) (fun o=>o.length=n∧∀ v:Nat,tr o v↔tr ch v∨∃ i,i∈r.2.1∧rs[i.toNat]?=some (v:Int)):=
 mark_rows (r:=(r.2.1,[],0)) hc h1 h2 hl
structure Cov (adj:L2) (side:LI) (ch:BL):Prop where
 len:ch.length=adj.length
 mt:∃ a b rows cols mm,(∀ st ix vl,Mv (bor adj side 0).length (bor adj side 1).length (tabE adj (bor adj side 0) (bor adj side 1)) st ix vl→ix.length≤10000→matching_matched ((bor adj side 0).length:Int) ((bor adj side 1).length:Int) st ix vl=some (tabE adj (bor adj side 0) (bor adj side 1),a,b,mm))∧
  Mat (bor adj side 0).length (bor adj side 1).length (tabE adj (bor adj side 0) (bor adj side 1)) a b rows cols∧
  ∀ v:Nat,tr ch v↔(∃ i:Nat,tr rows i∧(bor adj side 0)[i]?=some (v:Int))∨∃ j:Nat,cols[j]?=some false∧(bor adj side 1)[j]?=some (v:Int)
theorem Cov.ex {adj:L2} {side:LI} {ch:BL} (h:Cov adj side ch):∃ a b rows cols,Mat (bor adj side 0).length (bor adj side 1).length (tabE adj (bor adj side 0) (bor adj side 1)) a b rows cols∧
  ∀ v:Nat,tr ch v↔(∃ i:Nat,tr rows i∧(bor adj side 0)[i]?=some (v:Int))∨∃ j:Nat,cols[j]?=some false∧(bor adj side 1)[j]?=some (v:Int):=by
 obtain ⟨a,b,rows,cols,_,_,h1,h2⟩:=h.mt
 exact ⟨a,b,rows,cols,h1,h2⟩
theorem matched_any {R C:Nat} {E:L2} {st ix vl st' ix' vl':LI} (h:Mv R C E st ix vl) (h':Mv R C E st' ix' vl') (hC:C≤100000) (hx:ix.length≤10000) (hx':ix'.length≤10000):matching_matched (R:Int) (C:Int) st ix vl=matching_matched (R:Int) (C:Int) st' ix' vl':=by
 unfold matching_matched
 rw [edges_ok h hC (by omega),edges_ok h' hC (by omega)]
theorem cover_ok {adj:L2} (hG:Gr adj) (hn:adj.length≤100) {side:LI} (hs:side.length=adj.length):Ret (dissect_cover adj side) (Cov adj side):=by
 unfold dissect_cover
 have l1:=bor_len adj side 0
 have l2:=bor_len adj side 1
 have r1:∀ s x,x∈bor adj side s→0≤x∧x < (adj.length:Int):=fun s x hx=>by have:=bor_mem.1 hx; omega
 obtain ⟨⟨st,ix,vl⟩,m1,m2,m3⟩:=matrix_made hG (by omega) (by omega) (by omega) (r1 0) (r1 1)
 simp only at m2 m3
 have hixl:ix.length≤10000:=by
  rw [m2.ixe]
  have h1:=flat_cols adj (bor adj side 0) (bor adj side 1)
  have h2:(bor adj side 1).length*(bor adj side 0).length≤100*100:=Nat.mul_le_mul (by omega) (by omega)
  omega
 have hE:=edges_ok m2 (by omega) (by omega) ((bor adj side 0).length:Int)
 have hck:=matrixCheck_ok m2 (by omega) (by omega) hixl
 obtain ⟨⟨rows,cols⟩,q1,a,b,mm,q2,q3⟩:=reachable_of (m2.kb (by omega)) (by omega) (by omega) rfl rfl hE
 simp only at q3
 have hrl:=q3.rch.rl
 have hcl:=q3.rch.cl
 have hcov:matching_Cover ((bor adj side 0).length:Int) ((bor adj side 1).length:Int) st ix vl=some (coll (fun i=>rows[i]?=some true) rows.length,coll (fun i=>cols[i]?=some false) cols.length,0):=by
  unfold matching_Cover
  rw [bindS hck,if_pos rfl,bindS q1]
  simp only
  rw [bindS (list_b (by omega)),bindS (list_b (by omega))]
 have k1:=coll_len (tm:=fun i=>rows[i]?=some true) rows.length
 have k2:=coll_len (tm:=fun i=>cols[i]?=some false) cols.length
 obtain ⟨c1,p1,p2,p3⟩:=mark_rows (r:=(coll (fun i=>rows[i]?=some true) rows.length,coll (fun i=>cols[i]?=some false) cols.length,0)) (rs:=bor adj side 0) (n:=adj.length) (by simp only; omega) (fun x hx=>by have:=(coll_mem _).1 hx; omega) (r1 0) (ch:=List.replicate adj.length false) (by simp)
 obtain ⟨c2,s1,s2,s3⟩:=mark_cols (r:=(coll (fun i=>rows[i]?=some true) rows.length,coll (fun i=>cols[i]?=some false) cols.length,0)) (rs:=bor adj side 1) (n:=adj.length) (by simp only; omega) (fun x hx=>by have:=(coll_mem _).1 hx; omega) (r1 1) (ch:=c1) p2
 rw [bindS (border_ok hG (by omega) hs 0),bindS (border_ok hG (by omega) hs 1),bindS m1]
 simp only
 rw [bindS (mkL_nat false adj.length (by omega)),bindS hcov]
 simp only [if_true]
 rw [bindS p1,bindS s1,ret_some]
 refine ⟨s2,a,b,rows,cols,mm,fun st' ix' vl' h h'=>by rw [← q2]; exact matched_any h m2 (by omega) h' hixl,q3,fun v=>?_⟩
 rw [s3,p3]
 constructor
 ·rintro ((h | ⟨i,i1,i2⟩) | ⟨j,j1,j2⟩)
  ·have:=List.eq_of_mem_replicate (mem_get h)
   cases this
  ·obtain ⟨h1,h2,h3⟩:=(coll_mem _).1 i1
   exact .inl ⟨i.toNat,h3,i2⟩
  obtain ⟨h1,h2,h3⟩:=(coll_mem _).1 j1
  exact .inr ⟨j.toNat,h3,j2⟩
 rintro (⟨i,i1,i2⟩ | ⟨j,j1,j2⟩)
 ·have:=(List.getElem?_eq_some_iff.1 i1).1
  exact .inl (.inr ⟨i,(coll_mem _).2 ⟨by omega,by simpa using this,i1⟩,by simpa using i2⟩)
 have:=(List.getElem?_eq_some_iff.1 j1).1
 exact .inr ⟨j,(coll_mem _).2 ⟨by omega,by simpa using this,j1⟩,by simpa using j2⟩
end Km
/- The three lists of a separator; the graph that a list induces. -/
namespace Km
open Pl Sx Go M Vc Pd
def isS (ch:BL) (v:Nat):Prop:=tr ch v
def isA (ch:BL) (side:LI) (v:Nat):Prop:=¬ tr ch v∧sd side v=0
def isB (ch:BL) (side:LI) (v:Nat):Prop:=¬ tr ch v∧sd side v≠0
open Classical in
noncomputable def lS (n:Nat) (ch:BL):LI:=coll (isS ch) n
open Classical in
noncomputable def lA (n:Nat) (ch:BL) (side:LI):LI:=coll (isA ch side) n
open Classical in
noncomputable def lB (n:Nat) (ch:BL) (side:LI):LI:=coll (isB ch side) n
open Classical in
theorem coll_t {p:Nat→Prop} [DecidablePred p] {k:Nat} (h:p k):coll p (k+1)=coll p k++[(k:Int)]:=by rw [coll,if_pos h]
open Classical in
theorem coll_f {p:Nat→Prop} [DecidablePred p] {k:Nat} (h:¬ p k):coll p (k+1)=coll p k:=by rw [coll,if_neg h,List.append_nil]
structure Sep (adj:L2) (side:LI) (ch:BL):Prop where
 sl:side.length=adj.length
 s01:S01 side
 bs:dissect_bisect FUEL adj (List.replicate adj.length 1) (onesE adj)=some (side,true)
 cv:Cov adj side ch
open Classical in
theorem separate_ok {adj:L2} (hG:Gr adj) (hn:adj.length≤30):∃ side ch,Sep adj side ch∧dissect_separate adj=some (lA adj.length ch side,lB adj.length ch side,lS adj.length ch):=by
 obtain ⟨side,s1,s2,s3⟩:=side_ok hG hn
 obtain ⟨ch,c1,c2⟩:=cover_ok hG (by omega) s2
 refine ⟨side,ch,⟨s2,s3,s1,c2⟩,?_⟩
 have hcl:=c2.len
 unfold dissect_separate
 have h1:loop (dissect_separate_l7 adj ch (side,true)) ([],[],[],0)=some (lA adj.length ch side,lB adj.length ch side,lS adj.length ch):=by
  refine Ret.eq ?_
  refine ret_loop adj.length (fun k (t:LI×LI×LI×Int)=>t=(coll (isA ch side) k,coll (isB ch side) k,coll (isS ch) k,(k:Int))) rfl ?_
  rintro k _ hk rfl
  unfold dissect_separate_l7 dissect_separate_j10 dissect_separate_j9
  simp only
  by_cases hkn:k < adj.length
  ·have hw:wa .i64 (k:Int) 1=((k+1:Nat):Int):=wa1 (by omega)
   have hsd:getI side (k:Int)=some (sd side k):=sd_at s2 hkn
   have ca:=coll_len (tm:=isA ch side) k
   have cb:=coll_len (tm:=isB ch side) k
   have cs:=coll_len (tm:=isS ch) k
   have ck:ch[k]?=some ch[k]:=gEq (by omega)
   rw [if_pos (by omega),bindS (getI_lt (by omega)),hw]
   by_cases hc:ch[k]=true
   ·have ht:tr ch k:=by unfold tr; rw [ck,hc]
    rw [if_pos hc,bindS (app_small (by simp; omega)),ret_some,vq_l]
    refine ⟨hkn,?_⟩
    rw [coll_t (p:=isS ch) ht,coll_f (p:=isA ch side) (fun h=>h.1 ht),coll_f (p:=isB ch side) (fun h=>h.1 ht)]
   have ht:¬ tr ch k:=by unfold tr; rw [ck]; intro h; exact hc (sInj h)
   rw [if_neg hc,bindS hsd]
   by_cases h0:sd side k=0
   ·rw [if_pos h0,bindS (app_small (by simp; omega)),ret_some,vq_l]
    refine ⟨hkn,?_⟩
    rw [coll_f (p:=isS ch) ht,coll_t (p:=isA ch side) ⟨ht,h0⟩,coll_f (p:=isB ch side) (fun h=>h.2 h0)]
   rw [if_neg h0,bindS (app_small (by simp; omega)),ret_some,vq_l]
   refine ⟨hkn,?_⟩
   rw [coll_f (p:=isS ch) ht,coll_f (p:=isA ch side) (fun h=>h0 h.2),coll_t (p:=isB ch side) ⟨ht,h0⟩]
  rw [if_neg (by omega),ret_some,vq_r,show k=adj.length by omega]
  rfl
 rw [bindS (units_ok hG (by omega)),bindS s1,bindS c1,bindS h1]
structure Vl (n:Nat) (l:LI):Prop where
 asc:l.Pairwise (· < ·)
 rng:∀ x,x∈l→0≤x∧x < (n:Int)
theorem Vl.len {n:Nat} {l:LI} (h:Vl n l):l.length≤n:=asc_len h.asc h.rng
open Classical in
theorem coll_vl (p:Nat→Prop) (n:Nat):Vl n (coll p n):=⟨coll_asc _,fun x hx=>by have:=(coll_mem _).1 hx; omega⟩
theorem lA_vl (n:Nat) (ch:BL) (side:LI):Vl n (lA n ch side):=coll_vl _ n
theorem lB_vl (n:Nat) (ch:BL) (side:LI):Vl n (lB n ch side):=coll_vl _ n
theorem lS_vl (n:Nat) (ch:BL):Vl n (lS n ch):=coll_vl _ n
theorem lA_mem {n:Nat} {ch:BL} {side:LI} {x:Int}:x∈lA n ch side↔0≤x∧x.toNat < n∧isA ch side x.toNat:=by classical exact coll_mem _
theorem lB_mem {n:Nat} {ch:BL} {side:LI} {x:Int}:x∈lB n ch side↔0≤x∧x.toNat < n∧isB ch side x.toNat:=by classical exact coll_mem _
theorem lS_mem {n:Nat} {ch:BL} {x:Int}:x∈lS n ch↔0≤x∧x.toNat < n∧isS ch x.toNat:=by classical exact coll_mem _
structure P3 (n:Nat) (A B S:LI):Prop where
 a:Vl n A
 b:Vl n B
 s:Vl n S
 nd:(A++B++S).Nodup
 all:∀ v:Nat,v < n→(v:Int)∈A++B++S
theorem sep_parts (n:Nat) (ch:BL) (side:LI):P3 n (lA n ch side) (lB n ch side) (lS n ch):=by
 refine ⟨lA_vl _ _ _,lB_vl _ _ _,lS_vl _ _,?_,fun v hv=>?_⟩
 ·rw [List.nodup_append,List.nodup_append]
  refine ⟨⟨asc_nodup (lA_vl _ _ _).asc,asc_nodup (lB_vl _ _ _).asc,?_⟩,asc_nodup (lS_vl _ _).asc,?_⟩
  ·rintro x hx y hy rfl
   exact (lB_mem.1 hy).2.2.2 (lA_mem.1 hx).2.2.2
  rintro x hx y hy rfl
  have hs:=(lS_mem.1 hy).2.2
  rcases List.mem_append.1 hx with h | h
  ·exact (lA_mem.1 h).2.2.1 hs
  exact (lB_mem.1 h).2.2.1 hs
 rw [List.mem_append,List.mem_append]
 by_cases ht:tr ch v
 ·exact .inr (lS_mem.2 ⟨by omega,by simpa using hv,by simpa [isS] using ht⟩)
 by_cases h0:sd side v=0
 ·exact .inl (.inl (lA_mem.2 ⟨by omega,by simpa using hv,by simpa [isA] using ⟨ht,h0⟩⟩))
 exact .inl (.inr (lB_mem.2 ⟨by omega,by simpa using hv,by simpa [isB] using ⟨ht,h0⟩⟩))
theorem nodup_sub:∀ {a b:LI},a.Nodup→(∀ x,x∈a→x∈b)→a.length≤b.length
 | [],b,_,_=>by simp
 | x::a,b,hd,hs=>by
  rw [List.nodup_cons] at hd
  have hx:=hs x (by simp)
  have:=nodup_sub (a:=a) (b:=b.erase x) hd.2 (fun y hy=>by
   have:y≠x:=by rintro rfl; exact hd.1 hy
   exact (List.mem_erase_of_ne this).2 (hs y (by simp [hy])))
  rw [List.length_erase_of_mem hx] at this
  have:=List.length_pos_of_mem hx
  simp
  omega
theorem nodup_full {n:Nat} {l:LI} (hd:l.Nodup) (hr:∀ x,x∈l→0≤x∧x < (n:Int)) (ha:∀ v:Nat,v < n→(v:Int)∈l):l.length=n:=by
 have h1:=nodup_len n l hd hr
 have h2:((List.range n).map Int.ofNat).length≤l.length:=by
  have hs:∀ x,x∈(List.range n).map Int.ofNat→x∈l:=by
   intro x hx
   obtain ⟨v,hv,rfl⟩:=List.mem_map.1 hx
   exact ha v (List.mem_range.1 hv)
  have hn2:((List.range n).map Int.ofNat).Nodup:=by
   rw [List.nodup_iff_pairwise_ne,List.pairwise_map]
   exact (List.nodup_iff_pairwise_ne.1 (List.nodup_range (n:=n))).imp fun h e=>h (Int.ofNat.inj e)
  exact nodup_sub hn2 hs
 simp at h2
 omega
theorem P3.len {n:Nat} {A B S:LI} (h:P3 n A B S):A.length+B.length+S.length=n:=by
 have:=nodup_full h.nd (fun x hx=>by
  rcases List.mem_append.1 hx with hx | hx
  ·rcases List.mem_append.1 hx with hx | hx
   ·exact h.a.rng x hx
   exact h.b.rng x hx
  exact h.s.rng x hx) h.all
 simpa [Nat.add_assoc] using this
open Classical in
noncomputable def ind (adj:L2) (l:LI):L2:=(List.range l.length).map fun i=>coll (fun j=>IJ adj l i j) l.length
theorem ind_len (adj:L2) (l:LI):(ind adj l).length=l.length:=by simp [ind]
theorem ind_gr {adj:L2} (hG:Gr adj) (l:LI):Gr (ind adj l):=by
 classical
 have hget:∀ (v:Nat) m,(ind adj l)[v]?=some m→v < l.length∧m=coll (fun j=>IJ adj l v j) l.length:=by
  intro v m hm
  have hv:=(List.getElem?_eq_some_iff.1 hm).1
  rw [ind_len] at hv
  refine ⟨hv,?_⟩
  simp only [ind,List.getElem?_map,List.getElem?_range hv,Option.map_some,Option.some.injEq] at hm
  rw [← hm]
 refine ⟨fun v m hm=>?_,fun v m x hm hx=>?_,fun v m x hm hx=>?_⟩
 ·rw [(hget v m hm).2]; exact coll_asc _
 ·obtain ⟨h1,h2⟩:=hget v m hm
  subst h2
  obtain ⟨x1,x2,x3⟩:=(coll_mem _).1 hx
  refine ⟨x1,by rw [ind_len]; omega,?_⟩
  rintro rfl
  rw [Int.toNat_natCast] at x3
  exact IJ.ne hG x3
 obtain ⟨h1,h2⟩:=hget v m hm
 subst h2
 obtain ⟨x1,x2,x3⟩:=(coll_mem _).1 hx
 refine ⟨coll (fun j=>IJ adj l x.toNat j) l.length,?_,?_⟩
 ·simp [ind,x2]
 exact (coll_mem _).2 ⟨by omega,by simpa using h1,by simpa using IJ.sym hG x3⟩
theorem vertices_ok {adj:L2} {l:LI} (hr:∀ x,x∈l→0≤x∧x < (adj.length:Int)) (hl:l.length≤100000):slices_ContainsFunc_int_v3 l adj=some false:=by
 have h1:loop (slices_IndexFunc_int_v3_l1 l adj) 0=some (.inl ()):=by
  refine Ret.eq ?_
  refine ret_loop l.length (fun k (t:Int)=>t=(k:Int)) rfl ?_
  rintro k _ hk rfl
  unfold slices_IndexFunc_int_v3_l1 graph_Induced_1 graph_vertex
  by_cases hkn:k < l.length
  ·have hw:wa .i64 (k:Int) 1=((k+1:Nat):Int):=wa1 (by omega)
   have hx:=hr _ (List.getElem_mem hkn)
   have e1:(decide ((0:Int)≤l[k]))=true:=decide_eq_true hx.1
   have e2:(decide (l[k] < (adj.length:Int)))=true:=decide_eq_true hx.2
   rw [if_pos (by omega),bindS (getI_lt hkn),e1,e2,obs,obs,if_neg (by simp),hw,ret_some,vq_l]
   exact ⟨hkn,rfl⟩
  rw [if_neg (by omega),ret_some,vq_r]
 unfold slices_ContainsFunc_int_v3 slices_IndexFunc_int_v3
 rw [bindS h1]
 rfl
theorem pInduced_ok {adj:L2} (hG:Gr adj) (hn:adj.length≤200) {l:LI} (h:Vl adj.length l):graph_Induced adj l=some (ind adj l,0):=by
 have hl:=h.len
 have ht:graph_twice l=some false:=by rw [twice_e (by omega),decide_eq_false (fun hh=>hh (asc_nodup h.asc))]
 unfold graph_Induced
 rw [bindS (graphCheck_ok hG hn),if_pos rfl,bindS (vertices_ok h.rng (by omega)),if_neg (by simp),bindS ht,if_neg (by simp),bindS (induced_ok hG hn (by omega) h.rng)]
 rfl
end Km
/- The minimum degree order. -/
namespace Km
open Pl Sx Go M Vc Pd
theorem gtable_ok {adj:L2} (hG:Gr adj) (hn:adj.length≤200):∃ T,graph_Table adj=some T∧Tr T adj.length (nbp adj):=by
 have h0:Ret (loop (graph_Table_l3 adj) (List.replicate adj.length (List.replicate adj.length false),0)) (fun T=>Tr T adj.length (nbp adj)):=by
  refine ret_loop adj.length (fun k (t:List BL×Int)=>t.2=(k:Int)∧Tr t.1 adj.length (fun a c=>nbp adj a c∧(a < k∨c < k))) ⟨rfl,Tr.congr (fun a c _ _=>by simp) (Tr.blank _)⟩ ?_
  rintro k ⟨T,t⟩ hk ⟨e1,hT⟩
  simp only at e1 hT
  subst e1
  unfold graph_Table_l3
  simp only
  by_cases hkn:k < adj.length
  ·have hw:wa .i64 (k:Int) 1=((k+1:Nat):Int):=wa1 (by omega)
   have hl:adj[k]?=some adj[k]:=gEq hkn
   have hll:=hG.len hl
   rw [if_pos (by omega),bindS (getI_lt hkn),ret_bind]
   refine ret_call (P:=fun T'=>Tr T' adj.length (fun a c=>nbp adj a c∧(a < k+1∨c < k+1))) ?_ (fun T' h=>?_)
   ·refine ret_loop adj[k].length (fun m (t:List BL×Int)=>t.2=(m:Int)∧Tr t.1 adj.length (fun a c=>(nbp adj a c∧(a < k∨c < k))∨(a=k∧(c:Int)∈adj[k].take m)∨(c=k∧(a:Int)∈adj[k].take m))) ⟨rfl,Tr.congr (fun a c _ _=>by simp) hT⟩ ?_
    rintro m ⟨U,t⟩ hm ⟨e1,hU⟩
    simp only at e1 hU
    subst e1
    unfold graph_Table_l4
    simp only
    by_cases hml:m < adj[k].length
    ·have hw2:wa .i64 (m:Int) 1=((m+1:Nat):Int):=wa1 (by omega)
     have hx:=hG.rng k _ _ hl (List.getElem_mem hml)
     obtain ⟨u,hu⟩:∃ u:Nat,adj[k][m]=(u:Int):=⟨adj[k][m].toNat,by omega⟩
     have hmu:adj[k][m]?=some (u:Int):=by rw [gEq hml,hu]
     obtain ⟨T',j1,j2⟩:=join_ok hU (v:=k) (w:=u) hkn (by omega)
     rw [if_pos (by omega),bindS (getI_lt hml),hu,bindS j1,hw2,ret_some,vq_l]
     refine ⟨hml,rfl,Tr.congr (fun a c _ _=>?_) j2⟩
     rw [mts hmu,mts hmu]
     constructor
     ·rintro (⟨_,⟨rfl,rfl⟩ | ⟨rfl,rfl⟩⟩ | h | ⟨h1,h2⟩ | ⟨h1,h2⟩)
      ·exact .inr (.inl ⟨rfl,.inr rfl⟩)
      ·exact .inr (.inr ⟨rfl,.inr rfl⟩)
      ·exact .inl h
      ·exact .inr (.inl ⟨h1,.inl h2⟩)
      exact .inr (.inr ⟨h1,.inl h2⟩)
     rintro (h | ⟨h1,h2 | h2⟩ | ⟨h1,h2 | h2⟩)
     ·exact .inr (.inl h)
     ·exact .inr (.inr (.inl ⟨h1,h2⟩))
     ·exact .inl ⟨by omega,.inl ⟨h1,by omega⟩⟩
     ·exact .inr (.inr (.inr ⟨h1,h2⟩))
     exact .inl ⟨by omega,.inr ⟨by omega,h1⟩⟩
    rw [if_neg (by omega),ret_some,vq_r]
    rw [take_all (by omega)] at hU
    refine Tr.congr (fun a c _ _=>?_) hU
    have hmem:∀ c:Nat,(c:Int)∈adj[k]↔nbp adj k c:=fun c=>⟨fun h=>⟨_,hl,h⟩,fun ⟨l,l1,l2⟩=>by rw [hl] at l1; cases l1; exact l2⟩
    rw [hmem,hmem]
    constructor
    ·rintro (⟨h1,h2⟩ | ⟨rfl,h⟩ | ⟨rfl,h⟩)
     ·exact ⟨h1,by omega⟩
     ·exact ⟨h,by omega⟩
     exact ⟨nbp_sym hG h,by omega⟩
    rintro ⟨h1,h2⟩
    by_cases h3:a < k∨c < k
    ·exact .inl ⟨h1,h3⟩
    by_cases h4:a=k
    ·subst h4; exact .inr (.inl ⟨rfl,h1⟩)
    have:c=k:=by omega
    subst this
    exact .inr (.inr ⟨rfl,nbp_sym hG h1⟩)
   rw [hw,ret_some,vq_l]
   exact ⟨hkn,rfl,h⟩
  rw [if_neg (by omega),ret_some,vq_r]
  exact Tr.congr (fun a c ha hc=>⟨fun h=>h.1,fun h=>⟨h,by omega⟩⟩) hT
 obtain ⟨T,t1,t2⟩:=h0
 refine ⟨T,?_,t2⟩
 unfold graph_Table
 rw [bindS (newSets_ok (by omega)),bindS t1]
def elim (R:Nat→Nat→Prop) (v:Nat) (i j:Nat):Prop:=i≠v∧j≠v∧(R i j∨(i≠j∧R v i∧R v j))
structure Sy (n:Nat) (R:Nat→Nat→Prop):Prop where
 sym:∀ i j,i < n→j < n→R i j→R j i
 irr:∀ i,i < n→¬ R i i
theorem Sy.elim {n:Nat} {R:Nat→Nat→Prop} (h:Sy n R) {v:Nat}:Sy n (elim R v):=by
 refine ⟨fun i j hi hj ⟨h1,h2,h3⟩=>⟨h2,h1,?_⟩,fun i hi ⟨_,_,h3⟩=>?_⟩
 ·rcases h3 with h3 | ⟨h3,h4,h5⟩
  ·exact .inl (h.sym i j hi hj h3)
  exact .inr ⟨fun e=>h3 e.symm,h5,h4⟩
 rcases h3 with h3 | ⟨h3,_⟩
 ·exact h.irr i hi h3
 exact h3 rfl
def elk (R:Nat→Nat→Prop) (v:Nat) (p:LI) (a c:Nat):Prop:=(a≠v∧c≠v∧(R a c∨(a≠c∧(a:Int)∈p∧(c:Int)∈p)))∨((a=v∨c=v)∧R a c∧(a:Int)∉p∧(c:Int)∉p)
theorem joins_ok {n:Nat} (hn:n≤200) {T:List BL} {R:Nat→Nat→Prop} (hT:Tr T n R) {i:Nat} (hi:i < n) {p:LI} (hp:p.length≤1000) (hr:∀ x,x∈p→0≤x∧x < (n:Int)) (hip:(i:Int)∉p):
  Ret (loop (mindeg_Elimination_Eliminate_l4 p (i:Int)) (T,0)) (fun T'=>Tr T' n (fun a c=>R a c∨(a=i∧(c:Int)∈p)∨(c=i∧(a:Int)∈p))):=by
 refine ret_loop p.length (fun m (t:List BL×Int)=>t.2=(m:Int)∧Tr t.1 n (fun a c=>R a c∨(a=i∧(c:Int)∈p.take m)∨(c=i∧(a:Int)∈p.take m))) ⟨rfl,Tr.congr (fun a c _ _=>by simp) hT⟩ ?_
 rintro m ⟨U,t⟩ hm ⟨e1,hU⟩
 simp only at e1 hU
 subst e1
 unfold mindeg_Elimination_Eliminate_l4
 simp only
 by_cases hml:m < p.length
 ·have hw2:wa .i64 (m:Int) 1=((m+1:Nat):Int):=wa1 (by omega)
  have hx:=hr _ (List.getElem_mem hml)
  obtain ⟨u,hu⟩:∃ u:Nat,p[m]=(u:Int):=⟨p[m].toNat,by omega⟩
  have hmu:p[m]?=some (u:Int):=by rw [gEq hml,hu]
  have hne:i≠u:=by
   rintro rfl
   exact hip (mem_get hmu)
  obtain ⟨T',j1,j2⟩:=join_ok hU (v:=i) (w:=u) hi (by omega)
  rw [if_pos (by omega),bindS (getI_lt hml),hu,bindS j1,hw2,ret_some,vq_l]
  refine ⟨hml,rfl,Tr.congr (fun a c _ _=>?_) j2⟩
  rw [mts hmu,mts hmu]
  constructor
  ·rintro (⟨_,⟨rfl,rfl⟩ | ⟨rfl,rfl⟩⟩ | h | ⟨h1,h2⟩ | ⟨h1,h2⟩)
   ·exact .inr (.inl ⟨rfl,.inr rfl⟩)
   ·exact .inr (.inr ⟨rfl,.inr rfl⟩)
   ·exact .inl h
   ·exact .inr (.inl ⟨h1,.inl h2⟩)
   exact .inr (.inr ⟨h1,.inl h2⟩)
  rintro (h | ⟨h1,h2 | h2⟩ | ⟨h1,h2 | h2⟩)
  ·exact .inr (.inl h)
  ·exact .inr (.inr (.inl ⟨h1,h2⟩))
  ·exact .inl ⟨hne,.inl ⟨h1,by omega⟩⟩
  ·exact .inr (.inr (.inr ⟨h1,h2⟩))
  exact .inl ⟨hne,.inr ⟨by omega,h1⟩⟩
 rw [if_neg (by omega),ret_some,vq_r]
 rw [take_all (by omega)] at hU
 exact hU
open Classical in
theorem eliminate_ok {n:Nat} (hn:n≤200) {T:List BL} {R:Nat→Nat→Prop} (hT:Tr T n R) (hS:Sy n R) {v:Nat} (hv:v < n) {g:BL} (hg:g.length=n):
  ∃ T' l,mindeg_Elimination_Eliminate T g (v:Int)=some (T',g.set v true,l)∧Tr T' n (elim R v):=by
 unfold mindeg_Elimination_Eliminate
 have hl:=list_ok hT (by omega) hv
 have hm:∀ u:Nat,(u:Int)∈coll (fun w=>R v w) n↔u < n∧R v u:=fun u=>by rw [coll_mem]; simp
 have hlr:∀ x,x∈coll (fun w=>R v w) n→0≤x∧x < (n:Int):=fun x hx=>by have:=(coll_mem _).1 hx; omega
 have hln:=coll_len (tm:=fun w=>R v w) n
 have hnd:(coll (fun w=>R v w) n).Nodup:=asc_nodup (coll_asc _)
 have hvl:(v:Int)∉coll (fun w=>R v w) n:=fun h=>hS.irr v hv ((hm v).1 h).2
 generalize coll (fun w=>R v w) n=l at hl hm hlr hln hnd hvl
 have h1:Ret (loop (mindeg_Elimination_Eliminate_l3 l (v:Int)) (T,0)) (fun T'=>Tr T' n (elim R v)):=by
  refine ret_loop l.length (fun k (t:List BL×Int)=>t.2=(k:Int)∧Tr t.1 n (elk R v (l.take k))) ⟨rfl,Tr.congr (fun a c _ _=>?_) hT⟩ ?_
  ·unfold elk
   simp only [List.take_zero,List.not_mem_nil,not_false_eq_true,and_true,and_false,or_false]
   constructor
   ·intro h
    by_cases h1:a=v∨c=v
    ·exact .inr ⟨h1,h⟩
    exact .inl ⟨fun e=>h1 (.inl e),fun e=>h1 (.inr e),h⟩
   rintro (⟨_,_,h⟩ | ⟨_,h⟩)<;>exact h
  rintro k ⟨U,t⟩ hk ⟨e1,hU⟩
  simp only at e1 hU
  subst e1
  unfold mindeg_Elimination_Eliminate_l3
  simp only
  by_cases hkl:k < l.length
  ·have hw:wa .i64 (k:Int) 1=((k+1:Nat):Int):=wa1 (by omega)
   have hx:=hlr _ (List.getElem_mem hkl)
   obtain ⟨i,hi⟩:∃ i:Nat,l[k]=(i:Int):=⟨l[k].toNat,by omega⟩
   have hki:l[k]?=some (i:Int):=by rw [gEq hkl,hi]
   have hin:i < n:=by omega
   have hiv:i≠v:=by
    rintro rfl
    exact hvl (mem_get hki)
   have hip:(i:Int)∉l.take k:=by
    have:=nodup_take hnd hkl
    rwa [hi] at this
   have hvp:(v:Int)∉l.take k:=fun h=>hvl (List.mem_of_mem_take h)
   have hsl:sli l 0 (k:Int)=some (l.take k):=by
    unfold sli subL
    rw [if_pos (by omega)]
    simp
   have hRvi:R v i:=((hm i).1 (mem_get hki)).2
   rw [if_pos (by omega),bindS (getI_lt hkl),hi,bindS hsl,ret_bind]
   refine ret_call (joins_ok hn hU hin (by simp; omega) (fun x hx=>hlr x (List.mem_of_mem_take hx)) hip) ?_
   intro V hV
   obtain ⟨r1,a1,a2,a3,_⟩:=hV.row hin
   obtain ⟨r2,b1,b2,b3,_⟩:=hV.row hv
   have hV2:=hV.put (j:=v) hin a2 (z:=false) (p:=False) (by simp)
   obtain ⟨r3,c1,c2,c3,_⟩:=hV2.row hv
   have hV3:=hV2.put (j:=i) hv c2 (z:=false) (p:=False) (by simp)
   have hVl:=hV.1
   rw [bindS a1,bindS b1,bindS (setI_lt (by omega)),bindS (setI_lt (by omega)),bindS c1,bindS (setI_lt (by omega)),bindS (setI_lt (by simp; omega)),hw,ret_some,vq_l]
   refine ⟨hkl,rfl,Tr.congr (fun a c ha hc=>?_) hV3⟩
   unfold elk
   rw [mts hki,mts hki]
   have q1:(a:Int)=(i:Int)↔a=i:=by omega
   have q2:(c:Int)=(i:Int)↔c=i:=by omega
   rw [q1,q2]
   have hs1:=hS.sym
   by_cases ha1:a=v
   ·subst ha1
    by_cases hc1:c=a
    ·subst hc1
     have:=hS.irr c hv
     simp [hvp,this,hiv,Ne.symm hiv]
    by_cases hc2:c=i
    ·subst hc2; simp [hiv,Ne.symm hiv]
    simp [hc1,hc2,hvp,hiv,Ne.symm hiv]
   by_cases hc1:c=v
   ·subst hc1
    by_cases ha2:a=i
    ·subst ha2; simp [hiv,Ne.symm hiv]
    simp [ha1,ha2,hvp,hiv,Ne.symm hiv]
   by_cases ha2:a=i
   ·subst ha2
    by_cases hc2:c=a
    ·subst hc2; simp [ha1,hip]
    simp [ha1,hc1,hc2,Ne.symm hc2,hip]
   by_cases hc2:c=i
   ·subst hc2
    simp [ha1,hc1,ha2,hip]
   simp [ha1,hc1,ha2,hc2]
  rw [if_neg (by omega),ret_some,vq_r]
  rw [take_all (by omega)] at hU
  refine Tr.congr (fun a c ha hc=>?_) hU
  unfold elk elim
  rw [hm,hm]
  constructor
  ·rintro (⟨h1,h2,h3⟩ | ⟨h1,h2,h3,h4⟩)
   ·refine ⟨h1,h2,?_⟩
    rcases h3 with h3 | ⟨h3,h4,h5⟩
    ·exact .inl h3
    exact .inr ⟨h3,h4.2,h5.2⟩
   exfalso
   rcases h1 with rfl | rfl
   ·exact h4 ⟨hc,h2⟩
   exact h3 ⟨ha,hS.sym a c ha hc h2⟩
  rintro ⟨h1,h2,h3⟩
  refine .inl ⟨h1,h2,?_⟩
  rcases h3 with h3 | ⟨h3,h4,h5⟩
  ·exact .inl h3
  exact .inr ⟨h3,⟨ha,h4⟩,hc,h5⟩
 obtain ⟨T',t1,t2⟩:=h1
 refine ⟨T',l,?_,t2⟩
 rw [bindS hl,bindS t1,bindS (setI_lt (by omega))]
open Classical in
noncomputable def deg (n:Nat) (R:Nat→Nat→Prop) (v:Nat):Nat:=(coll (fun w=>R v w) n).length
noncomputable def pick (n:Nat) (R:Nat→Nat→Prop) (gone:Nat→Bool):Nat→Int×Int
 | 0=>(-1,0)
 | k+1=>if gone k=false∧((pick n R gone k).1 < 0∨(deg n R k:Int) < (pick n R gone k).2) then ((k:Int),(deg n R k:Int)) else pick n R gone k
theorem pick_rng {n:Nat} {R:Nat→Nat→Prop} {gone:Nat→Bool}:∀ k,(pick n R gone k).1= -1∨(∃ v:Nat,(pick n R gone k).1=(v:Int)∧v < k∧gone v=false)
 | 0=>.inl rfl
 | k+1=>by
  rw [pick]
  split
  ·rename_i h; exact .inr ⟨k,rfl,by omega,h.1⟩
  rcases pick_rng k with h | ⟨v,h1,h2,h3⟩
  ·exact .inl h
  exact .inr ⟨v,h1,by omega,h3⟩
theorem pick_some {n:Nat} {R:Nat→Nat→Prop} {gone:Nat→Bool}:∀ k v,v < k→gone v=false→0≤(pick n R gone k).1
 | 0,v,h,_=>by omega
 | k+1,v,h,hg=>by
  rw [pick]
  split
  ·simp
  rename_i h2
  by_cases hv:v=k
  ·subst hv
   have:¬ (pick n R gone v).1 < 0:=fun h3=>h2 ⟨hg,.inl h3⟩
   omega
  exact pick_some k v (by omega) hg
def gn_ (g:BL) (v:Nat):Bool:=g[v]?.getD true
open Classical in
theorem best_ok {adj:L2} {n:Nat} (hl:adj.length=n) (hn:n≤200) {T:List BL} {R:Nat→Nat→Prop} (hT:Tr T n R) {g:BL} (hg:g.length=n):
  loop (mindeg_Exact_l36 adj T g) (-1,0,0)=some (pick n R (gn_ g) n).1:=by
 refine Ret.eq ?_
 refine ret_loop n (fun k (t:Int×Int×Int)=>t=((pick n R (gn_ g) k).1,(pick n R (gn_ g) k).2,(k:Int))) rfl ?_
 rintro k _ hk rfl
 unfold mindeg_Exact_l36 mindeg_Exact_j40
 simp only
 by_cases hkn:k < n
 ·have hw:wa .i64 (k:Int) 1=((k+1:Nat):Int):=wa1 (by omega)
  have hgk:g[k]?=some g[k]:=gEq (by omega)
  have hgn:gn_ g k=g[k]:=by unfold gn_; rw [hgk]; rfl
  rw [if_pos (by omega),bindS (list_ok hT (by omega) hkn),bindS (getI_lt (by omega)),hw]
  have hd:((coll (fun w=>R k w) n).length:Int)=(deg n R k:Int):=rfl
  rw [hd]
  by_cases hc:gn_ g k=false∧((pick n R (gn_ g) k).1 < 0∨(deg n R k:Int) < (pick n R (gn_ g) k).2)
  ·rw [if_pos (by rw [hgn] at hc; simpa using hc),ret_some,vq_l]
   refine ⟨hkn,?_⟩
   rw [pick,if_pos hc]
  rw [if_neg (by rw [hgn] at hc; simpa using hc),ret_some,vq_l]
  refine ⟨hkn,?_⟩
  rw [pick,if_neg hc]
 rw [if_neg (by omega),ret_some,vq_r,show k=n by omega]
structure Exo (n k:Nat) (T:List BL) (g:BL) (out:LI) (R:Nat→Nat→Prop):Prop where
 t:Tr T n R
 s:Sy n R
 gl:g.length=n
 ol:out.length=k
 nd:out.Nodup
 rg:∀ x,x∈out→0≤x∧x < (n:Int)
 go:∀ v,v < n→(gn_ g v=true↔(v:Int)∈out)
noncomputable def mdg (n:Nat):Nat→(Nat→Nat→Prop)×(Nat→Bool)→LI
 | 0,_=>[]
 | k+1,(R,g)=>(pick n R g n).1::mdg n k (elim R (pick n R g n).1.toNat,fun v=>v == (pick n R g n).1.toNat || g v)
noncomputable def mdo (adj:L2):LI:=mdg adj.length adj.length (nbp adj,gn_ (List.replicate adj.length false))
theorem gn_set {g:BL} {v:Nat} (hv:v < g.length):gn_ (g.set v true)=fun w=>w == v || gn_ g w:=by
 funext w
 unfold gn_
 rw [List.getElem?_set]
 by_cases h:v=w
 ·subst h; simp [hv]
 rw [if_neg h]
 have:(w == v)=false:=by simp; omega
 rw [this,Bool.false_or]
theorem exact2_ok {adj:L2} (hG:Gr adj) (hn:adj.length≤200):∃ o,mindeg_Exact adj=some (o,0)∧Pm o adj.length∧o=mdo adj:=by
 obtain ⟨T,t1,t2⟩:=gtable_ok hG hn
 have hS:Sy adj.length (nbp adj):=⟨fun i j _ _ h=>nbp_sym hG h,fun i hi ⟨l,l1,l2⟩=>(hG.rng i l i l1 l2).2.2 rfl⟩
 have h1:Ret (loop (mindeg_Exact_l27 adj) (T,List.replicate adj.length false,[],0)) (fun o=>Pm o adj.length∧o=mdo adj):=by
  refine ret_loop adj.length (fun k (t:List BL×BL×LI×Int)=>t.2.2.2=(k:Int)∧∃ R,Exo adj.length k t.1 t.2.1 t.2.2.1 R∧mdo adj=t.2.2.1++mdg adj.length (adj.length - k) (R,gn_ t.2.1)) ⟨rfl,_,⟨t2,hS,by simp,rfl,by simp,fun x hx=>by simp at hx,fun v hv=>by simp [gn_,hv]⟩,rfl⟩ ?_
  rintro k ⟨U,g,out,t⟩ hk ⟨e1,R,hX,hmd⟩
  simp only at e1 hX hmd
  subst e1
  unfold mindeg_Exact_l27
  simp only
  have hgl:=hX.gl
  have hol:=hX.ol
  by_cases hkn:k < adj.length
  ·have hw:wa .i64 (k:Int) 1=((k+1:Nat):Int):=wa1 (by omega)
   obtain ⟨u,hu1,hu2⟩:∃ u,u < adj.length∧(u:Int)∉out:=by
    refine Classical.byContradiction fun hno=>?_
    have:=nodup_full hX.nd hX.rg (fun v hv=>Classical.byContradiction fun h=>hno ⟨v,hv,h⟩)
    omega
   have hgu:gn_ g u=false:=by
    cases h:gn_ g u with
    | false=>rfl
    | true=>exact absurd ((hX.go u hu1).1 h) hu2
   have hp:=pick_some (n:=adj.length) (R:=R) (gone:=gn_ g) adj.length u hu1 hgu
   rcases pick_rng (n:=adj.length) (R:=R) (gone:=gn_ g) adj.length with h | ⟨v,p1,p2,p3⟩
   ·omega
   have hvo:(v:Int)∉out:=fun h=>by have:=(hX.go v p2).2 h; rw [p3] at this; cases this
   obtain ⟨T',l,q1,q2⟩:=eliminate_ok hn hX.t hX.s p2 hgl
   rw [if_pos (by omega),bindS (best_ok rfl hn hX.t hgl),p1,bindS q1,bindS (app_small (by simp; omega)),hw,ret_some,vq_l]
   refine ⟨hkn,rfl,_,⟨q2,hX.s.elim,by simp [hgl],by simp [hol],?_,fun x hx=>?_,fun w hw=>?_⟩,?_⟩
   ·rw [List.nodup_append]
    exact ⟨hX.nd,by simp,fun x hx y hy e=>by simp at hy; subst hy; subst e; exact hvo hx⟩
   ·rcases List.mem_append.1 hx with hx | hx
    ·exact hX.rg x hx
    simp at hx; omega
   ·have:=hX.go w hw
    simp only
    rw [List.mem_append,← this,List.mem_singleton]
    unfold gn_
    rw [List.getElem?_set]
    by_cases hvw:v=w
    ·subst hvw; simp [hgl,p2]
    rw [if_neg hvw]
    constructor
    ·exact .inl
    rintro (h | h)
    ·exact h
    omega
   simp only
   rw [hmd,show adj.length - k=(adj.length - (k+1))+1 by omega,mdg,p1,gn_set (by omega),List.append_assoc]
   rfl
  rw [if_neg (by omega),ret_some,vq_r]
  refine ⟨⟨by omega,hX.nd,hX.rg⟩,?_⟩
  rw [hmd,show adj.length - k=0 by omega,mdg,List.append_nil]
 obtain ⟨o,o1,o2,o3⟩:=h1
 refine ⟨o,?_,o2,o3⟩
 unfold mindeg_Exact mindeg_Start
 rw [bindS (graphCheck_ok hG hn),if_pos rfl,bindS t1,bindS (mkL_nat false adj.length (by omega)),obs]
 simp only
 rw [bindS o1]
theorem exact_ok {adj:L2} (hG:Gr adj) (hn:adj.length≤200):∃ o,mindeg_Exact adj=some (o,0)∧Pm o adj.length:=by
 obtain ⟨o,h1,h2,_⟩:=exact2_ok hG hn
 exact ⟨o,h1,h2⟩
end Km
/- The nested dissection order. -/
namespace Km
open Pl Sx Go M Vc Pd
def atL (l:LI) (x:Int):Int:=l[x.toNat]?.getD 0
theorem dis_succ (k:Nat):dissect_dissected (k+1)=dissect_dissected_body (dissect_dissected k):=by simp only [dissect_dissected]
theorem copy_ok {o l x:LI} (ho:∀ y,y∈o→0≤y∧y < (l.length:Int)) (h1:o.length≤1000) (h2:x.length≤1000):loop (dissect_dissected_l6 o l) (x,0)=some (x++o.map (atL l)):=by
 refine Ret.eq ?_
 refine ret_loop o.length (fun k (t:LI×Int)=>t=(x++(o.take k).map (atL l),(k:Int))) (by simp) ?_
 rintro k _ hk rfl
 unfold dissect_dissected_l6
 simp only
 by_cases hkn:k < o.length
 ·have hw:wa .i64 (k:Int) 1=((k+1:Nat):Int):=wa1 (by omega)
  have hy:=ho _ (List.getElem_mem hkn)
  have hg:getI l o[k]=some (atL l o[k]):=by
   refine getI_of hy.1 ?_
   unfold atL
   rw [gEq (by omega)]
   rfl
  rw [if_pos (by omega),bindS (getI_lt hkn),bindS hg,bindS (app_small (by simp; omega)),hw,ret_some,vq_l]
  refine ⟨hkn,?_⟩
  rw [take_succ' hkn,List.map_append,← List.append_assoc]
  rfl
 rw [if_neg (by omega),ret_some,vq_r,take_all (by omega)]
theorem Pm_map {n:Nat} {l o:LI} (hl:Vl n l) (h:Pm o l.length):(o.map (atL l)).length=l.length∧(o.map (atL l)).Nodup∧∀ x,x∈o.map (atL l)↔x∈l:=by
 have hg:∀ y,y∈o→∃ hy:y.toNat < l.length,atL l y=l[y.toNat]:=by
  intro y hy
  have:=h.rng y hy
  refine ⟨by omega,?_⟩
  unfold atL
  rw [gEq (by omega)]
  rfl
 refine ⟨by rw [List.length_map,h.len],?_,fun x=>⟨fun hx=>?_,fun hx=>?_⟩⟩
 ·rw [List.nodup_iff_pairwise_ne,List.pairwise_map]
  refine (List.pairwise_iff_getElem.2 ?_)
  intro i j hi hj hij he
  obtain ⟨a1,a2⟩:=hg _ (List.getElem_mem hi)
  obtain ⟨b1,b2⟩:=hg _ (List.getElem_mem hj)
  rw [a2,b2] at he
  have h1:=nodup_inj (asc_nodup hl.asc) he
  have h2:=h.rng _ (List.getElem_mem hi)
  have h3:=h.rng _ (List.getElem_mem hj)
  have h4:o[i]=o[j]:=by omega
  have:=nodup_inj h.nd h4
  omega
 ·obtain ⟨y,hy,rfl⟩:=List.mem_map.1 hx
  obtain ⟨a1,a2⟩:=hg y hy
  rw [a2]
  exact List.getElem_mem a1
 obtain ⟨i,hi,rfl⟩:=List.getElem_of_mem hx
 have hio:(i:Int)∈o:=by
  refine Classical.byContradiction fun hno=>?_
  have h1:((i:Int)::o).Nodup:=List.nodup_cons.2 ⟨hno,h.nd⟩
  have h2:=nodup_len l.length ((i:Int)::o) h1 (fun x hx=>by
   rcases List.mem_cons.1 hx with rfl | hx
   ·omega
   exact h.rng x hx)
  have:=h.len
  simp at h2
  omega
 refine List.mem_map.2 ⟨(i:Int),hio,?_⟩
 obtain ⟨a1,a2⟩:=hg _ hio
 rw [a2]
 simp
structure Dv (adj:L2) (leaf:Int) (A B S o oa ob:LI):Prop where
 fa:∀ k,A.length < k→dissect_dissected k (ind adj A) leaf=some oa
 fb:∀ k,B.length < k→dissect_dissected k (ind adj B) leaf=some ob
 pa:Pm oa A.length
 pb:Pm ob B.length
 eq:o=oa.map (atL A)++ob.map (atL B)++S
theorem join_perm {n:Nat} {A B S oa ob:LI} (h:P3 n A B S) (ha:Pm oa A.length) (hb:Pm ob B.length):Pm (oa.map (atL A)++ob.map (atL B)++S) n:=by
 obtain ⟨a1,a2,a3⟩:=Pm_map h.a ha
 obtain ⟨b1,b2,b3⟩:=Pm_map h.b hb
 have hlen:=h.len
 have hd:=h.nd
 rw [List.nodup_append,List.nodup_append] at hd
 obtain ⟨⟨d1,d2,d3⟩,d4,d5⟩:=hd
 refine ⟨by simp only [List.length_append]; omega,?_,fun x hx=>?_⟩
 ·rw [List.nodup_append,List.nodup_append]
  refine ⟨⟨a2,b2,fun x hx y hy=>d3 x ((a3 x).1 hx) y ((b3 y).1 hy)⟩,d4,fun x hx y hy=>d5 x ?_ y hy⟩
  rcases List.mem_append.1 hx with hx | hx
  ·exact List.mem_append.2 (.inl ((a3 x).1 hx))
  exact List.mem_append.2 (.inr ((b3 x).1 hx))
 rcases List.mem_append.1 hx with hx | hx
 ·rcases List.mem_append.1 hx with hx | hx
  ·exact h.a.rng x ((a3 x).1 hx)
  exact h.b.rng x ((b3 x).1 hx)
 exact h.s.rng x hx
theorem dissected_ok:∀ (n:Nat),n≤30→∀ {adj:L2} (_:Gr adj) (_:adj.length=n) (leaf:Int),
  ∃ o,Pm o n∧(∀ k,n < k→dissect_dissected k adj leaf=some o)∧∀ A B S,dissect_separate adj=some (A,B,S)→leaf < (n:Int)→A≠[]→B≠[]→∃ oa ob,Dv adj leaf A B S o oa ob:=by
 intro n
 induction n using Nat.strongRecOn with
 | ind n ih=>
 intro hn adj hG hl leaf
 subst hl
 obtain ⟨e,e1,e2⟩:=exact_ok hG (by omega)
 obtain ⟨side,ch,s1,s2⟩:=separate_ok hG (by omega)
 have hP:=sep_parts adj.length ch side
 generalize lA adj.length ch side=A at s2 hP
 generalize lB adj.length ch side=B at s2 hP
 generalize lS adj.length ch=S at s2 hP
 have hlen:=hP.len
 by_cases hdiv:leaf < (adj.length:Int)∧A≠[]∧B≠[]
 ·obtain ⟨d1,d2,d3⟩:=hdiv
  have ha:0 < A.length:=List.length_pos_iff.2 d2
  have hb:0 < B.length:=List.length_pos_iff.2 d3
  obtain ⟨oa,a1,a2,_⟩:=ih A.length (by omega) (by omega) (ind_gr hG A) (ind_len _ _) leaf
  obtain ⟨ob,b1,b2,_⟩:=ih B.length (by omega) (by omega) (ind_gr hG B) (ind_len _ _) leaf
  have hal:=a1.len
  have hbl:=b1.len
  refine ⟨oa.map (atL A)++ob.map (atL B)++S,join_perm hP a1 b1,fun k hk=>?_,fun A' B' S' h _ _ _=>?_⟩
  ·obtain ⟨j,rfl⟩:∃ j,k=j+1:=⟨k - 1,by omega⟩
   rw [dis_succ]
   unfold dissect_dissected_body dissect_dissected_j1
   have hc:¬ ((decide ((A.length:Int)=0)) || (decide ((B.length:Int)=0)))=true:=by
    simp only [Bool.or_eq_true,decide_eq_true_eq]
    omega
   have hlo:loop (dissect_dissected_l5 (dissect_dissected j) A B adj leaf) ([],0)=some (oa.map (atL A)++ob.map (atL B)):=by
    refine Ret.eq ?_
    refine ret_loop 2 (fun k (t:LI×Int)=>(k=0∧t=([],0))∨(k=1∧t=(oa.map (atL A),1))∨(k=2∧t=(oa.map (atL A)++ob.map (atL B),2))) (.inl ⟨rfl,rfl⟩) ?_
    rintro k _ hk (⟨rfl,rfl⟩ | ⟨rfl,rfl⟩ | ⟨rfl,rfl⟩)
    ·unfold dissect_dissected_l5
     have g0:getI [A,B] 0=some A:=rfl
     have hw:wa .i64 0 1=1:=by rw [wa_in (by constructor<;>omega)]; rfl
     simp only
     rw [if_pos (by simp),bindS g0,bindS (pInduced_ok hG (by omega) hP.a)]
     simp only
     rw [bindS (a2 j (by omega)),bindS (copy_ok a1.rng (by omega) (by simp)),hw,ret_some,vq_l]
     exact ⟨by omega,.inr (.inl ⟨by simp,by simp⟩)⟩
    ·unfold dissect_dissected_l5
     have g0:getI [A,B] 1=some B:=rfl
     have hw:wa .i64 1 1=2:=by rw [wa_in (by constructor<;>omega)]; rfl
     simp only
     rw [if_pos (by simp),bindS g0,bindS (pInduced_ok hG (by omega) hP.b)]
     simp only
     rw [bindS (b2 j (by omega)),bindS (copy_ok b1.rng (by omega) (by simp; omega)),hw,ret_some,vq_l]
     exact ⟨by omega,.inr (.inr ⟨by simp,by simp⟩)⟩
    unfold dissect_dissected_l5
    simp only
    rw [if_neg (by simp),ret_some,vq_r]
   rw [if_pos d1,bindS s2]
   simp only
   rw [if_neg hc,bindS hlo,bindS (app_small (by simp; omega))]
  rw [s2] at h
  cases h
  exact ⟨oa,ob,a2,b2,a1,b1,rfl⟩
 refine ⟨e,e2,fun k hk=>?_,fun A' B' S' h h1 h2 h3=>?_⟩
 ·obtain ⟨j,rfl⟩:∃ j,k=j+1:=⟨k - 1,by omega⟩
  rw [dis_succ]
  unfold dissect_dissected_body dissect_dissected_j1
  by_cases hlf:leaf < (adj.length:Int)
  ·have hc:((decide ((A.length:Int)=0)) || (decide ((B.length:Int)=0)))=true:=by
    simp only [Bool.or_eq_true,decide_eq_true_eq]
    refine Classical.byContradiction fun hno=>hdiv ⟨hlf,?_,?_⟩
    ·rintro rfl; exact hno (.inl rfl)
    rintro rfl; exact hno (.inr rfl)
   rw [if_pos hlf,bindS s2]
   simp only
   rw [if_pos hc,bindS e1]
  rw [if_neg hlf,if_pos (by rfl),bindS e1]
 rw [s2] at h
 cases h
 exact absurd ⟨h1,h2,h3⟩ hdiv
theorem order_ok {adj:L2} (hG:Gr adj) (hn:adj.length≤30) {leaf:Int} (h1:1≤leaf) (h2:leaf≤200) {o:LI} (h:∀ k,adj.length < k→dissect_dissected k adj leaf=some o):dissect_Order adj leaf=some (o,0):=by
 unfold dissect_Order
 have hc:¬ ((decide (leaf < 1)) || (decide ((200:Int) < leaf)))=true:=by
  simp only [Bool.or_eq_true,decide_eq_true_eq]
  omega
 obtain ⟨k,hk⟩:=fuel_succ'
 rw [bindS (graphCheck_ok hG (by omega)),if_pos rfl,if_neg hc,bindS (h FUEL (by omega))]
theorem pSeparate_ok {adj:L2} (hG:Gr adj) (hn:adj.length≤30) {A B S:LI} (h:dissect_separate adj=some (A,B,S)):dissect_Separate adj=some (A,B,S,0):=by
 unfold dissect_Separate
 rw [bindS (graphCheck_ok hG (by omega)),if_pos rfl,bindS h]
end Km
