/- DissectCoarse: coarsening keeps the weight and the cuts. -/
import Derived.Test.YthpeajepbffinaaGreatPdZ
set_option linter.unusedVariables false
set_option linter.unusedSimpArgs false
set_option maxHeartbeats 4000000
namespace Pd
open Pl Sx Go M Vc
theorem total_ok {vx:LI} {n:Nat} (hn:n≤200) (hl:vx.length=n) (hw:∀ x,x∈vx→Wg x) (a e:L2):sparseref18_Total a vx e=some (sm n (vw vx)):=by
 have hv:∀ v,v < n→vx[v]?=some (vw vx v)∧1≤vw vx v∧vw vx v≤1099511627776:=by
  intro v hvn
  obtain ⟨x,hx⟩:∃ x,vx[v]?=some x:=⟨vx[v]'(by omega),by simp [show v < vx.length by omega]⟩
  have:=hw x (mem_get hx)
  rw [vw_get hx]
  exact ⟨hx,this.1,this.2⟩
 have hb:∀ k,k≤n→0≤sm k (vw vx)∧sm k (vw vx)≤k*1099511627776:=by
  intro k hk
  exact ⟨sm_nonneg fun i hi=>by have:=hv i (by omega); omega,sm_bound fun i hi=>(hv i (by omega)).2.2⟩
 have h1:loop (sparseref18_Total_l1 vx) (0,0)=some (sm n (vw vx)):=by
  refine Ret.eq ?_
  refine ret_loop n (fun k (t:Int×Int)=>t=(sm k (vw vx),(k:Int))) rfl ?_
  rintro k _ hk rfl
  unfold sparseref18_Total_l1
  by_cases hkn:k < n
  ·obtain ⟨g1,g2,g3⟩:=hv k hkn
   have e1:getI vx (k:Int)=some (vw vx k):=g1
   have e5:(k:Int) < (vx.length:Int):=by omega
   have hw:wa .i64 (k:Int) 1=((k+1:Nat):Int):=wa1 (by omega)
   obtain ⟨b1,b2⟩:=hb k hk
   have hk2:(k:Int)*1099511627776≤200*1099511627776:=by omega
   have hw2:wa .i64 (sm k (vw vx)) (vw vx k)=sm (k+1) (vw vx):=by
    rw [wa_in (by constructor<;>omega)]
    rfl
   clear hb
   simp only [vcD,implies_true,Bool.false_eq_true,reduceCtorEq,e1,e5,hw,hw2]
   omega
  have e5:¬ (k:Int) < (vx.length:Int):=by omega
  have:k=n:=by omega
  subst this
  simp only [vcD,implies_true,Bool.false_eq_true,reduceCtorEq,e5]
 unfold sparseref18_Total
 rw [bindS h1]
end Pd
/- Refining does not raise the cut. -/
namespace Pd
open Pl Sx Go M Vc
theorem sm_iteR {n:Nat} {c:Prop} [Decidable c] {f:Nat→Int}:(sm n fun i=>if c then f i else 0)=if c then sm n f else 0:=by
 by_cases h:c
 ·rw [if_pos h]; exact sm_congr fun i _=>if_pos h
 rw [if_neg h]; exact sm_zero fun i _=>if_neg h
def gn (n:Nat) (W:Nat→Nat→Int) (s:Nat→Int) (x:Nat):Int:=sm n fun u=>if s u=s x then - W x u else W x u
theorem cut_flip {n:Nat} {W:Nat→Nat→Int} {B:Int} (hT:Tw n W B) {s:Nat→Int} (h01:∀ v,v < n→s v=0∨s v=1) {x:Nat} (hx:x < n):
  cut n W (fun v=>if v=x then 1 - s x else s v)=cut n W s - gn n W s x:=by
 have h1:=cut_twice hT s
 have h2:=cut_twice hT (fun v=>if v=x then 1 - s x else s v)
 have key:(sm n fun v=>sm n fun u=>if (if u=x then 1 - s x else s u)=(if v=x then 1 - s x else s v) then 0 else W v u)+gn n W s x+gn n W s x=sm n fun v=>sm n fun u=>if s u=s v then 0 else W v u:=by
  have a1:gn n W s x=sm n fun v=>sm n fun u=>if x=v then (if s u=s x then - W x u else W x u) else 0:=by
   have:(sm n fun v=>sm n fun u=>if x=v then (if s u=s x then - W x u else W x u) else 0)=sm n fun v=>if x=v then gn n W s x else 0:=sm_congr fun v _=>sm_iteR
   rw [this,sm_one hx]
  have a2:gn n W s x=sm n fun v=>sm n fun u=>if x=u then (if s v=s x then - W x v else W x v) else 0:=by
   have:(sm n fun v=>sm n fun u=>if x=u then (if s v=s x then - W x v else W x v) else 0)=sm n fun v=>(if s v=s x then - W x v else W x v):=sm_congr fun v _=>sm_one hx
   rw [this]; rfl
  have e:∀ (a b c d:Int),b=c→b=d→a+c+d=a+b+b:=by intros; omega
  rw [← e _ _ _ _ a1 a2,← sm_add,← sm_add]
  refine sm_congr fun v hv=>?_
  rw [← sm_add,← sm_add]
  refine sm_congr fun u hu=>?_
  have hsx:=h01 x hx
  have hsv:=h01 v hv
  have hsu:=h01 u hu
  by_cases hvx:x=v
  ·subst hvx
   by_cases hux:x=u
   ·subst hux
    have:=hT.dg x hx
    simp [this]
   have hux':¬ u=x:=fun e=>hux e.symm
   rw [if_neg hux',if_pos rfl,if_pos rfl,if_neg hux]
   by_cases hs:s u=s x
   ·rw [if_pos hs,if_pos hs,if_neg (by omega)]; omega
   rw [if_neg hs,if_neg hs,if_pos (by omega)]; omega
  have hvx':¬ v=x:=fun e=>hvx e.symm
  rw [if_neg hvx',if_neg hvx]
  by_cases hux:x=u
  ·subst hux
   rw [if_pos rfl,if_pos rfl,hT.sym x v hx hv]
   by_cases hs:s v=s x
   ·rw [if_pos hs,if_neg (by omega),if_pos hs.symm]; omega
   rw [if_neg hs,if_pos (by omega),if_neg (fun e=>hs e.symm)]; omega
  have hux':¬ u=x:=fun e=>hux e.symm
  rw [if_neg hux',if_neg hux]; omega
 omega
theorem gain_row {n:Nat} (hn:n≤200) {W:Nat→Nat→Int} {B:Int} (hT:Tw n W B) (hB:0≤B∧B≤1099511627776) {side:LI} (hs:side.length=n) {v:Nat} (hv:v < n):
  loop (dissect_refine_l72 ((nbs n (W v)).map Int.ofNat) side (sd side v) (ced n W) (v:Int)) (0,0)=some (gn n W (sd side) v):=by
 have hnl:=nbs_len (n:=n) (f:=W v)
 have hll:((nbs n (W v)).map Int.ofNat).length=(nbs n (W v)).length:=by simp
 have hget:∀ u,u < n→side[u]?=some (sd side u):=by
  intro u hu
  obtain ⟨x,hx⟩:∃ x,side[u]?=some x:=⟨side[u]'(by omega),by simp [show u < side.length by omega]⟩
  rw [sd_get hx]; exact hx
 have hsum:gn n W (sd side) v=((nbs n (W v)).map fun u=>if sd side u=sd side v then - W v u else W v u).sum:=by
  rw [nbs_sum]
  refine sm_congr fun u hu=>?_
  by_cases h:0 < W v u
  ·rw [if_pos h]
  have:=hT.nn v u hv hu
  rw [if_neg h]; split<;>omega
 rw [hsum]
 refine Ret.eq ?_
 refine ret_loop (nbs n (W v)).length (fun k (t:Int×Int)=>t.2=k∧t.1=(((nbs n (W v)).take k).map fun u=>if sd side u=sd side v then - W v u else W v u).sum∧-(k*B)≤(((nbs n (W v)).take k).map fun u=>if sd side u=sd side v then - W v u else W v u).sum∧(((nbs n (W v)).take k).map fun u=>if sd side u=sd side v then - W v u else W v u).sum≤k*B) ⟨rfl,by simp,by simp,by simp⟩ ?_
 rintro k ⟨t,i⟩ hk ⟨rfl,h1,h2,h3⟩
 simp only at h1
 subst h1
 unfold dissect_refine_l72 dissect_refine_j77
 by_cases hkl:k < (nbs n (W v)).length
 ·obtain ⟨u,hu⟩:∃ u,(nbs n (W v))[k]?=some u:=⟨(nbs n (W v))[k],by simp [hkl]⟩
  obtain ⟨hun,hpos⟩:=nbs_mem.1 (List.mem_of_getElem? hu)
  have hwr:=hT.nn v u hv hun
  have e0:getI ((nbs n (W v)).map Int.ofNat) (k:Int)=some (u:Int):=by rw [getI_cast,List.getElem?_map,hu]; rfl
  have e1:getI side (u:Int)=some (sd side u):=hget u hun
  have e6:getI (ced n W) (v:Int)=some ((nbs n (W v)).map (W v)):=ced_get hv
  have e7:getI ((nbs n (W v)).map (W v)) (k:Int)=some (W v u):=by rw [getI_cast,List.getElem?_map,hu]; rfl
  have e5:(k:Int) < (((nbs n (W v)).map Int.ofNat).length:Int):=by omega
  have hw:wa .i64 (k:Int) 1=((k+1:Nat):Int):=wa1 (by omega)
  have gk:(k:Int)*B≤200*1099511627776:=Int.le_trans (Int.mul_le_mul_of_nonneg_right (show (k:Int)≤200 by omega) hB.1) (Int.mul_le_mul_of_nonneg_left hB.2 (by omega))
  have hk1:((k+1:Nat):Int)*B=k*B+B:=by rw [Int.natCast_add,Int.add_mul]; omega
  have hts:(((nbs n (W v)).take (k+1)).map fun u=>if sd side u=sd side v then - W v u else W v u).sum=(((nbs n (W v)).take k).map fun u=>if sd side u=sd side v then - W v u else W v u).sum+(if sd side u=sd side v then - W v u else W v u):=by
   rw [tks hu,List.map_append,List.sum_append]; simp
  rw [hts,hk1]
  generalize (((nbs n (W v)).take k).map fun u=>if sd side u=sd side v then - W v u else W v u).sum=S at*
  by_cases hsd:sd side u=sd side v
  ·have hw2:ws .i64 S (W v u)=S+ - W v u:=by rw [ws_in (by constructor<;>omega)]; rfl
   simp only [vcD,implies_true,Bool.false_eq_true,reduceCtorEq,e0,e1,e5,e6,e7,hsd,hw2,hw]
   exact ⟨hkl,by omega,by omega⟩
  have hw2:wa .i64 S (W v u)=S+W v u:=wa_i (by omega) (by omega)
  simp only [vcD,implies_true,Bool.false_eq_true,reduceCtorEq,e0,e1,e5,e6,e7,hsd,hw2,hw]
  exact ⟨hkl,by omega,by omega⟩
 have e5:¬ (k:Int) < (((nbs n (W v)).map Int.ofNat).length:Int):=by omega
 rw [take_all (by omega)]
 simp only [vcD,implies_true,Bool.false_eq_true,reduceCtorEq,e5]
theorem st_ok {l:LI} {x:Int} (y:Int) (hx:0≤x) (hl:x < l.length):setI l x y=some (l.set x.toNat y):=by
 obtain ⟨k,rfl⟩:=Int.eq_ofNat_of_zero_le hx
 rw [setI_lt (by omega)]; rfl
theorem size_ok {n:Nat} (hn:n≤200) {side vx:LI} (hs:side.length=n) (h01:S01 side) (hv:vx.length=n):Ret (loop (dissect_refine_l1 side vx) ([0,0],0)) (fun o=>o.length=2):=by
 refine ret_loop n (fun k (t:LI×Int)=>t.2=k∧t.1.length=2) ⟨rfl,rfl⟩ ?_
 rintro k ⟨z,i⟩ hk ⟨rfl,h1⟩
 simp only at h1
 unfold dissect_refine_l1
 simp only
 by_cases hkn:k < n
 ·obtain ⟨x,hx⟩:∃ x,side[k]?=some x:=⟨side[k]'(by omega),by simp [show k < side.length by omega]⟩
  obtain ⟨y,hy⟩:∃ y,vx[k]?=some y:=⟨vx[k]'(by omega),by simp [show k < vx.length by omega]⟩
  have hw:wa .i64 (k:Int) 1=((k+1:Nat):Int):=wa1 (by omega)
  have hx01:=h01 x (mem_get hx)
  obtain ⟨a,ha⟩:∃ a,z[x.toNat]?=some a:=⟨z[x.toNat]'(by omega),by simp [show x.toNat < z.length by omega]⟩
  have e1:getI side (k:Int)=some x:=hx
  have e2:getI vx (k:Int)=some y:=hy
  have e3:getI z x=some a:=getI_of (by omega) ha
  have e5:(k:Int) < (side.length:Int):=by omega
  rw [if_pos e5,bindS e1,bindS e3,bindS e2,bindS (st_ok (x:=x) (wa .i64 a y) (by omega) (by omega)),hw]
  simp only [vcD,implies_true,Bool.false_eq_true,reduceCtorEq]
  exact ⟨hkn,by simp [h1]⟩
 have e5:¬ (k:Int) < (side.length:Int):=by omega
 rw [if_neg e5]
 simp only [vcD,implies_true,Bool.false_eq_true,reduceCtorEq]
 exact h1
structure Rf (n:Nat) (W:Nat→Nat→Int) (C:Int) (side size:LI):Prop where
 sl:side.length=n
 s01:S01 side
 le:cut n W (sd side)≤C
 zl:size.length=2
theorem pass_ok {n:Nat} (hn:n≤200) {W:Nat→Nat→Int} {B:Int} (hT:Tw n W B) (hB:0≤B∧B≤1099511627776) {vx:LI} (hv:vx.length=n) {C:Int} {side0:LI} (h0:side0.length=n) (x26 x27:Int) {side size:LI} (h:Rf n W C side size):
  Ret (loop (dissect_refine_l69 side0 (cadj n W) (ced n W) vx x26 x27) (side,size,false,0)) (fun o=>Rf n W C o.1 o.2.1):=by
 refine ret_loop n (fun k (t:LI×LI×Bool×Int)=>t.2.2.2=k∧Rf n W C t.1 t.2.1) ⟨rfl,h⟩ ?_
 rintro k ⟨sd',z,mv,i⟩ hk ⟨hi,h1⟩
 simp only at hi h1
 subst hi
 unfold dissect_refine_l69
 simp only
 by_cases hkn:k < n
 ·have hsl:=h1.sl
  obtain ⟨s,hs⟩:∃ s,sd'[k]?=some s:=⟨sd'[k]'(by omega),by simp [show k < sd'.length by omega]⟩
  have hs01:=h1.s01 s (mem_get hs)
  have hsd:=sd_get hs
  have hw:wa .i64 (k:Int) 1=((k+1:Nat):Int):=wa1 (by omega)
  have hz:=h1.zl
  obtain ⟨y,hy⟩:∃ y,vx[k]?=some y:=⟨vx[k]'(by omega),by simp [show k < vx.length by omega]⟩
  have e1:getI sd' (k:Int)=some s:=hs
  have e2:getI vx (k:Int)=some y:=hy
  have e3:getI (cadj n W) (k:Int)=some ((nbs n (W k)).map Int.ofNat):=cadj_get hkn
  have e5:(k:Int) < (side0.length:Int):=by omega
  have e6:=gain_row hn hT hB hsl hkn
  rw [hsd] at e6
  have ho:ws .i64 1 s=1 - s:=by rw [ws_in (by constructor<;>omega)]
  obtain ⟨a,ha⟩:∃ a,z[(1 - s).toNat]?=some a:=⟨z[(1 - s).toNat]'(by omega),by simp [show (1 - s).toNat < z.length by omega]⟩
  obtain ⟨b,hb⟩:∃ b,z[s.toNat]?=some b:=⟨z[s.toNat]'(by omega),by simp [show s.toNat < z.length by omega]⟩
  have e7:getI z (1 - s)=some a:=getI_of (by omega) ha
  have e8:getI z s=some b:=getI_of (by omega) hb
  rw [if_pos e5,bindS e1,bindS e3,bindS e6,ho]
  have tail:∀ (z':LI) (mv':Bool) (sd'':LI),Rf n W C sd'' z'→Ret (dissect_refine_j76 (k:Int) sd'' z' mv') (VQ (fun t':LI×LI×Bool×Int=>k < n∧t'.2.2.2=((k+1:Nat):Int)∧Rf n W C t'.1 t'.2.1) (fun o=>Rf n W C o.1 o.2.1)):=by
   intro z' mv' sd'' hR
   unfold dissect_refine_j76
   rw [hw]
   simp only [vcD,implies_true,Bool.false_eq_true,reduceCtorEq]
   exact ⟨hkn,hR⟩
  by_cases hg:0 < gn n W (sd sd') k
  ·rw [if_pos hg,bindS e7,bindS e2]
   generalize decide (wm .i64 3 (wa .i64 a y)≤wm .i64 2 (wa .i64 x26 x27))=d
   rw [bindS rfl]
   cases d with
   | true=>
    rw [if_pos rfl,bindS (st_ok _ (by omega) (by omega)),bindS e8,bindS e2,bindS (st_ok _ (by omega) (by omega))]
    have e9:getI (z.set s.toNat (ws .i64 b y)) (1 - s)=some a:=by
     refine getI_of (by omega) ?_
     rw [List.getElem?_set,if_neg (by omega)]
     exact ha
    rw [bindS e9,bindS e2,bindS (st_ok _ (by omega) (by simp; omega))]
    refine tail _ _ _ ⟨by simp [hsl],?_,?_,by simp [hz]⟩
    ·intro x hx
     rcases List.mem_or_eq_of_mem_set hx with hx | rfl
     ·exact h1.s01 x hx
     omega
    have e:cut n W (sd (sd'.set (k:Int).toNat (1 - s)))=cut n W (fun v=>if v=k then 1 - sd sd' k else sd sd' v):=by
     unfold cut
     have q:∀ v,sd (sd'.set (k:Int).toNat (1 - s)) v=if v=k then 1 - sd sd' k else sd sd' v:=by
      intro v
      unfold sd
      rw [List.getElem?_set,hs,Int.toNat_natCast]
      by_cases hvk:k=v
      ·rw [if_pos hvk,if_pos hvk.symm,if_pos (by omega)]; rfl
      rw [if_neg hvk,if_neg (fun e=>hvk e.symm)]
     simp only [q]
    rw [e,cut_flip hT (fun v hv=>by
     obtain ⟨x,hx⟩:∃ x,sd'[v]?=some x:=⟨sd'[v]'(by omega),by simp [show v < sd'.length by omega]⟩
     rw [sd_get hx]; exact h1.s01 x (mem_get hx)) hkn]
    have:=h1.le
    omega
   | false=>
    rw [if_neg (by simp)]
    exact tail _ _ _ h1
  rw [if_neg hg,bindS rfl,if_neg (by simp)]
  exact tail _ _ _ h1
 have e5:¬ (k:Int) < (side0.length:Int):=by omega
 rw [if_neg e5]
 simp only [vcD,implies_true,Bool.false_eq_true,reduceCtorEq]
 exact h1
theorem refine_ok {n:Nat} (hn:n≤200) {W:Nat→Nat→Int} {B:Int} (hT:Tw n W B) (hB:0≤B∧B≤1099511627776) {vx:LI} (hv:vx.length=n) {side:LI} (h0:side.length=n) (h01:S01 side):
  Ret (dissect_refine (cadj n W) vx (ced n W) side) (fun o=>o.length=n∧S01 o∧cut n W (sd o)≤cut n W (sd side)):=by
 unfold dissect_refine
 obtain ⟨z,z1,z2⟩:=size_ok hn h0 h01 hv
 obtain ⟨a,b,rfl⟩:∃ a b,z=[a,b]:=by
  match z,z2 with
  | [a,b],_=>exact ⟨a,b,rfl⟩
 rw [bindS z1,bindS (show getI [a,b] 0=some a by rfl),bindS (show getI [a,b] 1=some b by rfl),ret_bind]
 refine ret_call (P:=fun o=>∃ s z,(o=.inl s∨o=.inr s)∧Rf n W (cut n W (sd side)) s z) ?_ ?_
 ·refine ret_loop 4 (fun k (t:LI×LI×Int)=>t.2.2=k∧Rf n W (cut n W (sd side)) t.1 t.2.1) ⟨rfl,h0,h01,Int.le_refl _,z2⟩ ?_
  rintro k ⟨s,z,i⟩ hk ⟨hi,h1⟩
  simp only at hi h1
  subst hi
  unfold dissect_refine_l52
  simp only
  by_cases hk4:k < 4
  ·have e5:(k:Int) < 4:=by omega
   rw [if_pos e5]
   obtain ⟨⟨s',z',mv⟩,o1,o2⟩:=pass_ok hn hT hB hv h1.sl a b h1
   simp only at o2
   have hw:wa .i64 (k:Int) 1=((k+1:Nat):Int):=wa1 (by omega)
   rw [bindS o1]
   simp only
   cases mv with
   | true=>
    rw [if_pos rfl,hw]
    simp only [vcD,implies_true,Bool.false_eq_true,reduceCtorEq]
    exact ⟨hk4,o2⟩
   | false=>
    rw [if_neg (by simp),ret_some]
    exact ⟨s',z',.inr rfl,o2⟩
  have e5:¬ (k:Int) < 4:=by omega
  rw [if_neg e5,ret_some]
  exact ⟨s,z,.inl rfl,h1⟩
 rintro o ⟨s,z,(rfl | rfl),h⟩
 ·simp only [vcD,implies_true,Bool.false_eq_true,reduceCtorEq]; exact ⟨h.sl,h.s01,h.le⟩
 simp only [vcD,implies_true,Bool.false_eq_true,reduceCtorEq]; exact ⟨h.sl,h.s01,h.le⟩
end Pd
/- Growing: the program's sides are the paper's. -/
namespace Pd
open Pl Sx Go M Vc
def grow (T:Int) (vx:LI):LI→LI×Int→(LI×Int)⊕LI
 | [],st=>.inl st
 | v::l,st=>if T≤wm .i64 2 st.2 then .inr st.1 else grow T vx l (st.1.set v.toNat 0,wa .i64 st.2 (vx[v.toNat]?.getD 0))
def stp:(LI×Int)⊕LI→LI
 | .inl p=>p.1
 | .inr s=>s
def out1:LI⊕LI→LI
 | .inl s=>s
 | .inr s=>s
theorem grow_inl {T:Int} {vx:LI}:∀ {l:LI} {st p:LI×Int},grow T vx l st=.inl p→p.1.length=st.1.length
 | [],st,p,h=>by rw [grow] at h; cases h; rfl
 | v::l,st,p,h=>by
  rw [grow] at h
  split at h
  ·cases h
  have:=grow_inl h
  simpa using this
theorem grow_append {T:Int} {vx:LI}:∀ {a b:LI} {st:LI×Int},grow T vx (a++b) st=match grow T vx a st with | .inl p=>grow T vx b p | .inr s=>.inr s
 | [],b,st=>rfl
 | v::a,b,st=>by
  rw [List.cons_append,grow,grow]
  split
  ·rfl
  exact grow_append
theorem grow_keeps {T:Int} {vx:LI}:∀ {l:LI} {st:LI×Int},S01 st.1→(stp (grow T vx l st)).length=st.1.length∧S01 (stp (grow T vx l st))
 | [],st,h=>⟨rfl,h⟩
 | v::l,st,h=>by
  rw [grow]
  split
  ·exact ⟨rfl,h⟩
  have:=grow_keeps (T:=T) (vx:=vx) (l:=l) (st:=(st.1.set v.toNat 0,wa .i64 st.2 (vx[v.toNat]?.getD 0))) (fun x hx=>by
   rcases List.mem_or_eq_of_mem_set hx with hx | rfl
   ·exact h x hx
   exact .inl rfl)
  exact ⟨by simpa using this.1,this.2⟩
theorem drop_at {α:Type} {l:List α} {k:Nat} {x:α} (h:l[k]?=some x):l.drop k=x::l.drop (k+1):=by
 have hk:k < l.length:=by
  refine Classical.byContradiction fun hno=>?_
  rw [List.getElem?_eq_none (by omega)] at h; cases h
 rw [List.drop_eq_getElem_cons hk]
 rw [gEq hk] at h
 rw [sInj h]
theorem g4_ok {n:Nat} (hn:n≤200) {vx:LI} (hv:vx.length=n) (T:Int) {l:LI} (hl:l.length≤1000000) (hr:∀ x,x∈l→0≤x∧x < n) {s:LI} {g:Int} (hs:s.length=n):
  loop (dissect_grown_l4 l T vx) (s,g,0)=some (grow T vx l (s,g)):=by
 refine Ret.eq ?_
 refine ret_loop l.length (fun k (t:LI×Int×Int)=>t.2.2=k∧t.1.length=n∧grow T vx l (s,g)=grow T vx (l.drop k) (t.1,t.2.1)) ⟨rfl,hs,rfl⟩ ?_
 rintro k ⟨a,b,i⟩ hk ⟨hi,h1,h2⟩
 simp only at hi h1 h2
 subst hi
 unfold dissect_grown_l4
 simp only
 by_cases hkl:k < l.length
 ·obtain ⟨x,hx⟩:∃ x,l[k]?=some x:=⟨l[k],by simp [hkl]⟩
  have hxr:=hr x (mem_get hx)
  have e1:getI l (k:Int)=some x:=hx
  have hw:wa .i64 (k:Int) 1=((k+1:Nat):Int):=wa1 (by omega)
  obtain ⟨y,hy⟩:∃ y,vx[x.toNat]?=some y:=⟨vx[x.toNat]'(by omega),by simp [show x.toNat < vx.length by omega]⟩
  have e2:getI vx x=some y:=getI_of hxr.1 hy
  rw [drop_at hx,grow,hy] at h2
  rw [if_pos (by omega),bindS e1]
  by_cases hT:T≤wm .i64 2 b
  ·rw [if_pos hT] at h2 ⊢
   rw [ret_some,vq_r,h2]
  rw [if_neg hT] at h2 ⊢
  rw [bindS (st_ok _ hxr.1 (by omega)),bindS e2,hw,ret_some,vq_l]
  exact ⟨hkl,rfl,by simp [h1],h2⟩
 rw [if_neg (by omega),ret_some,vq_r]
 rw [List.drop_eq_nil_of_le (by omega)] at h2
 rw [h2]; rfl
theorem r14_ok {n:Nat} (hn:n≤200) {vx:LI} (hv:vx.length=n) (T:Int) {L:L2} {j:Nat} {l:LI} (hL:L[j]?=some l) (hl:l.length≤1000000) (hr:∀ x,x∈l→0≤x∧x < n) {s:LI} {g:Int} (hs:s.length=n):
  loop (sparseref18_Grow_l14 L (j:Int) T vx) (s,g,0)=some (grow T vx l (s,g)):=by
 refine Ret.eq ?_
 refine ret_loop l.length (fun k (t:LI×Int×Int)=>t.2.2=k∧t.1.length=n∧grow T vx l (s,g)=grow T vx (l.drop k) (t.1,t.2.1)) ⟨rfl,hs,rfl⟩ ?_
 rintro k ⟨a,b,i⟩ hk ⟨hi,h1,h2⟩
 simp only at hi h1 h2
 subst hi
 unfold sparseref18_Grow_l14
 simp only
 have e0:getI L (j:Int)=some l:=hL
 rw [bindS e0]
 by_cases hkl:k < l.length
 ·obtain ⟨x,hx⟩:∃ x,l[k]?=some x:=⟨l[k],by simp [hkl]⟩
  have hxr:=hr x (mem_get hx)
  have e1:getI l (k:Int)=some x:=hx
  have hw:wa .i64 (k:Int) 1=((k+1:Nat):Int):=wa1 (by omega)
  obtain ⟨y,hy⟩:∃ y,vx[x.toNat]?=some y:=⟨vx[x.toNat]'(by omega),by simp [show x.toNat < vx.length by omega]⟩
  have e2:getI vx x=some y:=getI_of hxr.1 hy
  rw [drop_at hx,grow,hy] at h2
  rw [if_pos (by omega)]
  by_cases hT:T≤wm .i64 2 b
  ·rw [if_pos hT] at h2 ⊢
   rw [ret_some,vq_r,h2]
  rw [if_neg hT] at h2 ⊢
  rw [bindS e0,bindS e1,bindS (st_ok _ hxr.1 (by omega)),bindS e0,bindS e1,bindS e2,hw,ret_some,vq_l]
  exact ⟨hkl,rfl,by simp [h1],h2⟩
 rw [if_neg (by omega),ret_some,vq_r]
 rw [List.drop_eq_nil_of_le (by omega)] at h2
 rw [h2]; rfl
theorem r13_ok {n:Nat} (hn:n≤200) {vx:LI} (hv:vx.length=n) (T:Int) {L:L2} (hL:L.length≤1000) (hl:∀ l,l∈L→l.length≤1000) (hr:∀ l,l∈L→∀ x,x∈l→0≤x∧x < n) {s:LI} {g:Int} (hs:s.length=n):
  loop (sparseref18_Grow_l13 L T vx) (s,g,0)=some (grow T vx L.flatten (s,g)):=by
 refine Ret.eq ?_
 refine ret_loop L.length (fun k (t:LI×Int×Int)=>t.2.2=k∧t.1.length=n∧grow T vx L.flatten (s,g)=grow T vx (L.drop k).flatten (t.1,t.2.1)) ⟨rfl,hs,rfl⟩ ?_
 rintro k ⟨a,b,i⟩ hk ⟨hi,h1,h2⟩
 simp only at hi h1 h2
 subst hi
 unfold sparseref18_Grow_l13
 simp only
 by_cases hkl:k < L.length
 ·obtain ⟨l,hx⟩:∃ x,L[k]?=some x:=⟨L[k],by simp [hkl]⟩
  have hw:wa .i64 (k:Int) 1=((k+1:Nat):Int):=wa1 (by omega)
  have e1:=r14_ok hn hv T hx (by have:=hl l (mem_get hx); omega) (hr l (mem_get hx)) (s:=a) (g:=b) h1
  rw [drop_at hx,List.flatten_cons,grow_append] at h2
  rw [if_pos (by omega),bindS e1]
  cases hg:grow T vx l (a,b) with
  | inl p=>
   rw [hg] at h2
   have:=grow_inl hg
   simp only
   rw [hw,ret_some,vq_l]
   exact ⟨hkl,rfl,by simpa [h1] using this,h2⟩
  | inr s'=>
   rw [hg] at h2
   simp only
   rw [ret_some,vq_r,h2]
 rw [if_neg (by omega),ret_some,vq_r]
 rw [List.drop_eq_nil_of_le (by omega)] at h2
 rw [h2]; rfl
theorem concat_ok {L:L2} (hL:L.length≤1000) (hl:∀ l,l∈L→l.length≤1000):slices_Concat_int L=some L.flatten:=by
 unfold slices_Concat_int
 have fl:∀ k,k≤L.length→(L.take k).flatten.length≤k*1000:=by
  intro k hk
  induction k with
  | zero=>simp
  | succ k ih=>
   obtain ⟨x,hx⟩:∃ x,L[k]?=some x:=⟨L[k],by simp [show k < L.length by omega]⟩
   have e:(L.take (k+1)).flatten.length=(L.take k).flatten.length+x.length:=by
    rw [tks hx,List.flatten_append,List.length_append,List.flatten_singleton]
   have:=ih (by omega)
   have:=hl x (mem_get hx)
   omega
 have h1:loop (slices_Concat_int_l3 L) (0,0)=some (L.flatten.length:Int):=by
  refine Ret.eq ?_
  refine ret_loop L.length (fun k (t:Int×Int)=>t=(((L.take k).flatten.length:Int),(k:Int))) rfl ?_
  rintro k _ hk rfl
  unfold slices_Concat_int_l3 slices_Concat_int_j5
  simp only
  have hf:=fl k hk
  by_cases hkl:k < L.length
  ·obtain ⟨x,hx⟩:∃ x,L[k]?=some x:=⟨L[k],by simp [hkl]⟩
   have hw:wa .i64 (k:Int) 1=((k+1:Nat):Int):=wa1 (by omega)
   have hxl:=hl x (mem_get hx)
   have e1:getI L (k:Int)=some x:=hx
   have hw2:wa .i64 ((L.take k).flatten.length:Int) (x.length:Int)=(((L.take (k+1)).flatten.length:Nat):Int):=by
    rw [wa_in (by constructor<;>omega),tks hx,List.flatten_append,List.length_append,List.flatten_singleton]
    omega
   rw [if_pos (by omega),bindS e1,hw2,if_neg (by omega),hw,ret_some,vq_l]
   exact ⟨hkl,rfl⟩
  rw [if_neg (by omega),ret_some,vq_r,take_all (by omega)]
 have hF:=fl L.length (Nat.le_refl _)
 rw [List.take_length] at hF
 have h2:slices_Grow_int (L.flatten.length:Int)=some []:=by
  unfold slices_Grow_int slices_Grow_int_j1 slices_Grow_int_j2
  rw [if_neg (by omega)]
  have e0:ws .i64 0 0=0:=by rw [ws_in (by constructor<;>omega)]; rfl
  have e1:ws .i64 (L.flatten.length:Int) 0=(L.flatten.length:Int):=by rw [ws_in (by constructor<;>omega)]; omega
  rw [e0,e1]
  by_cases h:(0:Int) < (L.flatten.length:Int)
  ·rw [if_pos h]
   unfold mkLp
   rw [if_pos h,bindS (mkL_nat 0 _ (by omega))]
   rfl
  rw [if_neg h]
 have h3:loop (slices_Concat_int_l4 L) ([],0)=some L.flatten:=by
  refine Ret.eq ?_
  refine ret_loop L.length (fun k (t:LI×Int)=>t=((L.take k).flatten,(k:Int))) rfl ?_
  rintro k _ hk rfl
  unfold slices_Concat_int_l4
  simp only
  have hf:=fl k hk
  by_cases hkl:k < L.length
  ·obtain ⟨x,hx⟩:∃ x,L[k]?=some x:=⟨L[k],by simp [hkl]⟩
   have hw:wa .i64 (k:Int) 1=((k+1:Nat):Int):=wa1 (by omega)
   have hxl:=hl x (mem_get hx)
   have e1:getI L (k:Int)=some x:=hx
   have e2:app (L.take k).flatten x=some (L.take (k+1)).flatten:=by
    unfold app BIG
    rw [if_pos (by omega),tks hx,List.flatten_append]; simp
   rw [if_pos (by omega),bindS e1,bindS e2,hw,ret_some,vq_l]
   exact ⟨hkl,rfl⟩
  rw [if_neg (by omega),ret_some,vq_r,take_all (by omega)]
 rw [bindS h1,bindS h2,bindS h3]
def pl (adj:L2) (c:LI):L2:=((graph_Peripheral adj (c.headD 0)).bind (graph_Levels adj)).getD []
structure Part (adj:L2) (n:Nat) (c:LI):Prop where
 ex:∃ (r:Int) (p:Int),getI c 0=some r∧graph_Peripheral adj r=some p∧sparseref12_Peripheral adj r=some p∧graph_Levels adj p=some (pl adj c)∧sparseref12_Levels adj p=some (pl adj c)
 ln:(pl adj c).length≤1000
 sz:∀ l,l∈pl adj c→l.length≤1000
 rg:∀ l,l∈pl adj c→∀ x,x∈l→0≤x∧x < n
theorem part_ok {adj:L2} (hG:Gr adj) (hn:adj.length≤30) {out:L2} (hC:CS adj adj.length out) {c:LI} (hc:c∈out):Part adj adj.length c:=by
 obtain ⟨r,hr,hcc,hh⟩:=hC.cls c hc
 obtain ⟨a,lev,seen,c',a1,a2,a3,a4⟩:=levels_cls hG hn hr
 obtain ⟨p,p0,q,b,r',w,rfl,hq,_⟩:=peripheral_ok hG hn hr a1
 have p1:=rper_ok hG hn hr p0
 obtain ⟨o,lev',seen',c'',o1,o2,o3,o4⟩:=levels_cls hG hn hq
 obtain ⟨o',lev2,seen2,r1,r2⟩:=rLevels_ok hG hn hq
 obtain rfl:=o2.out_eq r2
 obtain ⟨k1,k2,k3,k4,k5⟩:=bf_pre o2 hq hn
 have hL:graph_Levels adj (q:Int)=some o:=by
  unfold graph_Levels graph_vertex
  have hchk:=graphCheck_ok hG (show adj.length≤200 by omega)
  have e2:(q:Int) < (adj.length:Int):=by omega
  have e3:(0:Int)≤(q:Int):=by omega
  simp [hchk,e2,e3,o1]
 have hp:pl adj c=o:=by
  unfold pl
  rw [List.headD_eq_head?_getD,hh,Option.getD_some,p0,Option.bind_some,hL,Option.getD_some]
 have hg:getI c 0=some (r:Int):=by
  cases c with
  | nil=>cases hh
  | cons x c=>simp at hh; subst hh; rfl
 exact ⟨⟨r,q,hg,p0,p1,by rw [hp]; exact hL,by rw [hp]; exact r1⟩,by rw [hp]; omega,by rw [hp]; exact k5,by rw [hp]; exact k4⟩
theorem flat_len {L:L2}:∀ {a:Nat},L.length≤a→(∀ l,l∈L→l.length≤1000)→L.flatten.length≤a*1000:=by
 induction L with
 | nil=>intros; simp
 | cons x L ih=>
  intro a ha hl
  have h1:=hl x (by simp)
  have h2:=ih (a:=a - 1) (by simp at ha; omega) (fun l h=>hl l (by simp [h]))
  rw [List.flatten_cons,List.length_append]
  simp at ha
  omega
theorem g3_ok {n:Nat} (hn:n≤200) {vx:LI} (hv:vx.length=n) (T:Int) {adj:L2} {C:L2} (hC:C.length≤1000) (hP:∀ c,c∈C→Part adj n c) {s:LI} {g:Int} (hs:s.length=n):
  Ret (loop (dissect_grown_l3 C adj T vx) (s,g,0)) (fun o=>out1 o=stp (grow T vx (C.map fun c=>(pl adj c).flatten).flatten (s,g))):=by
 refine ret_loop C.length (fun k (t:LI×Int×Int)=>t.2.2=k∧t.1.length=n∧grow T vx (C.map fun c=>(pl adj c).flatten).flatten (s,g)=grow T vx ((C.drop k).map fun c=>(pl adj c).flatten).flatten (t.1,t.2.1)) ⟨rfl,hs,rfl⟩ ?_
 rintro k ⟨a,b,i⟩ hk ⟨hi,h1,h2⟩
 simp only at hi h1 h2
 subst hi
 unfold dissect_grown_l3
 simp only
 by_cases hkl:k < C.length
 ·obtain ⟨c,hx⟩:∃ x,C[k]?=some x:=⟨C[k],by simp [hkl]⟩
  have hw:wa .i64 (k:Int) 1=((k+1:Nat):Int):=wa1 (by omega)
  obtain ⟨⟨r,p,c1,c2,c3,c4,c5⟩,q1,q2,q3⟩:=hP c (mem_get hx)
  have e0:getI C (k:Int)=some c:=hx
  have e1:=g4_ok hn hv T (l:=(pl adj c).flatten) (by have:=flat_len q1 q2; omega) (fun x hx=>by obtain ⟨l,l1,l2⟩:=List.mem_flatten.1 hx; exact q3 l l1 x l2) (s:=a) (g:=b) h1
  rw [drop_at hx,List.map_cons,List.flatten_cons,grow_append] at h2
  rw [if_pos (by omega),bindS e0,bindS c1,bindS c2,bindS c4,bindS (concat_ok q1 q2),bindS e1]
  cases hg:grow T vx (pl adj c).flatten (a,b) with
  | inl p=>
   rw [hg] at h2
   have:=grow_inl hg
   simp only
   rw [hw,ret_some,vq_l]
   exact ⟨hkl,rfl,by simpa [h1] using this,h2⟩
  | inr s'=>
   rw [hg] at h2
   simp only
   rw [ret_some,vq_r,h2]
   rfl
 rw [if_neg (by omega),ret_some,vq_r]
 rw [List.drop_eq_nil_of_le (by omega)] at h2
 rw [h2]; rfl
theorem r10_ok {n:Nat} (hn:n≤200) {vx:LI} (hv:vx.length=n) (T:Int) {adj:L2} {C:L2} (hC:C.length≤1000) (hP:∀ c,c∈C→Part adj n c) {s:LI} {g:Int} (hs:s.length=n):
  Ret (loop (sparseref18_Grow_l10 C adj T vx) (s,g,0)) (fun o=>out1 o=stp (grow T vx (C.map fun c=>(pl adj c).flatten).flatten (s,g))):=by
 refine ret_loop C.length (fun k (t:LI×Int×Int)=>t.2.2=k∧t.1.length=n∧grow T vx (C.map fun c=>(pl adj c).flatten).flatten (s,g)=grow T vx ((C.drop k).map fun c=>(pl adj c).flatten).flatten (t.1,t.2.1)) ⟨rfl,hs,rfl⟩ ?_
 rintro k ⟨a,b,i⟩ hk ⟨hi,h1,h2⟩
 simp only at hi h1 h2
 subst hi
 unfold sparseref18_Grow_l10
 simp only
 by_cases hkl:k < C.length
 ·obtain ⟨c,hx⟩:∃ x,C[k]?=some x:=⟨C[k],by simp [hkl]⟩
  have hw:wa .i64 (k:Int) 1=((k+1:Nat):Int):=wa1 (by omega)
  obtain ⟨⟨r,p,c1,c2,c3,c4,c5⟩,q1,q2,q3⟩:=hP c (mem_get hx)
  have e0:getI C (k:Int)=some c:=hx
  have e1:=r13_ok hn hv T q1 q2 q3 (s:=a) (g:=b) h1
  rw [drop_at hx,List.map_cons,List.flatten_cons,grow_append] at h2
  rw [if_pos (by omega),bindS e0,bindS c1,bindS c3,bindS c5,bindS e1]
  cases hg:grow T vx (pl adj c).flatten (a,b) with
  | inl p=>
   rw [hg] at h2
   have:=grow_inl hg
   simp only
   rw [hw,ret_some,vq_l]
   exact ⟨hkl,rfl,by simpa [h1] using this,h2⟩
  | inr s'=>
   rw [hg] at h2
   simp only
   rw [ret_some,vq_r,h2]
   rfl
 rw [if_neg (by omega),ret_some,vq_r]
 rw [List.drop_eq_nil_of_le (by omega)] at h2
 rw [h2]; rfl
theorem ones_ok {n:Nat} (hn:n≤200):loop sparseref18_Grow_l1 (List.replicate n 0,0)=some (List.replicate n 1):=by
 refine Ret.eq ?_
 refine ret_loop n (fun k (t:LI×Int)=>t=(List.replicate k 1++List.replicate (n - k) 0,(k:Int))) (by simp) ?_
 rintro k _ hk rfl
 unfold sparseref18_Grow_l1
 simp only
 have hl:(List.replicate k (1:Int)++List.replicate (n - k) 0).length=n:=by simp; omega
 rw [hl]
 by_cases hkn:k < n
 ·have hw:wa .i64 (k:Int) 1=((k+1:Nat):Int):=wa1 (by omega)
  rw [if_pos (by omega),bindS (setI_lt (by omega)),hw,ret_some,vq_l]
  refine ⟨hkn,?_⟩
  congr 1
  rw [List.set_append_right _ _ (by simp),List.length_replicate,Nat.sub_self,show n - k=(n - (k+1))+1 by omega,List.replicate_succ,List.set_cons_zero,List.replicate_succ',List.append_assoc]
  rfl
 rw [if_neg (by omega),ret_some,vq_r,show k=n by omega]
 simp
theorem grown_ok {adj:L2} {vx:LI} {ed:L2} (h:Wt adj vx ed) (hn:adj.length≤30):∃ s,dissect_grown adj vx ed=some s∧sparseref18_Grow adj vx ed=some s∧s.length=adj.length∧S01 s:=by
 have hG:=h.gr
 have hvl:=h.vl
 obtain ⟨C,c1,c2⟩:=components_ok hG hn
 obtain ⟨C',r1,r2⟩:=rcomponents_ok hG hn
 obtain rfl:=CS.uniq hG c2 r2
 have hcl:=c2.len
 have hP:∀ c,c∈C→Part adj adj.length c:=fun c hc=>part_ok hG hn c2 hc
 have tot:=total_ok (vx:=vx) (n:=adj.length) (by omega) hvl h.vr adj ed
 have tot2:dissect_total vx=some (sm adj.length (vw vx)):=tot
 have hone:S01 (List.replicate adj.length 1):=fun x hx=>.inr (List.eq_of_mem_replicate hx)
 obtain ⟨o,o1,o2⟩:=g3_ok (by omega) hvl (sm adj.length (vw vx)) (by omega) hP (s:=List.replicate adj.length 1) (g:=0) (by simp)
 obtain ⟨o',o3,o4⟩:=r10_ok (by omega) hvl (sm adj.length (vw vx)) (by omega) hP (s:=List.replicate adj.length 1) (g:=0) (by simp)
 have hk:=grow_keeps (T:=sm adj.length (vw vx)) (vx:=vx) (l:=(C.map fun c=>(pl adj c).flatten).flatten) (st:=(List.replicate adj.length 1,0)) hone
 refine ⟨_,?_,?_,by rw [hk.1]; simp,hk.2⟩
 ·unfold dissect_grown
  rw [hvl,bindS (repeat_ok (by omega) 1),bindS tot2,bindS c1,bindS o1,← o2]
  cases o<;>rfl
 unfold sparseref18_Grow
 rw [hvl,bindS (mkL_nat 0 _ (by omega)),bindS (ones_ok (by omega)),bindS tot,bindS r1,bindS o3,← o4]
 cases o'<;>rfl
end Pd
/- DissectRefined: with few vertices the bisection is the grown one, refined. -/
namespace Pd
open Pl Sx Go M Vc
end Pd
/- The paper's check, matching and coarsening. -/
namespace Pd
open Pl Sx Go M Vc
theorem loop_simA {σ τ ρ ρ':Type} {step1:σ→Option (σ⊕ρ)} {step2:τ→Option (τ⊕ρ')} (R:σ→τ→Prop) (Q:ρ→ρ'→Prop) {s:σ} {t:τ} {o:ρ} (hR:R s t)
  (h:∀ s t r,R s t→step1 s=some r→∃ r',step2 t=some r'∧((∃ s' t',r=.inl s'∧r'=.inl t'∧R s' t')∨∃ o o',r=.inr o∧r'=.inr o'∧Q o o')) (ho:loop step1 s=some o):∃ o',loop step2 t=some o'∧Q o o':=by
 refine loop_sim R Q hR (fun s t hst=>⟨fun s' hs=>?_,fun o hs=>?_⟩) ho
 ·obtain ⟨r',h1,⟨a,b,h2,rfl,h3⟩ | ⟨a,b,h2,rfl,h3⟩⟩:=h s t _ hst hs
  ·cases h2; exact ⟨b,h1,h3⟩
  cases h2
 obtain ⟨r',h1,⟨a,b,h2,rfl,h3⟩ | ⟨a,b,h2,rfl,h3⟩⟩:=h s t _ hst hs
 ·cases h2
 cases h2; exact ⟨b,h1,h3⟩
theorem edge_ok {n:Nat} (hn:n≤200) {W:Nat→Nat→Int} {B:Int} (hT:Tw n W B) {v u:Nat} (hv:v < n) (hu:u < n) (hp:0 < W v u) (vx:LI):sparseref18_edge (cadj n W) vx (ced n W) (v:Int) (u:Int)=some (W v u):=by
 have hnl:=nbs_len (n:=n) (f:=W v)
 have hll:((nbs n (W v)).map Int.ofNat).length=(nbs n (W v)).length:=by simp
 have e1:getI (cadj n W) (v:Int)=some ((nbs n (W v)).map Int.ofNat):=cadj_get hv
 have e2:getI (ced n W) (v:Int)=some ((nbs n (W v)).map (W v)):=ced_get hv
 have hmem:u∈nbs n (W v):=nbs_mem.2 ⟨hu,hp⟩
 have h1:loop (sparseref18_edge_l1 (cadj n W) (v:Int) (u:Int) (ced n W)) 0=some (.inr (W v u)):=by
  refine Ret.eq ?_
  refine ret_loop (nbs n (W v)).length (fun k (t:Int)=>t=(k:Int)∧u∉(nbs n (W v)).take k) ⟨rfl,by simp⟩ ?_
  rintro k t hk ⟨rfl,hI⟩
  unfold sparseref18_edge_l1
  rw [bindS e1]
  by_cases hkl:k < (nbs n (W v)).length
  ·obtain ⟨x,hx⟩:∃ x,(nbs n (W v))[k]?=some x:=⟨(nbs n (W v))[k],by simp [hkl]⟩
   have e3:getI ((nbs n (W v)).map Int.ofNat) (k:Int)=some (x:Int):=by rw [getI_cast,List.getElem?_map,hx]; rfl
   have e4:getI ((nbs n (W v)).map (W v)) (k:Int)=some (W v x):=by rw [getI_cast,List.getElem?_map,hx]; rfl
   have hw:wa .i64 (k:Int) 1=((k+1:Nat):Int):=wa1 (by omega)
   rw [if_pos (by omega),bindS e1,bindS e3]
   by_cases hxu:x=u
   ·subst hxu
    rw [if_pos rfl,bindS e2,bindS e4,ret_some,vq_r]
   rw [if_neg (by omega),hw,ret_some,vq_l]
   refine ⟨hkl,rfl,?_⟩
   rw [tks hx,List.mem_append,List.mem_singleton]
   rintro (h | h)
   ·exact hI h
   exact hxu h.symm
  rw [take_all (by omega)] at hI
  exact absurd hmem hI
 unfold sparseref18_edge
 rw [bindS h1]
theorem rcheckW_ok {n:Nat} (hn:n≤200) {W:Nat→Nat→Int} {B:Int} (hT:Tw n W B) {vx:LI} (hW:Wt (cadj n W) vx (ced n W)):sparseref18_CheckWeighted (cadj n W) vx (ced n W)=some 0:=by
 have hvl:=hW.vl
 have hcl:(cadj n W).length=n:=cadj_len
 have hel:(ced n W).length=n:=ced_len
 rw [hcl] at hvl
 have h1:loop (sparseref18_CheckWeighted_l2 (cadj n W) (ced n W)) 0=some (.inl ()):=by
  refine Ret.eq ?_
  refine ret_loop n (fun k (t:Int)=>t=(k:Int)) rfl ?_
  rintro k _ hk rfl
  unfold sparseref18_CheckWeighted_l2
  by_cases hkn:k < n
  ·have e1:getI (cadj n W) (k:Int)=some ((nbs n (W k)).map Int.ofNat):=cadj_get hkn
   have e2:getI (ced n W) (k:Int)=some ((nbs n (W k)).map (W k)):=ced_get hkn
   have hw:wa .i64 (k:Int) 1=((k+1:Nat):Int):=wa1 (by omega)
   rw [if_pos (by omega),bindS e2,bindS e1,if_pos (by simp),hw,ret_some,vq_l]
   exact ⟨hkn,rfl⟩
  rw [if_neg (by omega),ret_some,vq_r]
 have h2:loop (sparseref18_CheckWeighted_l43 (cadj n W) vx (ced n W)) 0=some (.inl ()):=by
  refine Ret.eq ?_
  refine ret_loop n (fun k (t:Int)=>t=(k:Int)) rfl ?_
  rintro k _ hk rfl
  unfold sparseref18_CheckWeighted_l43
  by_cases hkn:k < n
  ·have e1:getI (cadj n W) (k:Int)=some ((nbs n (W k)).map Int.ofNat):=cadj_get hkn
   have e2:getI (ced n W) (k:Int)=some ((nbs n (W k)).map (W k)):=ced_get hkn
   have hw:wa .i64 (k:Int) 1=((k+1:Nat):Int):=wa1 (by omega)
   obtain ⟨y,hy⟩:∃ y,vx[k]?=some y:=⟨vx[k]'(by omega),by simp [show k < vx.length by omega]⟩
   have hyr:=hW.vr y (mem_get hy)
   have e3:getI vx (k:Int)=some y:=hy
   have hnl:=nbs_len (n:=n) (f:=W k)
   have hll:((nbs n (W k)).map (W k)).length=(nbs n (W k)).length:=by simp
   have inner:loop (sparseref18_CheckWeighted_l57 (ced n W) (k:Int) (cadj n W) vx) 0=some (.inl ()):=by
    refine Ret.eq ?_
    refine ret_loop (nbs n (W k)).length (fun j (t:Int)=>t=(j:Int)) rfl ?_
    rintro j _ hj rfl
    unfold sparseref18_CheckWeighted_l57
    rw [bindS e2]
    by_cases hjl:j < (nbs n (W k)).length
    ·obtain ⟨x,hx⟩:∃ x,(nbs n (W k))[j]?=some x:=⟨(nbs n (W k))[j],by simp [hjl]⟩
     obtain ⟨hxn,hxp⟩:=nbs_mem.1 (List.mem_of_getElem? hx)
     have e4:getI ((nbs n (W k)).map Int.ofNat) (j:Int)=some (x:Int):=by rw [getI_cast,List.getElem?_map,hx]; rfl
     have e5:getI ((nbs n (W k)).map (W k)) (j:Int)=some (W k x):=by rw [getI_cast,List.getElem?_map,hx]; rfl
     have hwj:wa .i64 (j:Int) 1=((j+1:Nat):Int):=wa1 (by omega)
     have hg:=hW.er _ (mem_get (ced_get hkn)) (W k x) (mem_get (l:=(nbs n (W k)).map (W k)) (k:=j) (by rw [List.getElem?_map,hx]; rfl))
     have e6:=edge_ok hn hT hxn hkn (by rw [hT.sym x k hxn hkn]; exact hxp) vx
     rw [hT.sym x k hxn hkn] at e6
     rw [if_pos (by omega),bindS e2,bindS e5,if_neg (by have:=hg.1; omega),bindS rfl,if_neg (by simp; exact hg.2),bindS e1,bindS e4,bindS e6,bindS rfl,if_neg (by simp),hwj,ret_some,vq_l]
     exact ⟨hjl,rfl⟩
    rw [if_neg (by omega),ret_some,vq_r]
   rw [if_pos (by omega),bindS e3,if_neg (by have:=hyr.1; omega),bindS e3,bindS rfl,if_neg (by simp; exact hyr.2),bindS inner]
   simp only
   rw [hw,ret_some,vq_l]
   exact ⟨hkn,rfl⟩
  rw [if_neg (by omega),ret_some,vq_r]
 unfold sparseref18_CheckWeighted
 rw [bindS (rCheck_ok hW.gr (by omega)),if_pos rfl,if_neg (by simp; omega),bindS h1]
 simp only
 rw [bindS h2]
theorem getI_nn {α:Type} {l:List α} {i:Int} {x:α} (h:getI l i=some x):0≤i∧i < l.length∧x∈l:=by
 cases i with
 | ofNat k=>
  have h':l[k]?=some x:=h
  have:=mem_get h'
  have:k < l.length:=(List.getElem?_eq_some_iff.1 h').1
  exact ⟨by simp,by simp; omega,mem_get h'⟩
 | negSucc k=>cases h
theorem setI_nn {α:Type} {l l':List α} {i:Int} {x:α} (h:setI l i x=some l'):0≤i∧i < l.length∧l'=l.set i.toNat x:=by
 cases i with
 | ofNat k=>
  have h':(if k < l.length then some (l.set k x) else none)=some l':=h
  split at h'
  ·obtain rfl:=sInj h'
   exact ⟨by simp,by simp; omega,rfl⟩
  cases h'
 | negSucc k=>cases h
theorem rmatch_ok {adj:L2} {vx:LI} {ed:L2} (h:Wt adj vx ed) (hn:adj.length≤200) (hr:sparseref18_CheckWeighted adj vx ed=some 0) {m:LI} (hm:dissect_match adj vx ed=some m):sparseref18_Match adj vx ed=some (m,0):=by
 have hvl:=h.vl
 have hel:=h.el
 unfold dissect_match at hm
 rw [hvl,bindS (repeat_ok (by omega) (-1))] at hm
 obtain ⟨m',hm1,hm2⟩:=bs hm
 obtain rfl:=sInj hm2
 have h0:loop (sparseref18_Match_l1 vx) ([],0)=some (List.replicate adj.length (-1)):=by
  refine Ret.eq ?_
  refine ret_loop adj.length (fun k (t:LI×Int)=>t=(List.replicate k (-1),(k:Int))) rfl ?_
  rintro k _ hk rfl
  unfold sparseref18_Match_l1
  simp only
  by_cases hkn:k < adj.length
  ·have hw:wa .i64 (k:Int) 1=((k+1:Nat):Int):=wa1 (by omega)
   have e:app (List.replicate k (-1:Int)) [-1]=some (List.replicate (k+1) (-1)):=by
    unfold app BIG
    rw [if_pos (by simp; omega),List.replicate_succ']
   rw [if_pos (by omega),bindS e,hw,ret_some,vq_l]
   exact ⟨hkn,rfl⟩
  rw [if_neg (by omega),ret_some,vq_r,show k=adj.length by omega]
 obtain ⟨o',q1,rfl⟩:=loop_simA (step1:=dissect_match_l45 adj ed) (step2:=sparseref18_Match_l46 vx ed adj) (fun s t=>t=s∧∀ x,x∈s.1→x= -1∨0≤x) (fun o o'=>o'=o) (s:=(List.replicate adj.length (-1),0)) (t:=(List.replicate adj.length (-1),0)) ⟨rfl,fun x hx=>.inl (List.eq_of_mem_replicate hx)⟩ (by
  rintro ⟨a,i⟩ t r ⟨rfl,hI⟩ hs
  unfold dissect_match_l45 dissect_match_j60 at hs
  unfold sparseref18_Match_l46 sparseref18_Match_j61
  simp only at hs hI ⊢
  by_cases hi:i < (adj.length:Int)
  ·rw [if_pos hi] at hs
   rw [if_pos (by omega)]
   obtain ⟨l,hl,hs⟩:=bs hs
   obtain ⟨x,hx,hs⟩:=bs hs
   rw [bindS hx]
   obtain ⟨i0,_,hlm⟩:=getI_nn hl
   have hxI:=hI x (getI_nn hx).2.2
   obtain ⟨e,he⟩:∃ e,ed[i.toNat]?=some e:=⟨ed[i.toNat]'(by omega),by simp [show i.toNat < ed.length by omega]⟩
   have hl':adj[i.toNat]?=some l:=by
    obtain ⟨j,rfl⟩:=Int.eq_ofNat_of_zero_le i0
    exact hl
   have hle:=h.rl i.toNat l e hl' he
   have he':getI ed i=some e:=getI_of i0 he
   by_cases hx1:x= -1
   ·rw [if_pos hx1] at hs
    rw [if_neg (by omega)]
    obtain ⟨b,hb,hs⟩:=bs hs
    obtain ⟨c,hc,hs⟩:=bs hs
    obtain ⟨d,hd,hs⟩:=bs hs
    obtain rfl:=sInj hs
    obtain ⟨b',k1,rfl⟩:=loop_simA (step1:=dissect_match_l65 l a ed i) (step2:=sparseref18_Match_l66 ed i adj a) (fun s t=>t=s) (fun o o'=>o'=o) (s:=(i,0,0)) (t:=(i,0,0)) rfl (by
     rintro ⟨b,w,j⟩ t r rfl hs
     unfold dissect_match_l65 dissect_match_j67 at hs
     unfold sparseref18_Match_l66 sparseref18_Match_j68
     simp only at hs ⊢
     rw [bindS he']
     by_cases hj:j < (l.length:Int)
     ·rw [if_pos hj] at hs
      rw [if_pos (by omega),bindS hl]
      obtain ⟨u,hu,hs⟩:=bs hs
      obtain ⟨y,hy,hs⟩:=bs hs
      rw [bindS hu,bindS hy]
      have hyI:=hI y (getI_nn hy).2.2
      by_cases hy1:y= -1
      ·rw [if_pos hy1] at hs
       rw [if_pos (by omega)]
       rw [bindS he'] at hs ⊢
       obtain ⟨g,hg,hs⟩:=bs hs
       obtain ⟨z,hz,hg⟩:=bs hg
       obtain rfl:=sInj hg
       rw [bindS hz,bindS rfl]
       by_cases hwz:w < z
       ·rw [if_pos (by simpa using hwz)] at hs ⊢
        rw [bindS he',bindS hz] at hs ⊢
        obtain rfl:=sInj hs
        exact ⟨_,rfl,.inl ⟨_,_,rfl,rfl,rfl⟩⟩
       rw [if_neg (by simpa using hwz)] at hs ⊢
       obtain rfl:=sInj hs
       exact ⟨_,rfl,.inl ⟨_,_,rfl,rfl,rfl⟩⟩
      rw [if_neg hy1,bindS rfl,if_neg (by simp)] at hs
      rw [if_neg (by omega),bindS rfl,if_neg (by simp)]
      obtain rfl:=sInj hs
      exact ⟨_,rfl,.inl ⟨_,_,rfl,rfl,rfl⟩⟩
     rw [if_neg hj] at hs
     rw [if_neg (by omega)]
     obtain rfl:=sInj hs
     exact ⟨_,rfl,.inr ⟨_,_,rfl,rfl,rfl⟩⟩) hb
    rw [bindS k1,bindS hc,bindS hd]
    refine ⟨_,rfl,.inl ⟨_,_,rfl,rfl,rfl,?_⟩⟩
    intro y hy
    obtain ⟨d1,d2,rfl⟩:=setI_nn hd
    obtain ⟨c1,c2,rfl⟩:=setI_nn hc
    rcases List.mem_or_eq_of_mem_set hy with hy | rfl
    ·rcases List.mem_or_eq_of_mem_set hy with hy | rfl
     ·exact hI y hy
     exact .inr d1
    exact .inr i0
   rw [if_neg hx1] at hs
   rw [if_pos (by omega)]
   obtain rfl:=sInj hs
   exact ⟨_,rfl,.inl ⟨_,_,rfl,rfl,rfl,hI⟩⟩
  rw [if_neg hi] at hs
  rw [if_neg (by omega)]
  obtain rfl:=sInj hs
  exact ⟨_,rfl,.inr ⟨_,_,rfl,rfl,rfl⟩⟩) hm1
 unfold sparseref18_Match
 rw [bindS hr,if_pos rfl,bindS h0,bindS q1]
end Pd
/- The paper's coarsening. -/
namespace Pd
open Pl Sx Go M Vc
theorem rmates_true {n:Nat} {m vx:LI} (h:Ml n m) (hn:n≤200) (hv:vx.length=n):loop (sparseref18_Coarsen_l5 vx m) 0=some (.inl ()):=by
 have hml:=h.len
 refine Ret.eq ?_
 refine ret_loop m.length (fun k (t:Int)=>t=(k:Int)) rfl ?_
 rintro k _ hk rfl
 unfold sparseref18_Coarsen_l5
 by_cases hkn:k < m.length
 ·obtain ⟨u,hu⟩:∃ u,m[k]?=some u:=⟨m[k],by simp [hkn]⟩
  obtain ⟨g1,g2⟩:=h.mate k u hu
  have e1:getI m (k:Int)=some u:=hu
  have e2:getI m u=some (k:Int):=getI_of g1.1 g2
  have hw:wa .i64 (k:Int) 1=((k+1:Nat):Int):=wa1 (by omega)
  rw [if_pos (by omega),bindS e1,if_neg (by omega),bindS e1,bindS rfl,if_neg (by simp; omega),bindS e1,bindS e2,bindS rfl,if_neg (by simp),hw,ret_some,vq_l]
  exact ⟨hkn,rfl⟩
 rw [if_neg (by omega),ret_some,vq_r]
theorem rmerge {m vx vs to z:LI} (hl:m.length=vx.length) (h:loop (dissect_coarsen_l3 m vx) ([],z,0)=some (vs,to)):loop (sparseref18_Coarsen_l8 vx m) (z,[],0)=some (to,vs):=by
 obtain ⟨o',q1,rfl⟩:=loop_simA (step1:=dissect_coarsen_l3 m vx) (step2:=sparseref18_Coarsen_l8 vx m) (fun s t=>t=(s.2.1,s.1,s.2.2)) (fun o o'=>o'=(o.2,o.1)) (s:=([],z,0)) (t:=(z,[],0)) rfl (by
  rintro ⟨a,b,i⟩ t r rfl hs
  unfold dissect_coarsen_l3 dissect_coarsen_j50 at hs
  unfold sparseref18_Coarsen_l8 sparseref18_Coarsen_j54
  simp only at hs ⊢
  by_cases hi:i < (m.length:Int)
  ·rw [if_pos hi] at hs
   rw [if_pos (by omega)]
   obtain ⟨x,hx,hs⟩:=bs hs
   rw [bindS hx]
   by_cases hxi:x < i
   ·rw [if_pos hxi] at hs ⊢
    obtain ⟨c,hc,hs⟩:=bs hs
    obtain ⟨d,hd,hs⟩:=bs hs
    obtain ⟨e,he,hs⟩:=bs hs
    obtain ⟨f,hf,hs⟩:=bs hs
    obtain ⟨g,hg,hs⟩:=bs hs
    obtain ⟨k,hk,hs⟩:=bs hs
    obtain rfl:=sInj hs
    rw [bindS hx,bindS hc,bindS hd,bindS he,bindS he,bindS hf,bindS hg,bindS hk]
    exact ⟨_,rfl,.inl ⟨_,_,rfl,rfl,rfl⟩⟩
   rw [if_neg hxi] at hs ⊢
   obtain ⟨d,hd,hs⟩:=bs hs
   obtain ⟨g,hg,hs⟩:=bs hs
   obtain ⟨k,hk,hs⟩:=bs hs
   obtain rfl:=sInj hs
   rw [bindS hd,bindS hg,bindS hk]
   exact ⟨_,rfl,.inl ⟨_,_,rfl,rfl,rfl⟩⟩
  rw [if_neg hi] at hs
  rw [if_neg (by omega)]
  obtain rfl:=sInj hs
  exact ⟨_,rfl,.inr ⟨_,_,rfl,rfl,rfl⟩⟩) h
 exact q1
theorem rzeros {vs:LI} {X:L2} (h:loop (dissect_coarsen_l4 (List.replicate vs.length []) vs) (List.replicate vs.length [],0)=some X):loop (sparseref18_Coarsen_l9 vs) (List.replicate vs.length [],0)=some X:=by
 have e:dissect_coarsen_l4 (List.replicate vs.length []) vs=sparseref18_Coarsen_l9 vs:=by
  funext ⟨a,i⟩
  unfold dissect_coarsen_l4 sparseref18_Coarsen_l9
  rw [List.length_replicate]
 rw [← e]; exact h
theorem rtable {n:Nat} {W:Nat→Nat→Int} {vx to:LI} (hv:vx.length=n) {X Y:L2} (h:loop (dissect_coarsen_l7 (cadj n W) to (ced n W)) (X,0)=some Y):loop (sparseref18_Coarsen_l12 vx (ced n W) to (cadj n W)) (X,0)=some Y:=by
 have hcl:(cadj n W).length=n:=cadj_len
 obtain ⟨o',q1,rfl⟩:=loop_simA (step1:=dissect_coarsen_l7 (cadj n W) to (ced n W)) (step2:=sparseref18_Coarsen_l12 vx (ced n W) to (cadj n W)) (fun s t=>t=s) (fun o o'=>o'=o) (s:=(X,0)) (t:=(X,0)) rfl (by
  rintro ⟨a,i⟩ t r rfl hs
  unfold dissect_coarsen_l7 at hs
  unfold sparseref18_Coarsen_l12
  simp only at hs ⊢
  by_cases hi:i < ((cadj n W).length:Int)
  ·rw [if_pos hi] at hs
   rw [if_pos (by omega)]
   obtain ⟨l,hl,hs⟩:=bs hs
   obtain ⟨b,hb,hs⟩:=bs hs
   obtain rfl:=sInj hs
   obtain ⟨i0,i1,_⟩:=getI_nn hl
   obtain ⟨j,rfl⟩:=Int.eq_ofNat_of_zero_le i0
   have hj:j < n:=by omega
   have e1:getI (cadj n W) (j:Int)=some ((nbs n (W j)).map Int.ofNat):=cadj_get hj
   have e2:getI (ced n W) (j:Int)=some ((nbs n (W j)).map (W j)):=ced_get hj
   rw [e1] at hl
   obtain rfl:=sInj hl
   have hll:((nbs n (W j)).map Int.ofNat).length=((nbs n (W j)).map (W j)).length:=by simp
   obtain ⟨b',k1,rfl⟩:=loop_simA (step1:=dissect_coarsen_l49 ((nbs n (W j)).map Int.ofNat) to (j:Int) (ced n W)) (step2:=sparseref18_Coarsen_l53 (ced n W) (j:Int) to (cadj n W)) (fun s t=>t=s) (fun o o'=>o'=o) (s:=(a,0)) (t:=(a,0)) rfl (by
    rintro ⟨c,k⟩ t r rfl hs
    unfold dissect_coarsen_l49 at hs
    unfold sparseref18_Coarsen_l53
    simp only at hs ⊢
    rw [bindS e2]
    by_cases hk:k < (((nbs n (W j)).map Int.ofNat).length:Int)
    ·rw [if_pos hk] at hs
     rw [if_pos (by omega)]
     obtain ⟨u,hu,hs⟩:=bs hs
     obtain ⟨p,hp,hs⟩:=bs hs
     obtain ⟨q,hq,hs⟩:=bs hs
     obtain ⟨r1,hr1,hs⟩:=bs hs
     obtain ⟨r2,hr2,hs⟩:=bs hs
     rw [bindS e2] at hs
     obtain ⟨r3,hr3,hs⟩:=bs hs
     obtain ⟨r4,hr4,hs⟩:=bs hs
     obtain ⟨r5,hr5,hs⟩:=bs hs
     obtain rfl:=sInj hs
     rw [bindS hp,bindS e1,bindS hu,bindS hr1,bindS hq,bindS hq,bindS hr2,bindS e2,bindS hr3,bindS hr4,bindS hr5]
     exact ⟨_,rfl,.inl ⟨_,_,rfl,rfl,rfl⟩⟩
    rw [if_neg hk] at hs
    rw [if_neg (by omega)]
    obtain rfl:=sInj hs
    exact ⟨_,rfl,.inr ⟨_,_,rfl,rfl,rfl⟩⟩) hb
   rw [bindS k1]
   exact ⟨_,rfl,.inl ⟨_,_,rfl,rfl,rfl⟩⟩
  rw [if_neg hi] at hs
  rw [if_neg (by omega)]
  obtain rfl:=sInj hs
  exact ⟨_,rfl,.inr ⟨_,_,rfl,rfl,rfl⟩⟩) h
 exact q1
theorem rrow {K:Nat} (hK:K≤200) {vs:LI} (hv:vs.length=K) {X:L2} {f:Nat→Nat→Int} (hX:Tv X K f) (hf:∀ a b,a < K→b < K→0≤f a b) {a:Nat} (ha:a < K):
  Ret (loop (sparseref18_Coarsen_l48 vs (a:Int) X) ([],[],0)) (fun o=>(o=.inl ((nbs K (cw f a)).map Int.ofNat,(nbs K (cw f a)).map (cw f a))∧∀ b,b < K→cw f a b≤1099511627776)∨(o=.inr ()∧¬ ∀ b,b < K→cw f a b≤1099511627776)):=by
 obtain ⟨r,r1,r2,r3⟩:=hX.2 a ha
 have e1:getI X (a:Int)=some r:=r1
 refine ret_loop K (fun k (t:LI×LI×Int)=>t=((nbs k (cw f a)).map Int.ofNat,(nbs k (cw f a)).map (cw f a),(k:Int))∧∀ b,b < k→cw f a b≤1099511627776) ⟨rfl,fun b hb=>by omega⟩ ?_
 rintro k _ hk ⟨rfl,hI⟩
 unfold sparseref18_Coarsen_l48 sparseref18_Coarsen_j51
 simp only
 by_cases hkn:k < K
 ·have hw:wa .i64 (k:Int) 1=((k+1:Nat):Int):=wa1 (by omega)
  have e2:getI r (k:Int)=some (f a k):=r3 k hkn
  have hfk:=hf a k ha hkn
  have hnl:=nbs_len (n:=k) (f:=cw f a)
  rw [if_pos (by omega)]
  by_cases hak:a=k
  ·have hz:cw f a k=0:=by unfold cw; rw [if_pos hak]
   rw [if_pos (by omega),bindS rfl,if_pos rfl,hw,ret_some,vq_l,nbs_succ,if_neg (by omega)]
   refine ⟨hkn,rfl,fun b hb=>?_⟩
   by_cases hbk:b < k
   ·exact hI b hbk
   have:b=k:=by omega
   subst this; omega
  have hz:cw f a k=f a k:=by unfold cw; rw [if_neg hak]
  rw [if_neg (by omega),bindS e1,bindS e2,bindS rfl]
  by_cases h0:f a k=0
  ·rw [if_pos (by simpa using h0),hw,ret_some,vq_l,nbs_succ,if_neg (by omega)]
   refine ⟨hkn,rfl,fun b hb=>?_⟩
   by_cases hbk:b < k
   ·exact hI b hbk
   have:b=k:=by omega
   subst this; omega
  rw [if_neg (by simpa using h0),bindS e1,bindS e2]
  by_cases hb:(1099511627776:Int) < f a k
  ·rw [if_pos hb,ret_some,vq_r]
   exact .inr ⟨rfl,fun h=>by have:=h k hkn; omega⟩
  have a1:app ((nbs k (cw f a)).map Int.ofNat) [(k:Int)]=some ((nbs (k+1) (cw f a)).map Int.ofNat):=by
   unfold app BIG
   rw [if_pos (by simp; omega),nbs_succ,if_pos (by omega),List.map_append]; rfl
  have a2:app ((nbs k (cw f a)).map (cw f a)) [f a k]=some ((nbs (k+1) (cw f a)).map (cw f a)):=by
   unfold app BIG
   rw [if_pos (by simp; omega),nbs_succ,if_pos (by omega),List.map_append,← hz]; rfl
  rw [if_neg hb,bindS a1,bindS e1,bindS e2,bindS a2,hw,ret_some,vq_l]
  refine ⟨hkn,rfl,fun b hb=>?_⟩
  by_cases hbk:b < k
  ·exact hI b hbk
  have:b=k:=by omega
  subst this; omega
 have:k=K:=by omega
 subst this
 rw [if_neg (by omega),ret_some,vq_r]
 exact .inl ⟨rfl,hI⟩
theorem rrows {K:Nat} (hK:K≤200) {vs:LI} (hv:vs.length=K) {X:L2} {f:Nat→Nat→Int} (hX:Tv X K f) (hf:∀ a b,a < K→b < K→0≤f a b):
  Ret (loop (sparseref18_Coarsen_l39 vs X) ([],[],0)) (fun o=>(o=.inl (cadj K (cw f),ced K (cw f))∧OkE K (cw f)∧∀ x,x∈vs→x≤1099511627776)∨(o=.inr ()∧¬ (OkE K (cw f)∧∀ x,x∈vs→x≤1099511627776))):=by
 refine ret_loop K (fun k (t:L2×L2×Int)=>t=((List.range k).map (fun v=>(nbs K (cw f v)).map Int.ofNat),(List.range k).map (fun v=>(nbs K (cw f v)).map (cw f v)),(k:Int))∧(∀ a b,a < k→b < K→cw f a b≤1099511627776)∧∀ x,x∈vs.take k→x≤1099511627776) ⟨rfl,fun a b ha=>by omega,by simp⟩ ?_
 rintro k _ hk ⟨rfl,hI,hJ⟩
 unfold sparseref18_Coarsen_l39
 simp only
 by_cases hkn:k < K
 ·have hw:wa .i64 (k:Int) 1=((k+1:Nat):Int):=wa1 (by omega)
  obtain ⟨y,hy⟩:∃ y,vs[k]?=some y:=⟨vs[k]'(by omega),by simp [show k < vs.length by omega]⟩
  have e1:getI vs (k:Int)=some y:=hy
  rw [if_pos (by omega),bindS e1]
  by_cases hyb:(1099511627776:Int) < y
  ·rw [if_pos hyb,ret_some,vq_r]
   exact .inr ⟨rfl,fun h=>by have:=h.2 y (mem_get hy); omega⟩
  rw [if_neg hyb]
  obtain ⟨o,o1,o2⟩:=rrow hK hv hX hf hkn
  rw [bindS o1]
  rcases o2 with ⟨rfl,h⟩ | ⟨rfl,h⟩
  ·simp only
   have a1:app ((List.range k).map (fun v=>(nbs K (cw f v)).map Int.ofNat)) [(nbs K (cw f k)).map Int.ofNat]=some ((List.range (k+1)).map (fun v=>(nbs K (cw f v)).map Int.ofNat)):=by
    unfold app BIG
    rw [if_pos (by simp; omega),List.range_succ,List.map_append]; rfl
   have a2:app ((List.range k).map (fun v=>(nbs K (cw f v)).map (cw f v))) [(nbs K (cw f k)).map (cw f k)]=some ((List.range (k+1)).map (fun v=>(nbs K (cw f v)).map (cw f v))):=by
    unfold app BIG
    rw [if_pos (by simp; omega),List.range_succ,List.map_append]; rfl
   rw [bindS a1,bindS a2,hw,ret_some,vq_l]
   refine ⟨hkn,rfl,fun a b ha hb=>?_,fun x hx=>?_⟩
   ·by_cases hak:a < k
    ·exact hI a b hak hb
    have:a=k:=by omega
    subst this; exact h b hb
   rw [tks hy,List.mem_append,List.mem_singleton] at hx
   rcases hx with hx | rfl
   ·exact hJ x hx
   omega
  simp only
  rw [ret_some,vq_r]
  exact .inr ⟨rfl,fun h2=>h fun b hb=>h2.1 k b hkn hb⟩
 have:k=K:=by omega
 subst this
 rw [if_neg (by omega),ret_some,vq_r]
 rw [take_all (by omega)] at hJ
 exact .inl ⟨rfl,hI,hJ⟩
open Classical in
theorem coarsen2_ok {n:Nat} (hn:n≤200) {W:Nat→Nat→Int} {B:Int} (hT:Tw n W B) (hB:0≤B∧B≤1099511627776) {vx m:LI} (hv:vx.length=n) (hvx:∀ x,x∈vx→Wg x) (hM:Ml n m) (hr:sparseref18_CheckWeighted (cadj n W) vx (ced n W)=some 0):
  ∃ vs to,Co n W vx vs to B∧(∀ x,x∈vs→1≤x)∧dissect_coarsen (cadj n W) vx (ced n W) m=some (if OkE vs.length (cw (tabS n W to n))∧(∀ x,x∈vs→Wg x) then (cadj vs.length (cw (tabS n W to n)),vs,ced vs.length (cw (tabS n W to n)),to,true) else ([],[],[],[],false))
   ∧sparseref18_Coarsen (cadj n W) vx (ced n W) m=some (if OkE vs.length (cw (tabS n W to n))∧(∀ x,x∈vs→Wg x) then (cadj vs.length (cw (tabS n W to n)),vs,ced vs.length (cw (tabS n W to n)),to,0) else ([],[],[],[],3)):=by
 have hml:=hM.len
 obtain ⟨⟨vs,to⟩,g1,hg⟩:=merge_ok hM hn hv hvx
 simp only at hg
 have hvl:=hg.vl
 obtain ⟨X,x1,x2⟩:=zeros_ok (K:=vs.length) (by omega) (vs:=vs) rfl
 obtain ⟨Y,y1,y2,y3⟩:=table_ok hn hT hB (K:=vs.length) hg.tr x2
 obtain ⟨o,o1,o2⟩:=build_rows (K:=vs.length) (by omega) y2
 obtain ⟨p,p1,p2⟩:=rrows (K:=vs.length) (by omega) rfl y2 (fun a b _ _=>(y3 a b).1)
 have hvw:∀ v,v < n→1≤vw vx v:=by
  intro v hvn
  obtain ⟨x,hx⟩:∃ x,vx[v]?=some x:=⟨vx[v]'(by omega),by simp [show v < vx.length by omega]⟩
  rw [vw_get hx]
  exact (hvx x (mem_get hx)).1
 have hpos:∀ x,x∈vs→1≤x:=by
  intro x hx
  obtain ⟨a,ha,rfl⟩:=List.getElem_of_mem hx
  have h1:=hg.ws a ha
  rw [gEq ha] at h1
  rw [sInj h1]
  obtain ⟨v,v1,v2⟩:=hg.sj a ha
  have nn:∀ i,i < n→0≤(if tt to i=a then vw vx i else 0):=by
   intro i hi
   have:=hvw i hi
   split<;>omega
  have p1:=sm_pos nn v1
  simp only [if_pos v2] at p1
  have:=hvw v v1
  omega
 have hwg:(∀ x,x∈vs→Wg x)↔∀ x,x∈vs→x≤1099511627776:=⟨fun h x hx=>(h x hx).2,fun h x hx=>⟨hpos x hx,h x hx⟩⟩
 refine ⟨vs,to,⟨hg,y3⟩,hpos,?_,?_⟩
 ·unfold dissect_coarsen
  rw [hml,bindS (mkL_nat 0 n (by omega)),bindS g1]
  simp only
  rw [bindS (mkL_nat ([]:LI) vs.length (by omega)),bindS x1,bindS y1,bindS (mkL_nat ([]:LI) vs.length (by omega)),bindS (mkL_nat ([]:LI) vs.length (by omega)),bindS o1]
  obtain ⟨b,b1,b2⟩:=weights_ok (l:=vs) (by omega)
  rcases o2 with ⟨rfl,h⟩ | ⟨rfl,h⟩
  ·simp only
   rw [bindS b1]
   cases b with
   | true=>rw [if_pos rfl,if_pos ⟨h,b2.1 rfl⟩]
   | false=>
    rw [if_neg (by simp),if_neg]
    intro hh
    have:=b2.2 hh.2
    cases this
  simp only
  rw [if_neg (fun hh=>h hh.1)]
 unfold sparseref18_Coarsen
 rw [bindS hr,if_pos rfl,if_pos (by omega),bindS (rmates_true hM hn hv)]
 simp only
 rw [hv,bindS (mkL_nat 0 n (by omega)),bindS (rmerge (by omega) g1)]
 simp only
 rw [bindS (mkL_nat ([]:LI) vs.length (by omega)),bindS (rzeros x1),bindS (rtable hv y1),bindS p1]
 rcases p2 with ⟨rfl,h⟩ | ⟨rfl,h⟩
 ·simp only
  rw [if_pos ⟨h.1,hwg.2 h.2⟩]
 simp only
 rw [if_neg (fun hh=>h ⟨hh.1,hwg.1 hh.2⟩)]
end Pd
/- The paper's refining. -/
namespace Pd
open Pl Sx Go M Vc
def wt (n:Nat) (vx:LI) (s:Nat→Int) (i:Int):Int:=sm n fun v=>if s v=i then vw vx v else 0
structure Vw (n:Nat) (vx:LI):Prop where
 len:vx.length=n
 wg:∀ x,x∈vx→Wg x
theorem Vw.get {n:Nat} {vx:LI} (h:Vw n vx) {v:Nat} (hv:v < n):vx[v]?=some (vw vx v)∧1≤vw vx v∧vw vx v≤1099511627776:=by
 have hl:=h.len
 obtain ⟨x,hx⟩:∃ x,vx[v]?=some x:=⟨vx[v]'(by omega),by simp [show v < vx.length by omega]⟩
 have:=h.wg x (mem_get hx)
 rw [vw_get hx]
 exact ⟨hx,this.1,this.2⟩
theorem wt_bound {n:Nat} {vx:LI} (h:Vw n vx) {k:Nat} (hk:k≤n) (s:Nat→Int) (i:Int):0≤wt k vx s i∧wt k vx s i≤k*1099511627776:=by
 refine ⟨sm_nonneg fun v hv=>?_,sm_bound fun v hv=>?_⟩
 ·have:=h.get (v:=v) (by omega); split<;>omega
 have:=h.get (v:=v) (by omega)
 show (if s v=i then vw vx v else 0)≤_
 split<;>omega
theorem wt_sum {n:Nat} {vx:LI} {s:Nat→Int} (h01:∀ v,v < n→s v=0∨s v=1):wt n vx s 0+wt n vx s 1=sm n (vw vx):=by
 unfold wt
 rw [← sm_add]
 refine sm_congr fun v hv=>?_
 rcases h01 v hv with h | h
 ·rw [if_pos h,if_neg (by omega)]; omega
 rw [if_neg (by omega),if_pos h]; omega
theorem wt_flip {n:Nat} {vx:LI} {s:Nat→Int} {x:Nat} (hx:x < n) (h01:s x=0∨s x=1):
  wt n vx (fun v=>if v=x then 1 - s x else s v) (1 - s x)=wt n vx s (1 - s x)+vw vx x∧wt n vx (fun v=>if v=x then 1 - s x else s v) (s x)=wt n vx s (s x) - vw vx x:=by
 constructor
 ·rw [← sm_one (x:=vw vx x) hx]
  unfold wt
  rw [← sm_add]
  refine sm_congr fun v hv=>?_
  show (if (if v=x then 1 - s x else s v)=1 - s x then vw vx v else 0)=(if s v=1 - s x then vw vx v else 0)+(if x=v then vw vx x else 0)
  by_cases h:v=x
  ·subst h
   rw [if_pos rfl,if_pos rfl,if_pos rfl,if_neg (by omega)]; omega
  rw [if_neg h,if_neg (show ¬ x=v from fun e=>h e.symm)]; omega
 have:wt n vx (fun v=>if v=x then 1 - s x else s v) (s x)+vw vx x=wt n vx s (s x):=by
  rw [← sm_one (x:=vw vx x) hx]
  unfold wt
  rw [← sm_add]
  refine sm_congr fun v hv=>?_
  show (if (if v=x then 1 - s x else s v)=s x then vw vx v else 0)+(if x=v then vw vx x else 0)=(if s v=s x then vw vx v else 0)
  by_cases h:v=x
  ·subst h
   rw [if_pos rfl,if_pos rfl,if_pos rfl,if_neg (by omega)]; omega
  rw [if_neg h,if_neg (show ¬ x=v from fun e=>h e.symm)]; omega
 omega
theorem sd_at {n:Nat} {side:LI} (hs:side.length=n) {v:Nat} (hv:v < n):side[v]?=some (sd side v):=by
 obtain ⟨x,hx⟩:∃ x,side[v]?=some x:=⟨side[v]'(by omega),by simp [show v < side.length by omega]⟩
 rw [sd_get hx]; exact hx
theorem sd01 {n:Nat} {side:LI} (hs:side.length=n) (h01:S01 side):∀ v,v < n→sd side v=0∨sd side v=1:=fun v hv=>h01 _ (mem_get (sd_at hs hv))
theorem sd_set {side:LI} {k:Nat} (hk:k < side.length):sd (side.set k (1 - sd side k))=fun v=>if v=k then 1 - sd side k else sd side v:=by
 funext v
 show ((side.set k (1 - sd side k))[v]?).getD 0=_
 rw [List.getElem?_set]
 by_cases hvk:k=v
 ·rw [if_pos hvk,if_pos hvk.symm,if_pos hk]; rfl
 rw [if_neg hvk,if_neg (fun e=>hvk e.symm)]; rfl
theorem size2_ok {n:Nat} (hn:n≤200) {side vx:LI} (hs:side.length=n) (h01:S01 side) (hv:Vw n vx):loop (dissect_refine_l1 side vx) ([0,0],0)=some [wt n vx (sd side) 0,wt n vx (sd side) 1]:=by
 refine Ret.eq ?_
 refine ret_loop n (fun k (t:LI×Int)=>t=([wt k vx (sd side) 0,wt k vx (sd side) 1],(k:Int))) rfl ?_
 rintro k _ hk rfl
 unfold dissect_refine_l1
 simp only
 by_cases hkn:k < n
 ·have hw:wa .i64 (k:Int) 1=((k+1:Nat):Int):=wa1 (by omega)
  have e1:getI side (k:Int)=some (sd side k):=sd_at hs hkn
  obtain ⟨g1,g2,g3⟩:=hv.get hkn
  have e2:getI vx (k:Int)=some (vw vx k):=g1
  have b0:=wt_bound hv hk (sd side) 0
  have b1:=wt_bound hv hk (sd side) 1
  have hk2:(k:Int)*1099511627776≤200*1099511627776:=by omega
  have u0:wt (k+1) vx (sd side) 0=wt k vx (sd side) 0+(if sd side k=0 then vw vx k else 0):=rfl
  have u1:wt (k+1) vx (sd side) 1=wt k vx (sd side) 1+(if sd side k=1 then vw vx k else 0):=rfl
  rw [if_pos (by omega),bindS e1]
  rcases sd01 hs h01 k hkn with h | h
  ·have a0:wa .i64 (wt k vx (sd side) 0) (vw vx k)=wt (k+1) vx (sd side) 0:=by rw [wa_in (by constructor<;>omega),u0,if_pos h]
   have a1:wt (k+1) vx (sd side) 1=wt k vx (sd side) 1:=by rw [u1,if_neg (by omega)]; omega
   rw [h,bindS (show getI [wt k vx (sd side) 0,wt k vx (sd side) 1] 0=some _ by rfl),bindS e2,bindS (show setI [wt k vx (sd side) 0,wt k vx (sd side) 1] 0 _=some [_,wt k vx (sd side) 1] by rfl),a0,hw,ret_some,vq_l,a1]
   exact ⟨hkn,rfl⟩
  have a0:wa .i64 (wt k vx (sd side) 1) (vw vx k)=wt (k+1) vx (sd side) 1:=by rw [wa_in (by constructor<;>omega),u1,if_pos h]
  have a1:wt (k+1) vx (sd side) 0=wt k vx (sd side) 0:=by rw [u0,if_neg (by omega)]; omega
  rw [h,bindS (show getI [wt k vx (sd side) 0,wt k vx (sd side) 1] 1=some _ by rfl),bindS e2,bindS (show setI [wt k vx (sd side) 0,wt k vx (sd side) 1] 1 _=some [wt k vx (sd side) 0,_] by rfl),a0,hw,ret_some,vq_l,a1]
  exact ⟨hkn,rfl⟩
 have:k=n:=by omega
 subst this
 rw [if_neg (by omega),ret_some,vq_r]
theorem weightOf_ok {n:Nat} (hn:n≤200) {side vx:LI} (hs:side.length=n) (hv:Vw n vx) (i:Int) (a e:L2):sparseref18_weightOf a vx e side i=some (wt n vx (sd side) i):=by
 have h1:loop (sparseref18_weightOf_l3 side i vx) (0,0)=some (wt n vx (sd side) i):=by
  refine Ret.eq ?_
  refine ret_loop n (fun k (t:Int×Int)=>t=(wt k vx (sd side) i,(k:Int))) rfl ?_
  rintro k _ hk rfl
  unfold sparseref18_weightOf_l3 sparseref18_weightOf_j4
  simp only
  by_cases hkn:k < n
  ·have hw:wa .i64 (k:Int) 1=((k+1:Nat):Int):=wa1 (by omega)
   have e1:getI side (k:Int)=some (sd side k):=sd_at hs hkn
   obtain ⟨g1,g2,g3⟩:=hv.get hkn
   have e2:getI vx (k:Int)=some (vw vx k):=g1
   have b0:=wt_bound hv hk (sd side) i
   have hk2:(k:Int)*1099511627776≤200*1099511627776:=by omega
   have u0:wt (k+1) vx (sd side) i=wt k vx (sd side) i+(if sd side k=i then vw vx k else 0):=rfl
   rw [if_pos (by omega),bindS e1]
   by_cases h:sd side k=i
   ·rw [if_pos h,bindS e2,wa_in (by constructor<;>omega),hw,ret_some,vq_l,u0,if_pos h]
    exact ⟨hkn,rfl⟩
   rw [if_neg h,hw,ret_some,vq_l,u0,if_neg h]
   exact ⟨hkn,by simp⟩
  have:k=n:=by omega
  subst this
  rw [if_neg (by omega),ret_some,vq_r]
 unfold sparseref18_weightOf
 rw [bindS h1]
theorem rgain_row {n:Nat} {W:Nat→Nat→Int} {side:LI} (hs:side.length=n) {v:Nat} (hv:v < n) {g:Int} (h:loop (dissect_refine_l72 ((nbs n (W v)).map Int.ofNat) side (sd side v) (ced n W) (v:Int)) (0,0)=some g):loop (sparseref18_Refine_l400 (ced n W) (v:Int) (cadj n W) side) (0,0)=some g:=by
 have e1:getI (cadj n W) (v:Int)=some ((nbs n (W v)).map Int.ofNat):=cadj_get hv
 have e2:getI (ced n W) (v:Int)=some ((nbs n (W v)).map (W v)):=ced_get hv
 have e3:getI side (v:Int)=some (sd side v):=sd_at hs hv
 have hll:((nbs n (W v)).map Int.ofNat).length=((nbs n (W v)).map (W v)).length:=by simp
 obtain ⟨b',k1,rfl⟩:=loop_simA (step1:=dissect_refine_l72 ((nbs n (W v)).map Int.ofNat) side (sd side v) (ced n W) (v:Int)) (step2:=sparseref18_Refine_l400 (ced n W) (v:Int) (cadj n W) side) (fun s t=>t=s) (fun o o'=>o'=o) (s:=(0,0)) (t:=(0,0)) rfl (by
  rintro ⟨c,k⟩ t r rfl hs
  unfold dissect_refine_l72 dissect_refine_j77 at hs
  unfold sparseref18_Refine_l400 sparseref18_Refine_j404
  simp only at hs ⊢
  rw [bindS e2]
  by_cases hk:k < (((nbs n (W v)).map Int.ofNat).length:Int)
  ·rw [if_pos hk] at hs
   rw [if_pos (by omega)]
   obtain ⟨u,hu,hs⟩:=bs hs
   obtain ⟨p,hp,hs⟩:=bs hs
   rw [bindS e1,bindS hu,bindS hp,bindS e3]
   by_cases hps:p=sd side v
   ·rw [if_pos hps] at hs ⊢
    rw [bindS e2] at hs ⊢
    obtain ⟨q,hq,hs⟩:=bs hs
    obtain rfl:=sInj hs
    rw [bindS hq]
    exact ⟨_,rfl,.inl ⟨_,_,rfl,rfl,rfl⟩⟩
   rw [if_neg hps] at hs ⊢
   rw [bindS e2] at hs ⊢
   obtain ⟨q,hq,hs⟩:=bs hs
   obtain rfl:=sInj hs
   rw [bindS hq]
   exact ⟨_,rfl,.inl ⟨_,_,rfl,rfl,rfl⟩⟩
  rw [if_neg hk] at hs
  rw [if_neg (by omega)]
  obtain rfl:=sInj hs
  exact ⟨_,rfl,.inr ⟨_,_,rfl,rfl,rfl⟩⟩) h
 exact k1
def out2:LI⊕LI→LI
 | .inl s=>s
 | .inr s=>s
def Rr (n:Nat) (vx:LI) (side z side':LI):Prop:=side'=side∧side.length=n∧S01 side∧z=[wt n vx (sd side) 0,wt n vx (sd side) 1]
theorem rpass {n:Nat} (hn:n≤200) {W:Nat→Nat→Int} {B:Int} (hT:Tw n W B) (hB:0≤B∧B≤1099511627776) {vx:LI} (hv:Vw n vx) {side0:LI} (h0:side0.length=n) {x26 x27 r12:Int} (hr12:wa .i64 x26 x27=r12) {side z:LI} (hR:Rr n vx side z side) {o:LI×LI×Bool}
  (h:loop (dissect_refine_l69 side0 (cadj n W) (ced n W) vx x26 x27) (side,z,false,0)=some o):loop (sparseref18_Refine_l382 (ced n W) (cadj n W) vx r12) (side,false,0)=some (o.1,o.2.2)∧Rr n vx o.1 o.2.1 o.1:=by
 obtain ⟨b',k1,rfl,k3⟩:=loop_simA (step1:=dissect_refine_l69 side0 (cadj n W) (ced n W) vx x26 x27) (step2:=sparseref18_Refine_l382 (ced n W) (cadj n W) vx r12) (fun s t=>t=(s.1,s.2.2.1,s.2.2.2)∧Rr n vx s.1 s.2.1 s.1) (fun o o'=>o'=(o.1,o.2.2)∧Rr n vx o.1 o.2.1 o.1) (s:=(side,z,false,0)) (t:=(side,false,0)) ⟨rfl,hR⟩ (by
  rintro ⟨a,z,mv,i⟩ t r ⟨rfl,_,h1,h2,hz⟩ hs
  simp only at h1 h2 hz ⊢
  subst hz
  unfold dissect_refine_l69 dissect_refine_j76 at hs
  unfold sparseref18_Refine_l382 sparseref18_Refine_j397
  simp only at hs ⊢
  by_cases hi:i < (side0.length:Int)
  ·rw [if_pos hi] at hs
   rw [if_pos (by omega)]
   obtain ⟨s,hs1,hs⟩:=bs hs
   obtain ⟨i0,i1,_⟩:=getI_nn hs1
   obtain ⟨k,rfl⟩:=Int.eq_ofNat_of_zero_le i0
   have hk:k < n:=by omega
   have e1:getI a (k:Int)=some (sd a k):=sd_at h1 hk
   rw [e1] at hs1
   obtain rfl:=sInj hs1
   have hs01:=sd01 h1 h2 k hk
   have e3:getI (cadj n W) (k:Int)=some ((nbs n (W k)).map Int.ofNat):=cadj_get hk
   have e6:=gain_row hn hT hB h1 hk
   have e7:=rgain_row h1 hk e6
   obtain ⟨g1,g2,g3⟩:=hv.get hk
   have e2:getI vx (k:Int)=some (vw vx k):=g1
   have ho:ws .i64 1 (sd a k)=1 - sd a k:=by rw [ws_in (by constructor<;>omega)]
   have e8:=weightOf_ok hn h1 hv (1 - sd a k) (cadj n W) (ced n W)
   have e9:getI [wt n vx (sd a) 0,wt n vx (sd a) 1] (1 - sd a k)=some (wt n vx (sd a) (1 - sd a k)):=by
    rcases hs01 with h | h<;>rw [h]<;>rfl
   have e10:getI [wt n vx (sd a) 0,wt n vx (sd a) 1] (sd a k)=some (wt n vx (sd a) (sd a k)):=by
    rcases hs01 with h | h<;>rw [h]<;>rfl
   rw [bindS e3,bindS e6,ho] at hs
   rw [bindS e7]
   by_cases hg:0 < gn n W (sd a) k
   ·rw [if_pos hg,bindS e9,bindS e2,bindS rfl] at hs
    rw [if_neg (by omega),bindS e1,ho,bindS e8,bindS e2,bindS rfl]
    rw [hr12] at hs
    by_cases hd:wm .i64 3 (wa .i64 (wt n vx (sd a) (1 - sd a k)) (vw vx k))≤wm .i64 2 r12
    ·rw [if_pos (by simpa using hd),bindS (setI_lt (by omega)),bindS e10,bindS e2] at hs
     rw [if_neg (by simpa using hd),bindS e1,ho,bindS (setI_lt (by omega))]
     have hset:=sd_set (side:=a) (k:=k) (by omega)
     obtain ⟨f1,f2⟩:=wt_flip (vx:=vx) hk hs01
     rw [← hset] at f1 f2
     have b0:=wt_bound hv (Nat.le_refl n) (sd a) (1 - sd a k)
     have b1:=wt_bound hv (Nat.le_refl n) (sd a) (sd a k)
     have b2:=wt_bound hv (Nat.le_refl n) (sd (a.set k (1 - sd a k))) (sd a k)
     have hk2:(n:Int)*1099511627776≤200*1099511627776:=by omega
     have q1:ws .i64 (wt n vx (sd a) (sd a k)) (vw vx k)=wt n vx (sd (a.set k (1 - sd a k))) (sd a k):=by rw [ws_in (by constructor<;>omega),f2]
     have q2:wa .i64 (wt n vx (sd a) (1 - sd a k)) (vw vx k)=wt n vx (sd (a.set k (1 - sd a k))) (1 - sd a k):=by rw [wa_in (by constructor<;>omega),f1]
     have st:∃ z1,setI [wt n vx (sd a) 0,wt n vx (sd a) 1] (sd a k) (wt n vx (sd (a.set k (1 - sd a k))) (sd a k))=some z1∧getI z1 (1 - sd a k)=some (wt n vx (sd a) (1 - sd a k))∧setI z1 (1 - sd a k) (wt n vx (sd (a.set k (1 - sd a k))) (1 - sd a k))=some [wt n vx (sd (a.set k (1 - sd a k))) 0,wt n vx (sd (a.set k (1 - sd a k))) 1]:=by
      generalize sd (a.set k (1 - sd a k))=s'
      rcases hs01 with h | h<;>rw [h]<;>exact ⟨_,rfl,rfl,rfl⟩
     obtain ⟨z1,z2,z3,z4⟩:=st
     rw [q1,bindS z2,bindS z3,bindS e2,q2,bindS z4] at hs
     obtain rfl:=sInj hs
     refine ⟨_,rfl,.inl ⟨_,_,rfl,rfl,rfl,rfl,by simp [h1],?_,rfl⟩⟩
     intro x hx
     rcases List.mem_or_eq_of_mem_set hx with hx | rfl
     ·exact h2 x hx
     omega
    rw [if_neg (by simpa using hd)] at hs
    rw [if_pos (by simp; omega)]
    obtain rfl:=sInj hs
    exact ⟨_,rfl,.inl ⟨_,_,rfl,rfl,rfl,rfl,h1,h2,rfl⟩⟩
   rw [if_neg hg,bindS rfl,if_neg (by simp)] at hs
   rw [if_pos (by omega),bindS rfl,if_pos rfl]
   obtain rfl:=sInj hs
   exact ⟨_,rfl,.inl ⟨_,_,rfl,rfl,rfl,rfl,h1,h2,rfl⟩⟩
  rw [if_neg hi] at hs
  rw [if_neg (by omega)]
  obtain rfl:=sInj hs
  exact ⟨_,rfl,.inr ⟨_,_,rfl,rfl,rfl,rfl,h1,h2,rfl⟩⟩) h
 exact ⟨k1,k3⟩
theorem twin_ok {l:LI} (hl:l.length≤100000):sparsekit_TwinInts l=some l:=by
 have h1:loop (sparsekit_TwinInts_l1 l) ([],0)=some l:=by
  refine Ret.eq ?_
  refine ret_loop l.length (fun k (t:LI×Int)=>t=(l.take k,(k:Int))) rfl ?_
  rintro k _ hk rfl
  unfold sparsekit_TwinInts_l1
  simp only
  by_cases hkl:k < l.length
  ·obtain ⟨x,hx⟩:∃ x,l[k]?=some x:=⟨l[k],by simp [hkl]⟩
   have hw:wa .i64 (k:Int) 1=((k+1:Nat):Int):=wa1 (by omega)
   have e1:getI l (k:Int)=some x:=hx
   have e2:app (l.take k) [x]=some (l.take (k+1)):=by
    unfold app BIG
    rw [if_pos (by simp; omega),tks hx]
   rw [if_pos (by omega),bindS e1,bindS e2,hw,ret_some,vq_l]
   exact ⟨hkl,rfl⟩
  rw [if_neg (by omega),ret_some,vq_r,take_all (by omega)]
 unfold sparsekit_TwinInts
 rw [bindS h1]
theorem rrefine_ok {n:Nat} (hn:n≤200) {W:Nat→Nat→Int} {B:Int} (hT:Tw n W B) (hB:0≤B∧B≤1099511627776) {vx:LI} (hv:Vw n vx) {side:LI} (h0:side.length=n) (h01:S01 side) {o:LI}
  (h:dissect_refine (cadj n W) vx (ced n W) side=some o):sparseref18_Refine (cadj n W) vx (ced n W) side=some o:=by
 have hvl:=hv.len
 have hsz:=size2_ok hn h0 h01 hv
 have hsum:=wt_sum (vx:=vx) (sd01 h0 h01)
 have b0:=wt_bound hv (Nat.le_refl n) (sd side) 0
 have b1:=wt_bound hv (Nat.le_refl n) (sd side) 1
 have hk2:(n:Int)*1099511627776≤200*1099511627776:=by omega
 have hr12:wa .i64 (wt n vx (sd side) 0) (wt n vx (sd side) 1)=sm n (vw vx):=by rw [wa_in (by constructor<;>omega),hsum]
 have tot:=total_ok (vx:=vx) (n:=n) hn hvl hv.wg (cadj n W) (ced n W)
 unfold dissect_refine at h
 rw [bindS hsz,bindS (show getI [wt n vx (sd side) 0,wt n vx (sd side) 1] 0=some (wt n vx (sd side) 0) by rfl),bindS (show getI [wt n vx (sd side) 0,wt n vx (sd side) 1] 1=some (wt n vx (sd side) 1) by rfl)] at h
 obtain ⟨o1,h,ho⟩:=bs h
 have ho':out2 o1=o:=by
  cases o1 with
  | inl a=>exact sInj ho
  | inr a=>exact sInj ho
 obtain ⟨b',k1,k2⟩:=loop_simA (step1:=dissect_refine_l52 (cadj n W) (ced n W) vx (wt n vx (sd side) 0) (wt n vx (sd side) 1)) (step2:=sparseref18_Refine_l337 (ced n W) (cadj n W) vx (sm n (vw vx))) (fun s t=>t=(s.1,s.2.2)∧Rr n vx s.1 s.2.1 s.1) (fun o o'=>o'=out2 o) (s:=(side,[wt n vx (sd side) 0,wt n vx (sd side) 1],0)) (t:=(side,0)) ⟨rfl,rfl,h0,h01,rfl⟩ (by
  rintro ⟨a,z,i⟩ t r ⟨rfl,hR⟩ hs
  simp only at hR ⊢
  unfold dissect_refine_l52 at hs
  unfold sparseref18_Refine_l337
  simp only at hs ⊢
  by_cases hi:i < 4
  ·rw [if_pos hi] at hs ⊢
   obtain ⟨⟨s',z',mv⟩,p1,hs⟩:=bs hs
   obtain ⟨p2,p3⟩:=rpass hn hT hB hv hR.2.1 hr12 hR p1
   simp only at p2 p3 hs
   rw [bindS p2]
   simp only
   cases mv with
   | true=>
    rw [if_pos rfl] at hs ⊢
    obtain rfl:=sInj hs
    exact ⟨_,rfl,.inl ⟨_,_,rfl,rfl,rfl,p3⟩⟩
   | false=>
    rw [if_neg (by simp)] at hs ⊢
    obtain rfl:=sInj hs
    exact ⟨_,rfl,.inr ⟨_,_,rfl,rfl,rfl⟩⟩
  rw [if_neg hi] at hs ⊢
  obtain rfl:=sInj hs
  exact ⟨_,rfl,.inr ⟨_,_,rfl,rfl,rfl⟩⟩) h
 unfold sparseref18_Refine
 rw [bindS (twin_ok (by omega)),bindS tot,bindS k1,k2,ho']
end Pd
/- The bisection is the paper's; DissectMade. -/
namespace Pd
open Pl Sx Go M Vc
def et (n:Nat) (W:Nat→Nat→Int):Int:=sm n fun v=>sm n fun u=>W v u
theorem tab_sum {n K:Nat} {W:Nat→Nat→Int} {to:LI} (hto:∀ u,u < n→tt to u < K):(sm K fun a=>sm K fun b=>tabS n W to n a b)=et n W:=by
 have q0:(sm K fun a=>sm K fun b=>tabS n W to n a b)=sm K fun a=>sm n fun v=>sm K fun b=>sm n fun u=>if tt to v=a∧tt to u=b then W v u else 0:=sm_congr fun a _=>sm_swap
 rw [q0,sm_swap]
 unfold et
 refine sm_congr fun v hv=>?_
 have q1:(sm K fun a=>sm K fun b=>sm n fun u=>if tt to v=a∧tt to u=b then W v u else 0)=sm K fun a=>sm n fun u=>sm K fun b=>if tt to v=a∧tt to u=b then W v u else 0:=sm_congr fun a _=>sm_swap
 rw [q1,sm_swap]
 refine sm_congr fun u hu=>?_
 have q2:(sm K fun a=>sm K fun b=>if tt to v=a∧tt to u=b then W v u else 0)=sm K fun a=>if tt to v=a then W v u else 0:=by
  refine sm_congr fun a _=>?_
  rw [← sm_one (n:=K) (a:=tt to u) (x:=if tt to v=a then W v u else 0) (hto u hu)]
  refine sm_congr fun b _=>?_
  by_cases h1:tt to v=a
  ·by_cases h2:tt to u=b
   ·rw [if_pos ⟨h1,h2⟩,if_pos h2,if_pos h1]
   rw [if_neg (fun e=>h2 e.2),if_neg h2]
  rw [if_neg (fun e=>h1 e.1),if_neg h1]
  split<;>rfl
 rw [q2,sm_one (hto v hv)]
theorem fuel_succ':∃ k,FUEL=k+1000:=⟨1099511626776,rfl⟩
theorem bisect_succ' (k:Nat):dissect_bisect (k+1)=dissect_bisect_body (dissect_bisect k):=rfl
theorem rbisect_succ (k:Nat):sparseref18_Bisect (k+1)=sparseref18_Bisect_body (sparseref18_Bisect k):=rfl
def fineL (n:Nat) (to cs:LI):LI:=(List.range n).map fun v=>sd cs (tt to v)
theorem fineL_len {n:Nat} {to cs:LI}:(fineL n to cs).length=n:=by simp [fineL]
theorem fineL_01 {n K:Nat} {to cs:LI} (hto:∀ u,u < n→tt to u < K) (hc:cs.length=K) (h:S01 cs):S01 (fineL n to cs):=by
 intro x hx
 unfold fineL at hx
 rw [List.mem_map] at hx
 obtain ⟨v,hv,rfl⟩:=hx
 exact sd01 hc h _ (hto v (List.mem_range.1 hv))
theorem fine1 {r76:L2×LI×L2×LI×Bool} {r115:LI×Bool} {n K:Nat} (hn:n≤200) {to cs:LI} (h1:r76.2.2.2.1=to) (h2:r115.1=cs) (htl:to.length=n) (hto:∀ v,v < n→∃ a:Nat,to[v]?=some (a:Int)∧a < K) (hc:cs.length=K) {s0:LI} (h0:s0.length=n):
  loop (dissect_bisect_l9 r76 r115) (s0,0)=some (fineL n to cs):=by
 subst h1
 subst h2
 refine Ret.eq ?_
 refine ret_loop n (fun k (t:LI×Int)=>t.2=k∧t.1.length=n∧∀ v,v < k→t.1[v]?=some (sd r115.1 (tt r76.2.2.2.1 v))) ⟨rfl,h0,fun v hv=>by omega⟩ ?_
 rintro k ⟨a,i⟩ hk ⟨hi,g1,g2⟩
 simp only at hi g1 g2
 subst hi
 unfold dissect_bisect_l9
 simp only
 by_cases hkn:k < n
 ·obtain ⟨b,b1,b2⟩:=hto k hkn
  have hw:wa .i64 (k:Int) 1=((k+1:Nat):Int):=wa1 (by omega)
  have e1:getI r76.2.2.2.1 (k:Int)=some (b:Int):=b1
  have e2:getI r115.1 (b:Int)=some (sd r115.1 b):=sd_at hc b2
  rw [if_pos (by omega),bindS e1,bindS e2,bindS (setI_lt (by omega)),hw,ret_some,vq_l]
  refine ⟨hkn,rfl,by simp [g1],fun v hv=>?_⟩
  rw [List.getElem?_set]
  by_cases hkv:k=v
  ·subst hkv
   rw [if_pos rfl,if_pos (by omega),tt_get b1,Int.toNat_natCast]
  rw [if_neg hkv,g2 v (by omega)]
 rw [if_neg (by omega),ret_some,vq_r]
 apply List.ext_getElem?
 intro v
 by_cases hv:v < n
 ·rw [g2 v (by omega)]; simp [fineL,hv]
 rw [List.getElem?_eq_none (by omega),List.getElem?_eq_none (by rw [fineL_len]; omega)]
theorem fine2 {vx:LI} {r16:L2×LI×L2×LI×Int} {r30:LI×Int} {n K:Nat} (hn:n≤200) (hv:vx.length=n) {to cs:LI} (h1:r16.2.2.2.1=to) (h2:r30.1=cs) (hto:∀ v,v < n→∃ a:Nat,to[v]?=some (a:Int)∧a < K) (hc:cs.length=K) {s0:LI} (h0:s0.length=n):
  loop (sparseref18_Bisect_l1 vx r16 r30) (s0,0)=some (fineL n to cs):=by
 subst h1
 subst h2
 refine Ret.eq ?_
 refine ret_loop n (fun k (t:LI×Int)=>t.2=k∧t.1.length=n∧∀ v,v < k→t.1[v]?=some (sd r30.1 (tt r16.2.2.2.1 v))) ⟨rfl,h0,fun v hv=>by omega⟩ ?_
 rintro k ⟨a,i⟩ hk ⟨hi,g1,g2⟩
 simp only at hi g1 g2
 subst hi
 unfold sparseref18_Bisect_l1
 simp only
 by_cases hkn:k < n
 ·obtain ⟨b,b1,b2⟩:=hto k hkn
  have hw:wa .i64 (k:Int) 1=((k+1:Nat):Int):=wa1 (by omega)
  have e1:getI r16.2.2.2.1 (k:Int)=some (b:Int):=b1
  have e2:getI r30.1 (b:Int)=some (sd r30.1 b):=sd_at hc b2
  rw [if_pos (by omega),bindS e1,bindS e2,bindS (setI_lt (by omega)),hw,ret_some,vq_l]
  refine ⟨hkn,rfl,by simp [g1],fun v hv=>?_⟩
  rw [List.getElem?_set]
  by_cases hkv:k=v
  ·subst hkv
   rw [if_pos rfl,if_pos (by omega),tt_get b1,Int.toNat_natCast]
  rw [if_neg hkv,g2 v (by omega)]
 rw [if_neg (by omega),ret_some,vq_r]
 apply List.ext_getElem?
 intro v
 by_cases hv:v < n
 ·rw [g2 v (by omega)]; simp [fineL,hv]
 rw [List.getElem?_eq_none (by omega),List.getElem?_eq_none (by rw [fineL_len]; omega)]
structure Cg (n:Nat) (W:Nat→Nat→Int) (vx m vs to:LI):Prop where
 kn:vs.length≤n
 tl:to.length=n
 tr:∀ v,v < n→∃ a:Nat,to[v]?=some (a:Int)∧a < vs.length
 tw:Tw vs.length (cw (tabS n W to n)) 1099511627776
 vv:Vw vs.length vs
 ee:et vs.length (cw (tabS n W to n))≤1099511627776
 ws:sm vs.length (vw vs)≤1099511627776
 p:dissect_coarsen (cadj n W) vx (ced n W) m=some (cadj vs.length (cw (tabS n W to n)),vs,ced vs.length (cw (tabS n W to n)),to,true)
 r:sparseref18_Coarsen (cadj n W) vx (ced n W) m=some (cadj vs.length (cw (tabS n W to n)),vs,ced vs.length (cw (tabS n W to n)),to,0)
theorem coarse_moderate {n:Nat} (hn:n≤200) {W:Nat→Nat→Int} (hT:Tw n W 1099511627776) {vx m:LI} (hv:Vw n vx) (hE:et n W≤1099511627776) (hS:sm n (vw vx)≤1099511627776) (hM:Mt (cadj n W) m):∃ vs to,Cg n W vx m vs to:=by
 have hW:=canon_wt hT hv.len hv.wg
 have hrc:=rcheckW_ok hn hT hW
 obtain ⟨vs,to,hC,hpos,k1,k2⟩:=coarsen2_ok hn hT (by omega) hv.len hv.wg (hM.ml cadj_len) hrc
 have hg:=hC.mg
 have htt:∀ u,u < n→tt to u < vs.length:=by
  intro u hu
  obtain ⟨a,a1,a2⟩:=hg.tr u hu
  rw [tt_get a1]
  omega
 have hts:=tab_sum (W:=W) htt
 have htn:∀ a b,0≤tabS n W to n a b:=fun a b=>(hC.tb a b).1
 have hte:∀ a b,a < vs.length→b < vs.length→tabS n W to n a b≤1099511627776:=by
  intro a b ha hb
  have h1:=sm_pos (n:=vs.length) (f:=fun b=>tabS n W to n a b) (fun b _=>htn a b) hb
  have h2:=sm_pos (n:=vs.length) (f:=fun a=>sm vs.length fun b=>tabS n W to n a b) (fun a _=>sm_nonneg fun b _=>htn a b) ha
  omega
 have hcw:∀ a b,0≤cw (tabS n W to n) a b∧cw (tabS n W to n) a b≤tabS n W to n a b:=by
  intro a b
  have:=htn a b
  unfold cw
  split<;>omega
 have hws:sm vs.length (vw vs)=sm n (vw vx):=by
  have t1:sm vs.length (vw vs)=sm vs.length fun a=>sm n fun v=>if tt to v=a then vw vx v else 0:=sm_congr fun a ha=>vw_get (hg.ws a ha)
  rw [t1,sm_swap]
  exact sm_congr fun v hv=>sm_one (htt v hv)
 have hvs:∀ x,x∈vs→Wg x:=by
  intro x hx
  refine ⟨hpos x hx,?_⟩
  obtain ⟨a,ha,rfl⟩:=List.getElem_of_mem hx
  have hva:∀ i,i < vs.length→0≤vw vs i:=by
   intro i hi
   rw [vw_get (gEq hi)]
   have:=hpos _ (List.getElem_mem hi)
   omega
  have:=sm_pos hva ha
  rw [vw_get (gEq ha)] at this
  omega
 have hOk:OkE vs.length (cw (tabS n W to n)):=fun a b ha hb=>Int.le_trans (hcw a b).2 (hte a b ha hb)
 have hee:et vs.length (cw (tabS n W to n))≤1099511627776:=by
  have:et vs.length (cw (tabS n W to n))≤sm vs.length fun a=>sm vs.length fun b=>tabS n W to n a b:=sm_le fun a _=>sm_le fun b _=>(hcw a b).2
  omega
 rw [if_pos ⟨hOk,hvs⟩] at k1 k2
 exact ⟨vs,to,hg.vl,hg.tl,hg.tr,cw_tw hT (fun a b ha hb=>⟨htn a b,hOk a b ha hb⟩) (by omega),⟨rfl,hvs⟩,hee,by omega,k1,k2⟩
theorem bisect2_ok:∀ (n:Nat),n≤30→∀ {W:Nat→Nat→Int} (_:Tw n W 1099511627776) {vx:LI} (_:Vw n vx) (_:et n W≤1099511627776) (_:sm n (vw vx)≤1099511627776) (k k':Nat),n < k→n < k'→
  ∃ o,dissect_bisect k (cadj n W) vx (ced n W)=some (o,true)∧sparseref18_Bisect k' (cadj n W) vx (ced n W)=some (o,0)∧o.length=n∧S01 o:=by
 intro n
 induction n using Nat.strongRecOn with
 | ind n ih=>
 intro hn W hT vx hv hE hS k k' hk hk'
 obtain ⟨j,rfl⟩:∃ j,k=j+1:=⟨k - 1,by omega⟩
 obtain ⟨j',rfl⟩:∃ j',k'=j'+1:=⟨k' - 1,by omega⟩
 have hvl:=hv.len
 have hW:=canon_wt hT hv.len hv.wg
 have hcl:(cadj n W).length=n:=cadj_len
 have hrc:=rcheckW_ok (by omega) hT hW
 obtain ⟨s,g1,g2,g3,g4⟩:=grown_ok hW (by omega)
 rw [hcl] at g3
 obtain ⟨m,m1,hM⟩:=match_ok hW (by omega)
 have m3:=rmatch_ok hW (by omega) hrc m1
 obtain ⟨o,r1,r2,r3,r4⟩:=refine_ok (by omega) hT (by omega) hvl g3 g4
 have r5:=rrefine_ok (by omega) hT (by omega) hv g3 g4 r1
 rw [bisect_succ',rbisect_succ]
 unfold dissect_bisect_body sparseref18_Bisect_body dissect_bisect_j5 dissect_bisect_j8 dissect_bisect_j5
 rw [bindS g1,bindS m3]
 by_cases h8:n≤8
 ·refine ⟨o,?_,?_,r2,r3⟩
  ·rw [if_neg (by omega),bindS r1]
  simp only [if_true]
  rw [if_pos (by omega),bindS g2,bindS r5]
 obtain ⟨vs,to,hc⟩:=coarse_moderate (by omega) hT hv hE hS hM
 have hkn:=hc.kn
 by_cases hlt:vs.length < n
 ·obtain ⟨cs,c1,c2,c3,c4⟩:=ih vs.length hlt (by omega) hc.tw hc.vv hc.ee hc.ws j j' (by omega) (by omega)
  have htt:∀ u,u < n→tt to u < vs.length:=by
   intro u hu
   obtain ⟨a,a1,a2⟩:=hc.tr u hu
   rw [tt_get a1]
   omega
  have f01:=fineL_01 htt c3 c4
  obtain ⟨o,p1,p2,p3,p4⟩:=refine_ok (by omega) hT (by omega) hvl (fineL_len (n:=n) (to:=to) (cs:=cs)) f01
  have p5:=rrefine_ok (by omega) hT (by omega) hv fineL_len f01 p1
  refine ⟨o,?_,?_,p2,p3⟩
  ·rw [if_pos (by omega),bindS m1,bindS hc.p]
   simp only [if_true]
   rw [if_pos (by omega),bindS c1]
   simp only [if_true]
   rw [bindS (fine1 (by omega) rfl rfl hc.tl hc.tr c3 g3),bindS p1]
  simp only [if_true]
  rw [if_neg (by omega),bindS hc.r]
  simp only [if_true]
  rw [if_neg (by omega),bindS c2]
  simp only [if_true]
  rw [hvl,bindS (mkL_nat 0 n (by omega)),bindS (fine2 (by omega) hvl rfl rfl hc.tr c3 (by simp)),bindS p5]
 refine ⟨o,?_,?_,r2,r3⟩
 ·rw [if_pos (by omega),bindS m1,bindS hc.p]
  simp only [if_true]
  rw [if_neg (by omega),bindS r1]
 simp only [if_true]
 rw [if_neg (by omega),bindS hc.r]
 simp only [if_true]
 rw [if_pos (by omega),bindS g2,bindS r5]
end Pd
