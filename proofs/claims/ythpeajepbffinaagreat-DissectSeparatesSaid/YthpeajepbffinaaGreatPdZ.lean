/- The law of the peripheral vertices over the models. -/
import Derived.Test.YthpeajepbffinaaGreatPqZ
import Derived.Test.YthpeajepbffinaaGreatM8
import Derived.Test.YthpeajepbffinaaGreatPlL
import Derived.Test.YthpeajepbffinaaGreatVcA
import Derived.KernelRfl
set_option linter.unusedSimpArgs false
set_option linter.unusedVariables false
namespace Pl
open Sx Go M Vc
theorem levels_cls {adj:L2} (hG:Gr adj) (hn:adj.length≤30) {v:Nat} (hv:v < adj.length):
  ∃ out lev seen c,graph_levels adj (v:Int)=some out∧BF adj v lev seen out []∧CC adj v c∧∀ x,x∈out.flatten↔x∈c:=by
 obtain ⟨out,lev,seen,h1,h2⟩:=levels_ok hG hn hv
 obtain ⟨o,c,k1,k2,k3,k4⟩:=comp_ok hG hn hv
 rw [h1] at k1
 obtain rfl:=sInj k1
 have hfl:out.flatten.length≤adj.length:=nodup_len _ _ h2.nodup fun x hx=>by have:=(h2.flat x).1 hx; exact ⟨this.1,this.2.1⟩
 obtain ⟨m,m1,m2,m3⟩:=sort_ok (l:=out.flatten) (by omega)
 rw [m1] at k3
 obtain rfl:=sInj k3
 exact ⟨out,lev,seen,m,h1,h2,k4,fun x=>m2.mem_iff.symm⟩
def farR (adj:L2) (out:L2):Option Int:=
 (getI out (ws .i64 (out.length:Int) 1)).bind fun x91=>
 (getI x91 0).bind fun x93=>
 (loop (graph_Peripheral_l13 x91 adj) (x93,0)).bind fun x114=>some x114
theorem far_ok {adj:L2} {out:L2} (hlen:0 < out.length) (hl2:out.length≤1000) (hne:∀ l,l∈out→l≠[]) (hr:∀ l,l∈out→∀ x,x∈l→0≤x∧x < adj.length) (hsz:∀ l,l∈out→l.length≤1000):Ret (farR adj out) (fun w=>w∈out.flatten∧0≤w∧w < adj.length):=by
 unfold farR
 have e:ws .i64 (out.length:Int) 1=((out.length - 1:Nat):Int):=by rw [ws_i (by omega) (by omega)]; omega
 have hk:out.length - 1 < out.length:=by omega
 rw [e,bindS (getI_lt hk)]
 have hm:=List.getElem_mem hk
 generalize out[out.length - 1]=l at hm
 have hlp:=List.length_pos_iff.2 (hne l hm)
 have hll:=hsz l hm
 have hg0:getI l 0=some l[0]:=getI_lt hlp
 rw [bindS hg0]
 simp only [ret_bind,ret_some]
 refine ret_call (P:=fun w=>w∈l) ?_ (fun w hw=>⟨List.mem_flatten.2 ⟨l,hm,hw⟩,hr l hm w hw⟩)
 refine ret_loop l.length (fun k (s:Int×Int)=>s.2=k∧s.1∈l) ⟨rfl,List.getElem_mem _⟩ ?_
 rintro k ⟨s,i⟩ hk2 ⟨rfl,hs⟩
 simp only at hs
 have hrs:=hr l hm s hs
 unfold graph_Peripheral_l13 graph_Peripheral_j14
 by_cases hkl:k < l.length
 ·obtain ⟨x,hx⟩:∃ x,l[k]?=some x:=⟨l[k],by simp [hkl]⟩
  have hxr:=hr l hm x (mem_get hx)
  have e1:getI l (k:Int)=some x:=hx
  have e5:(k:Int) < (l.length:Int):=by omega
  have e6:getI adj x=some (adj[x.toNat]'(by omega)):=getI_of hxr.1 (by simp [show x.toNat < adj.length by omega])
  have e7:getI adj s=some (adj[s.toNat]'(by omega)):=getI_of hrs.1 (by simp [show s.toNat < adj.length by omega])
  have hw:wa .i64 (k:Int) 1=((k+1:Nat):Int):=wa1 (by omega)
  simp only [vcC,Bool.false_eq_true,reduceCtorEq,e1,e5,e6,e7,hw]
  exact ⟨fun _=>⟨hkl,trivial,mem_get hx⟩,fun _=>⟨hkl,trivial,hs⟩⟩
 have e5:¬ (k:Int) < (l.length:Int):=by omega
 simp only [vcC,Bool.false_eq_true,reduceCtorEq,e5]
 exact hs
theorem per_step {adj:L2} {v:Int} {out r:L2} {w:Int} (h1:farR adj out=some w) (h2:graph_levels adj w=some r):
  graph_Peripheral_l10 adj (v,out)=if (r.length:Int)≤(out.length:Int) then some (.inr v) else some (.inl (w,r)):=by
 unfold farR at h1
 unfold graph_Peripheral_l10
 simp only
 obtain ⟨l,g1,h1⟩:=bs h1
 obtain ⟨x,g2,h1⟩:=bs h1
 obtain ⟨z,g3,h1⟩:=bs h1
 obtain rfl:=sInj h1
 rw [bindS g1,bindS g2,bindS g3,bindS h2]
theorem bf_pre {adj:L2} {root:Nat} {lev:Nat→Nat} {seen:BL} {out:L2} (h:BF adj root lev seen out []) (hr:root < adj.length) (hn:adj.length≤30):
  0 < out.length∧out.length≤adj.length∧(∀ l,l∈out→l≠[])∧(∀ l,l∈out→∀ x,x∈l→0≤x∧x < adj.length)∧(∀ l,l∈out→l.length≤1000):=by
 have hk:∀ l,l∈out→l.Pairwise (· < ·)∧∀ x,x∈l→0≤x∧x < adj.length:=by
  intro l hl
  obtain ⟨k,hk⟩:=List.mem_iff_getElem?.1 hl
  have:=h.lst k l (by rw [List.getElem?_append_left (List.getElem?_eq_some_iff.1 hk).1]; exact hk)
  exact ⟨this.1,this.2.1⟩
 refine ⟨?_,h.count,h.ne,fun l hl=>(hk l hl).2,fun l hl=>?_⟩
 ·have h1:=(h.rt root hr).2 rfl
  have h2:=h.lev_le root hr
  omega
 have:=asc_len (hk l hl).1 (hk l hl).2
 omega
theorem peripheral_ok {adj:L2} (hG:Gr adj) (hn:adj.length≤30) {v:Nat} (hv:v < adj.length) {a:L2} (ha:graph_levels adj (v:Int)=some a):
  Ret (graph_Peripheral adj (v:Int)) (fun p=>∃ (q:Nat) (b r:L2) (w:Int),p=(q:Int)∧q < adj.length∧p∈a.flatten∧graph_levels adj p=some b∧a.length≤b.length∧farR adj b=some w∧graph_levels adj w=some r∧r.length≤b.length):=by
 obtain ⟨a',lev,seen,c,h1,h2,h3,h4⟩:=levels_cls hG hn hv
 rw [ha] at h1
 obtain rfl:=sInj h1
 have hchk:=graphCheck_ok hG (show adj.length≤200 by omega)
 unfold graph_Peripheral graph_vertex
 rw [bindS hchk]
 have e1:¬ (v:Int) < 0:=by omega
 have e2:(v:Int) < (adj.length:Int):=by omega
 simp only [if_pos,Option.bind_some]
 have e3:(0:Int)≤(v:Int):=by omega
 simp only [e2,e3,decide_true,Bool.and_self,Bool.not_true,Bool.false_eq_true,if_false,ha,Option.bind_some,ret_bind,ret_some]
 refine ret_loop adj.length (fun k (s:Int×L2)=>∃ q:Nat,s.1=(q:Int)∧q < adj.length∧s.1∈a.flatten∧graph_levels adj s.1=some s.2∧a.length≤s.2.length∧k≤s.2.length) ⟨v,rfl,hv,(h4 _).2 h3.mem,ha,by simp,by simp⟩ ?_
 rintro k ⟨p,now⟩ hk ⟨q,rfl,hq,hpa,hnow,hla,hkn⟩
 simp only at hpa hnow hla hkn
 obtain ⟨now',lev',seen',c',g1,g2,g3,g4⟩:=levels_cls hG hn hq
 rw [hnow] at g1
 obtain rfl:=sInj g1
 obtain ⟨p1,p2,p3,p4,p5⟩:=bf_pre g2 hq hn
 obtain ⟨w,w1,w2,w3,w4⟩:=far_ok p1 (by omega) p3 p4 p5
 obtain ⟨u,rfl⟩:=Int.eq_ofNat_of_zero_le w3
 have hu:u < adj.length:=by omega
 obtain ⟨r,lev2,seen2,c2,k1,k2,k3,k4⟩:=levels_cls hG hn hu
 obtain ⟨_,q2,_⟩:=bf_pre k2 hu hn
 have hua:(u:Int)∈a.flatten:=by
  rw [h4]
  exact g3.min (fun x=>(x:Int)∈c) ((h4 _).1 hpa) (fun v w _ hs hnb=>h3.clo v w hs hnb) u ((g4 _).1 w2)
 rw [per_step w1 k1]
 simp only [ret_if,ret_some,vq_l,vq_r]
 exact ⟨fun h=>⟨q,now,r,u,rfl,hq,hpa,hnow,hla,w1,k1,by omega⟩,fun h=>⟨by omega,u,rfl,hu,hua,k1,by omega,by omega⟩⟩
end Pl
/- Graphs as tables: making, joining, listing; what some vertices induce. -/
namespace Pl
open Sx Go M Vc
def Tr (T:List BL) (n:Nat) (R:Nat→Nat→Prop):Prop:=T.length=n∧∀ i,i < n→∃ r,T[i]?=some r∧r.length=n∧∀ j,j < n→∃ b:Bool,r[j]?=some b∧(b=true↔R i j)
theorem Tr.congr {T:List BL} {n:Nat} {R R':Nat→Nat→Prop} (h:∀ i j,i < n→j < n→(R i j↔R' i j)) (hT:Tr T n R):Tr T n R':=by
 refine ⟨hT.1,fun i hi=>?_⟩
 obtain ⟨r,h1,h2,h3⟩:=hT.2 i hi
 exact ⟨r,h1,h2,fun j hj=>by obtain ⟨b,h4,h5⟩:=h3 j hj; exact ⟨b,h4,by rw [h5,h i j hi hj]⟩⟩
theorem Tr.blank (n:Nat):Tr (List.replicate n (List.replicate n false)) n (fun _ _=>False):=
 ⟨by simp,fun i hi=>⟨List.replicate n false,by simp [hi],by simp,fun j hj=>⟨false,by simp [hj],by simp⟩⟩⟩
theorem Tr.row {T:List BL} {n:Nat} {R:Nat→Nat→Prop} (hT:Tr T n R) {i:Nat} (hi:i < n):∃ r,getI T (i:Int)=some r∧T[i]?=some r∧r.length=n∧∀ j:Nat,j < n→∃ b:Bool,getI r (j:Int)=some b∧(b=true↔R i j):=by
 obtain ⟨r,h1,h2,h3⟩:=hT.2 i hi
 exact ⟨r,h1,h1,h2,fun j hj=>h3 j hj⟩
theorem Tr.put {T:List BL} {n:Nat} {R:Nat→Nat→Prop} (hT:Tr T n R) {i j:Nat} (hi:i < n) {r:BL} (hr:T[i]?=some r) {z:Bool} {p:Prop} (hz:z=true↔p):Tr (T.set i (r.set j z)) n (fun a c=>(a=i∧c=j∧p)∨(¬ (a=i∧c=j)∧R a c)):=by
 refine ⟨by simp [hT.1],fun a ha=>?_⟩
 obtain ⟨r',h1,h2,h3⟩:=hT.2 a ha
 by_cases hai:i=a
 ·subst hai
  rw [hr] at h1
  obtain rfl:=sInj h1
  refine ⟨r.set j z,by rw [List.getElem?_set,if_pos rfl,if_pos (by rw [hT.1]; exact ha)],by simp [h2],fun c hc=>?_⟩
  obtain ⟨b,h4,h5⟩:=h3 c hc
  rw [List.getElem?_set]
  by_cases hcj:j=c
  ·subst hcj
   exact ⟨z,by rw [if_pos rfl,if_pos (by omega)],by rw [hz]; simp⟩
  exact ⟨b,by rw [if_neg hcj,h4],by rw [h5]; simp [show ¬ c=j from fun h=>hcj h.symm]⟩
 refine ⟨r',by rw [List.getElem?_set,if_neg hai,h1],h2,fun c hc=>?_⟩
 obtain ⟨b,h4,h5⟩:=h3 c hc
 exact ⟨b,h4,by rw [h5]; simp [show ¬ a=i from fun h=>hai h.symm]⟩
theorem Tr.on {T:List BL} {n:Nat} {R:Nat→Nat→Prop} (hT:Tr T n R) {i j:Nat} (hi:i < n) {r:BL} (hr:T[i]?=some r):Tr (T.set i (r.set j true)) n (fun a c=>(a=i∧c=j)∨R a c):=by
 refine Tr.congr (fun a c _ _=>?_) (hT.put (j:=j) hi hr (z:=true) (p:=True) (by simp))
 by_cases h:a=i∧c=j
 ·simp [h]
 simp [h]
open Classical in
theorem Tr.tb {T:List BL} {n:Nat} {R:Nat→Nat→Prop} (hT:Tr T n R):Tb T n (fun i j=>decide (R i j)):=by
 refine ⟨hT.1,fun i hi=>?_⟩
 obtain ⟨r,h1,h2,h3⟩:=hT.2 i hi
 refine ⟨r,h1,h2,fun j hj=>?_⟩
 obtain ⟨b,h4,h5⟩:=h3 j hj
 rw [h4]
 congr 1
 cases b with
 | true=>symm; rw [decide_eq_true_iff]; exact h5.1 rfl
 | false=>symm; rw [decide_eq_false_iff_not]; intro h; have:=h5.2 h; cases this
theorem newSets_ok {n:Nat} (hn:n≤1000):graph_NewSets (n:Int)=some (List.replicate n (List.replicate n false)):=by
 refine Ret.eq ?_
 unfold graph_NewSets
 simp only [ret_bind,ret_mkL,ret_some,Int.toNat_natCast]
 refine ⟨by omega,by omega,?_⟩
 refine ret_loop n (fun k (t:List BL×Int)=>t.2=k∧t.1.length=n∧∀ u,u < k→t.1[u]?=some (List.replicate n false)) ⟨rfl,by simp,fun u h=>by omega⟩ ?_
 rintro k ⟨t,i⟩ hk ⟨rfl,h1,h2⟩
 simp only at h1 h2
 unfold graph_NewSets_l1
 have hlen:(List.replicate n ([]:BL)).length=n:=by simp
 by_cases hkn:k < n
 ·have hw:wa .i64 (k:Int) 1=((k+1:Nat):Int):=wa1 (by omega)
  have e5:(k:Int) < (n:Int):=by omega
  simp only [vcC,Bool.false_eq_true,reduceCtorEq,hlen,e5,hw]
  refine ⟨by omega,by omega,by omega,by omega,hkn,trivial,by simp [h1],fun u hu=>?_⟩
  rw [List.getElem?_set]
  by_cases hku:k=u
  ·rw [if_pos hku,if_pos (by omega)]
  rw [if_neg hku]; exact h2 u (by omega)
 have e5:¬ (k:Int) < (n:Int):=by omega
 simp only [vcC,Bool.false_eq_true,reduceCtorEq,hlen,e5]
 apply List.ext_getElem?
 intro u
 by_cases hu:u < n
 ·rw [h2 u (by omega)]; simp [hu]
 rw [List.getElem?_eq_none (by omega),List.getElem?_eq_none (by simp; omega)]
theorem join_ok {T:List BL} {n:Nat} {R:Nat→Nat→Prop} (hT:Tr T n R) {v w:Nat} (hv:v < n) (hw:w < n):∃ T',graph_Sets_Join T (v:Int) (w:Int)=some T'∧Tr T' n (fun a c=>(v≠w∧((a=v∧c=w)∨(a=w∧c=v)))∨R a c):=by
 unfold graph_Sets_Join graph_Sets_Join_j1
 by_cases hvw:v=w
 ·subst hvw
  exact ⟨T,by rw [if_pos rfl],Tr.congr (fun a c _ _=>by simp) hT⟩
 rw [if_neg (by omega)]
 obtain ⟨r,g1,g2,g3,_⟩:=hT.row hv
 obtain ⟨r',g1',g2',g3',_⟩:=hT.row hw
 have hT2:=hT.on (j:=w) hv g2
 obtain ⟨r2,k1,k2,k3,_⟩:=hT2.row hw
 have hTl:=hT.1
 rw [bindS g1,bindS g1',bindS (setI_lt (by omega)),bindS (setI_lt (by omega)),bindS k1,bindS (setI_lt (by omega)),bindS (setI_lt (by simp; omega))]
 exact ⟨_,rfl,Tr.congr (fun a c _ _=>by
  constructor
  ·rintro (h | h | h)
   ·exact .inl ⟨hvw,.inr h⟩
   ·exact .inl ⟨hvw,.inl h⟩
   exact .inr h
  rintro (⟨_,h | h⟩ | h)
  ·exact .inr (.inl h)
  ·exact .inl h
  exact .inr (.inr h)) (hT2.on (j:=v) hw k2)⟩
open Classical in
theorem list_ok {T:List BL} {n:Nat} {R:Nat→Nat→Prop} (hT:Tr T n R) (hn:n≤1000) {v:Nat} (hv:v < n):graph_Sets_List T (v:Int)=some (coll (fun w=>R v w) n):=by
 obtain ⟨r,g1,g2,g3,g4⟩:=hT.row hv
 refine Ret.eq ?_
 unfold graph_Sets_List
 rw [bindS g1]
 simp only [ret_bind,ret_some]
 refine ret_loop n (fun k (t:LI×Int)=>t.2=k∧t.1=coll (fun w=>R v w) k) ⟨rfl,rfl⟩ ?_
 rintro k ⟨t,i⟩ hk ⟨rfl,rfl⟩
 unfold graph_Sets_List_l3 graph_Sets_List_j4
 have hcl:=coll_len (tm:=fun w=>R v w) k
 by_cases hkn:k < n
 ·obtain ⟨b,e1,e2⟩:=g4 k hkn
  have hw:wa .i64 (k:Int) 1=((k+1:Nat):Int):=wa1 (by omega)
  have e5:(k:Int) < (r.length:Int):=by omega
  simp only [vcC,Bool.false_eq_true,reduceCtorEq,e1,e5,hw]
  refine ⟨fun h=>⟨by simp; omega,hkn,trivial,?_⟩,fun h=>⟨hkn,trivial,?_⟩⟩
  ·rw [coll,if_pos (e2.1 h)]
  rw [coll,if_neg (fun hh=>h (e2.2 hh)),List.append_nil]
 have e5:¬ (k:Int) < (r.length:Int):=by omega
 have:k=n:=by omega
 subst this
 simp only [vcC,Bool.false_eq_true,reduceCtorEq,e5]
open Classical in
theorem sgraph_ok {T:List BL} {n:Nat} {R:Nat→Nat→Prop} (hT:Tr T n R) (hn:n≤1000):graph_Sets_Graph T=some ((List.range n).map fun v=>coll (fun w=>R v w) n):=by
 refine Ret.eq ?_
 have hTl:=hT.1
 unfold graph_Sets_Graph
 simp only [ret_bind,ret_mkL,ret_some,Int.toNat_natCast]
 refine ⟨by omega,by omega,?_⟩
 refine ret_loop n (fun k (t:L2×Int)=>t.2=k∧t.1.length=n∧∀ u,u < k→t.1[u]?=some (coll (fun w=>R u w) n)) ⟨rfl,by simp [hTl],fun u h=>by omega⟩ ?_
 rintro k ⟨t,i⟩ hk ⟨rfl,h1,h2⟩
 simp only at h1 h2
 unfold graph_Sets_Graph_l1
 by_cases hkn:k < n
 ·have hw:wa .i64 (k:Int) 1=((k+1:Nat):Int):=wa1 (by omega)
  have e5:(k:Int) < (T.length:Int):=by omega
  simp only [vcC,Bool.false_eq_true,reduceCtorEq,e5,hw,list_ok hT hn hkn]
  refine ⟨by omega,by omega,hkn,trivial,by simp [h1],fun u hu=>?_⟩
  rw [List.getElem?_set]
  by_cases hku:k=u
  ·subst hku; rw [if_pos rfl,if_pos (by omega)]
  rw [if_neg hku]; exact h2 u (by omega)
 have e5:¬ (k:Int) < (T.length:Int):=by omega
 simp only [vcC,Bool.false_eq_true,reduceCtorEq,e5]
 apply List.ext_getElem?
 intro u
 by_cases hu:u < n
 ·rw [h2 u (by omega)]; simp [hu]
 rw [List.getElem?_eq_none (by omega),List.getElem?_eq_none (by simp; omega)]
def IJ (adj:L2) (l:LI) (i j:Nat):Prop:=∃ (x y:Int),l[i]?=some x∧l[j]?=some y∧nbp adj x.toNat y.toNat
theorem IJ.sym {adj:L2} (hG:Gr adj) {l:LI} {i j:Nat} (h:IJ adj l i j):IJ adj l j i:=by
 obtain ⟨x,y,h1,h2,h3⟩:=h
 exact ⟨y,x,h2,h1,nbp_sym hG h3⟩
theorem IJ.ne {adj:L2} (hG:Gr adj) {l:LI} {i:Nat} (h:IJ adj l i i):False:=by
 obtain ⟨x,y,h1,h2,l',h3,h4⟩:=h
 rw [h1] at h2
 obtain rfl:=sInj h2
 have:=(hG.rng _ _ _ h3 h4).2.2
 omega
open Classical in
theorem induced_ok {adj:L2} (hG:Gr adj) (hn:adj.length≤200) {l:LI} (hl:l.length≤200) (hr:∀ x,x∈l→0≤x∧x < adj.length):graph_induced adj l=some ((List.range l.length).map fun i=>coll (fun j=>IJ adj l i j) l.length):=by
 refine Ret.eq ?_
 unfold graph_induced
 rw [bindS (newSets_ok (by omega))]
 simp only [ret_bind]
 refine ret_call (P:=fun T=>Tr T l.length (IJ adj l)) ?_ (fun T hT=>by rw [ret_of (sgraph_ok hT (by omega)),ret_some])
 refine ret_loop l.length (fun k (t:List BL×Int)=>t.2=k∧Tr t.1 l.length (fun i j=>i < k∧j < k∧IJ adj l i j)) ⟨rfl,Tr.congr (fun i j _ _=>by simp) (Tr.blank _)⟩ ?_
 rintro k ⟨T,i⟩ hk ⟨rfl,hT⟩
 simp only at hT
 unfold graph_induced_l9
 by_cases hkl:k < l.length
 ·obtain ⟨x,hx⟩:∃ x,l[k]?=some x:=⟨l[k],by simp [hkl]⟩
  have e1:getI l (k:Int)=some x:=hx
  have hxr:=hr x (mem_get hx)
  have hgx:adj[x.toNat]?=some (adj[x.toNat]'(by omega)):=by simp [show x.toNat < adj.length by omega]
  have hgl:=hG.len hgx
  have hw:wa .i64 (k:Int) 1=((k+1:Nat):Int):=wa1 (by omega)
  have e5:(k:Int) < (l.length:Int):=by omega
  simp only [vcC,Bool.false_eq_true,reduceCtorEq,e1,e5]
  refine ⟨by omega,by omega,by omega,?_⟩
  have hz:(0:Int).toNat=0:=rfl
  rw [hz,List.drop_zero]
  refine ret_call (P:=fun T'=>Tr T' l.length (fun i j=>(i < k∧j < k∧IJ adj l i j)∨(i=k∧j < k∧IJ adj l k j)∨(j=k∧i < k∧IJ adj l k i))) ?_ ?_
  ·refine ret_loop k (fun m (t:List BL×Int)=>t.2=m∧Tr t.1 l.length (fun i j=>(i < k∧j < k∧IJ adj l i j)∨(i=k∧j < m∧IJ adj l k j)∨(j=k∧i < m∧IJ adj l k i))) ⟨rfl,Tr.congr (fun i j _ _=>by simp) hT⟩ ?_
   rintro m ⟨T,i⟩ hm ⟨rfl,hT⟩
   simp only at hT
   unfold graph_induced_l12 graph_induced_j13
   have htl:(l.take k).length=k:=by simp; omega
   by_cases hmk:m < k
   ·obtain ⟨y,hy⟩:∃ y,l[m]?=some y:=⟨l[m]'(by omega),by simp [show m < l.length by omega]⟩
    have hy':(l.take k)[m]?=some y:=by rw [List.getElem?_take,if_pos hmk,hy]
    have e2:getI (l.take k) (m:Int)=some y:=hy'
    have hyr:=hr y (mem_get hy)
    have e3:=joined_ok hG (getI_of hxr.1 hgx) hxr.1 (by omega) y
    have e6:(m:Int) < ((l.take k).length:Int):=by omega
    have hw2:wa .i64 (m:Int) 1=((m+1:Nat):Int):=wa1 (by omega)
    have hiff:y∈adj[x.toNat]'(by omega)↔IJ adj l k m:=by
     constructor
     ·intro h
      exact ⟨x,y,hx,hy,_,hgx,by rwa [show ((y.toNat:Nat):Int)=y by omega]⟩
     rintro ⟨x',y',h1,h2,l',h3,h4⟩
     rw [hx] at h1; rw [hy] at h2
     obtain rfl:=sInj h1
     obtain rfl:=sInj h2
     rw [hgx] at h3
     obtain rfl:=sInj h3
     rwa [show ((y.toNat:Nat):Int)=y by omega] at h4
    simp only [vcC,Bool.false_eq_true,reduceCtorEq,e2,e3,e6,hw2]
    refine ⟨fun h=>?_,fun h=>⟨hmk,trivial,Tr.congr (fun i j _ _=>?_) hT⟩⟩
    ·have hJ:=hiff.1 (by simpa using h)
     obtain ⟨T',j1,j2⟩:=join_ok hT hkl (show m < l.length by omega)
     rw [ret_of j1]
     refine ⟨hmk,trivial,Tr.congr (fun i j _ _=>?_) j2⟩
     constructor
     ·rintro (⟨_,⟨rfl,rfl⟩ | ⟨rfl,rfl⟩⟩ | h | h | h)
      ·exact .inr (.inl ⟨rfl,by omega,hJ⟩)
      ·exact .inr (.inr ⟨rfl,by omega,hJ⟩)
      ·exact .inl h
      ·exact .inr (.inl ⟨h.1,by omega,h.2.2⟩)
      exact .inr (.inr ⟨h.1,by omega,h.2.2⟩)
     rintro (h | ⟨rfl,h1,h2⟩ | ⟨rfl,h1,h2⟩)
     ·exact .inr (.inl h)
     ·by_cases hjm:j=m
      ·subst hjm; exact .inl ⟨by omega,.inl ⟨rfl,rfl⟩⟩
      exact .inr (.inr (.inl ⟨rfl,by omega,h2⟩))
     by_cases him:i=m
     ·subst him; exact .inl ⟨by omega,.inr ⟨rfl,rfl⟩⟩
     exact .inr (.inr (.inr ⟨rfl,by omega,h2⟩))
    have hJ:¬ IJ adj l k m:=fun hh=>h (by simpa using hiff.2 hh)
    constructor
    ·rintro (h | h | h)
     ·exact .inl h
     ·exact .inr (.inl ⟨h.1,by omega,h.2.2⟩)
     exact .inr (.inr ⟨h.1,by omega,h.2.2⟩)
    rintro (h | ⟨rfl,h1,h2⟩ | ⟨rfl,h1,h2⟩)
    ·exact .inl h
    ·by_cases hjm:j=m
     ·subst hjm; exact absurd h2 hJ
     exact .inr (.inl ⟨rfl,by omega,h2⟩)
    by_cases him:i=m
    ·subst him; exact absurd h2 hJ
    exact .inr (.inr ⟨rfl,by omega,h2⟩)
   have e6:¬ (m:Int) < ((l.take k).length:Int):=by omega
   have:m=k:=by omega
   subst this
   simp only [vcC,Bool.false_eq_true,reduceCtorEq,e6]
   exact hT
  intro T' hT'
  refine ⟨hkl,hw,Tr.congr (fun i j _ _=>?_) hT'⟩
  constructor
  ·rintro (h | ⟨rfl,h1,h2⟩ | ⟨rfl,h1,h2⟩)
   ·exact ⟨by omega,by omega,h.2.2⟩
   ·exact ⟨by omega,by omega,h2⟩
   exact ⟨by omega,by omega,h2.sym hG⟩
  rintro ⟨h1,h2,h3⟩
  by_cases hik:i=k
  ·subst hik
   by_cases hjk:j=i
   ·subst hjk; exact (h3.ne hG).elim
   exact .inr (.inl ⟨rfl,by omega,h3⟩)
  by_cases hjk:j=k
  ·subst hjk; exact .inr (.inr ⟨rfl,by omega,h3.sym hG⟩)
  exact .inl ⟨by omega,by omega,h3⟩
 have e5:¬ (k:Int) < (l.length:Int):=by omega
 simp only [vcC,Bool.false_eq_true,reduceCtorEq,e5]
 exact Tr.congr (fun i j hi hj=>⟨fun h=>h.2.2,fun h=>⟨by omega,by omega,h⟩⟩) hT
end Pl
/- Orders; that nothing stands twice. -/
namespace Pl
open Sx Go M Vc
structure Pm (l:LI) (n:Nat):Prop where
 len:l.length=n
 nd:l.Nodup
 rng:∀ x,x∈l→0≤x∧x < (n:Int)
theorem compact_iff {m:LI} (hs:m.Pairwise (·≤·)):(Go.Lib.compact m).length < m.length↔¬ m.Nodup:=by
 have hlen:(Go.Lib.compact m).length=((List.range m.length).filter (Go.Lib.keeps m.toArray)).length:=by
  unfold Go.Lib.compact Go.Lib.compactUpTo
  rw [List.length_map]
 have hk:∀ j,j < m.length→(Go.Lib.keeps m.toArray j=true↔j=0∨m[j]!≠m[j - 1]!):=by
  intro j hj
  unfold Go.Lib.keeps
  simp
 constructor
 ·intro h hn
  have hasc:=asc_of hs hn
  have hall:∀ j,j < m.length→Go.Lib.keeps m.toArray j=true:=by
   intro j hj
   rw [hk j hj]
   by_cases h0:j=0
   ·exact .inl h0
   right
   have:=asc_get hasc hj (i:=j - 1) (by omega)
   rw [getElem!_pos m j hj,getElem!_pos m (j - 1) (by omega)]
   omega
  have:=Go.Lib.compact_all m hall
  rw [this] at h
  omega
 intro hn
 have hex:∃ j,j < m.length∧Go.Lib.keeps m.toArray j≠true:=by
  refine Classical.byContradiction fun hno=>hn ?_
  have hall:∀ j (hj:j+1 < m.length),m[j] < m[j+1]:=by
   intro j hj
   have h1:Go.Lib.keeps m.toArray (j+1)=true:=Classical.byContradiction fun h=>hno ⟨j+1,hj,h⟩
   rw [hk _ hj] at h1
   have h2:=h1.resolve_left (by omega)
   rw [getElem!_pos m (j+1) hj,getElem!_pos m (j+1 - 1) (by omega)] at h2
   have h3:=List.pairwise_iff_getElem.1 hs j (j+1) (by omega) hj (by omega)
   have h4:m[j+1 - 1]=m[j]:=by congr 1
   omega
  have hlt:∀ d i (h:i+1+d < m.length),m[i] < m[i+1+d]:=by
   intro d
   induction d with
   | zero=>intro i h; exact hall i h
   | succ d ih=>
    intro i h
    have h1:=ih i (by omega)
    have h2:=hall (i+1+d) (by omega)
    have h3:m[i+1+(d+1)]=m[i+1+d+1]:=by congr 1
    omega
  rw [List.nodup_iff_pairwise_ne,List.pairwise_iff_getElem]
  intro i j hi hj hij
  have:=hlt (j - i - 1) i (by omega)
  have h3:m[i+1+(j - i - 1)]'(by omega)=m[j]:=by congr 1; omega
  omega
 obtain ⟨j,hj,hkj⟩:=hex
 rw [hlen]
 have h1:=List.length_filter_lt_length_iff_exists.2 (⟨j,List.mem_range.2 hj,hkj⟩:∃ x,x∈List.range m.length∧¬ Go.Lib.keeps m.toArray x=true)
 simpa using h1
theorem twice_e {l:LI} (hl:l.length≤100000):graph_twice l=some (decide (¬ l.Nodup)):=by
 have hp:=isortI_perm l
 have hs:=isortI_sorted l
 have hlen:=hp.length_eq
 have h1:=compact_iff hs
 rw [hlen,hp.nodup_iff] at h1
 have e1:sortI l=some (isortI l):=by unfold sortI BIG; rw [if_pos (by omega)]
 have e2:compactI (isortI l)=some (Go.Lib.compact (isortI l)):=by unfold compactI BIG; rw [if_pos (by omega)]
 have e3:colV l=some l:=by unfold colV BIG; rw [if_pos (by omega)]
 unfold graph_twice slices_Values_int slices_Sorted_int slices_Collect_int
 simp only [obs,e1,e2,e3]
 congr 1
 rw [decide_eq_decide,← h1]
 omega
end Pl
/- Orders made from numbers; relabelling by the program and by the document. -/
namespace Pl
open Sx Go M Vc
theorem rtable_ok {adj:L2} (hG:Gr adj) (hn:adj.length≤1000):∃ T,sparseref12_Table adj=some T∧Tr T adj.length (nbp adj):=by
 have:Ret (sparseref12_Table adj) (fun T=>Tr T adj.length (nbp adj)):=by
  unfold sparseref12_Table
  simp only [ret_bind,ret_some]
  refine ret_loop adj.length (fun k (t:List BL×Int)=>t.2=k∧t.1.length=k∧∀ i,i < k→∃ r,t.1[i]?=some r∧r.length=adj.length∧∀ j,j < adj.length→∃ b:Bool,r[j]?=some b∧(b=true↔nbp adj i j)) ⟨rfl,rfl,fun i h=>by omega⟩ ?_
  rintro k ⟨T,i⟩ hk ⟨rfl,h1,h2⟩
  simp only at h1 h2
  unfold sparseref12_Table_l3
  by_cases hkn:k < adj.length
  ·have hg:adj[k]?=some adj[k]:=by simp [hkn]
   have hgI:getI adj (k:Int)=some adj[k]:=getI_lt hkn
   have hgl:=hG.len hg
   have hw:wa .i64 (k:Int) 1=((k+1:Nat):Int):=wa1 (by omega)
   have e5:(k:Int) < (adj.length:Int):=by omega
   simp only [vcC,Bool.false_eq_true,reduceCtorEq,e5,hw]
   refine ⟨by omega,by omega,?_⟩
   refine ret_call (P:=fun r=>r.length=adj.length∧∀ j,j < adj.length→∃ b:Bool,r[j]?=some b∧(b=true↔nbp adj k j)) ?_ ?_
   ·have hrng:=hG.rng k adj[k]
    have hmem:∀ j:Nat,nbp adj k j↔(j:Int)∈adj[k]:=by
     intro j
     constructor
     ·rintro ⟨l,g1,g2⟩
      rw [hg] at g1
      obtain rfl:=sInj g1
      exact g2
     exact fun hm=>⟨_,hg,hm⟩
    have hr:∀ x,x∈adj[k]→0≤x∧x < adj.length:=fun x hx=>⟨(hrng x hg hx).1,(hrng x hg hx).2.1⟩
    clear hrng
    generalize adj[k]=l at hgI hgl hmem hr
    refine ret_loop l.length (fun m (t:BL×Int)=>t.2=m∧t.1.length=adj.length∧∀ j:Nat,j < adj.length→t.1[j]?=some (decide ((j:Int)∈l.take m))) ⟨rfl,by simp,fun j hj=>by simp [hj]⟩ ?_
    rintro m ⟨t,i⟩ hm ⟨rfl,t1,t2⟩
    simp only at t1 t2
    unfold sparseref12_Table_l4
    by_cases hml:m < l.length
    ·obtain ⟨x,hx⟩:∃ x,l[m]?=some x:=⟨l[m],by simp [hml]⟩
     have hxr:=hr x (mem_get hx)
     have e1:getI l (m:Int)=some x:=hx
     have hw2:wa .i64 (m:Int) 1=((m+1:Nat):Int):=wa1 (by omega)
     have e6:(m:Int) < (l.length:Int):=by omega
     simp only [vcC,Bool.false_eq_true,reduceCtorEq,hgI,e1,e6,hw2]
     refine ⟨hxr.1,by omega,hml,trivial,by simp [t1],fun j hj=>?_⟩
     rw [List.getElem?_set,t2 j hj]
     by_cases hxj:x.toNat=j
     ·rw [if_pos hxj,if_pos (by omega)]
      congr 1; symm
      rw [decide_eq_true_iff,mts hx]
      exact .inr (by omega)
     rw [if_neg hxj]
     congr 1
     rw [decide_eq_decide,mts hx]
     exact ⟨.inl,fun h=>h.resolve_right (by omega)⟩
    have e6:¬ (m:Int) < (l.length:Int):=by omega
    simp only [vcC,Bool.false_eq_true,reduceCtorEq,hgI,e6]
    exact ⟨t1,fun j hj=>⟨_,t2 j hj,by rw [decide_eq_true_iff,take_all (by omega),hmem]⟩⟩
   rintro r ⟨r1,r2⟩
   refine ⟨by simp; omega,hkn,trivial,by simp [h1],fun i hi=>?_⟩
   by_cases hik:i=k
   ·subst hik
    exact ⟨r,by rw [List.getElem?_append_right (by omega)]; simp [h1],r1,r2⟩
   rw [List.getElem?_append_left (by omega)]
   exact h2 i (by omega)
  have e5:¬ (k:Int) < (adj.length:Int):=by omega
  have:k=adj.length:=by omega
  subst this
  simp only [vcC,Bool.false_eq_true,reduceCtorEq,e5]
  exact ⟨h1,h2⟩
 exact this
theorem rempty_ok {n:Nat} (hn:n≤1000):sparseref12_empty (n:Int)=some (List.replicate n (List.replicate n false)):=by
 refine Ret.eq ?_
 unfold sparseref12_empty
 simp only [ret_bind,ret_some]
 refine ret_loop n (fun k (t:List BL×Int)=>t.2=k∧t.1=List.replicate k (List.replicate n false)) ⟨rfl,rfl⟩ ?_
 rintro k ⟨t,i⟩ hk ⟨rfl,rfl⟩
 unfold sparseref12_empty_l1
 by_cases hkn:k < n
 ·have hw:wa .i64 (k:Int) 1=((k+1:Nat):Int):=wa1 (by omega)
  have e5:(k:Int) < (n:Int):=by omega
  simp only [vcC,Bool.false_eq_true,reduceCtorEq,e5,hw]
  exact ⟨by omega,by omega,by simp; omega,hkn,trivial,by rw [List.replicate_succ']⟩
 have e5:¬ (k:Int) < (n:Int):=by omega
 have:k=n:=by omega
 subst this
 simp only [vcC,Bool.false_eq_true,reduceCtorEq,e5]
theorem rrange_ok {l:LI} {n:Nat} (hl:l.length≤1000) (h:∀ x,x∈l→0≤x∧x < (n:Int)):sparseref09_Range l (n:Int)=some true:=by
 refine Ret.eq ?_
 unfold sparseref09_Range
 rw [ret_bind]
 refine ret_call (P:=fun o=>o=.inl ()) ?_ (by rintro _ rfl; rw [ret_some])
 refine ret_loop l.length (fun k (t:Int)=>t=(k:Int)) rfl ?_
 rintro k t hk rfl
 unfold sparseref09_Range_l3
 by_cases hkl:k < l.length
 ·have hx:=h _ (List.getElem_mem hkl)
  have e1:getI l (k:Int)=some l[k]:=getI_lt hkl
  have e5:(k:Int) < (l.length:Int):=by omega
  have hw:wa .i64 (k:Int) 1=((k+1:Nat):Int):=wa1 (by omega)
  have e6:¬ l[k] < 0:=by omega
  have e7:¬ (n:Int)≤l[k]:=by omega
  simp only [vcC,Bool.false_eq_true,reduceCtorEq,e1,e5,e6,e7,hw]
  exact ⟨by omega,trivial⟩
 have e5:¬ (k:Int) < (l.length:Int):=by omega
 simp only [vcC,Bool.false_eq_true,reduceCtorEq,e5]
theorem rtwice_ok {l:LI} (hl:l.length≤1000) (h:l.Nodup):sparseref09_Twice l=some false:=by
 refine Ret.eq ?_
 unfold sparseref09_Twice
 rw [ret_bind]
 refine ret_call (P:=fun o=>o=.inl ()) ?_ (by rintro _ rfl; rw [ret_some])
 refine ret_loop l.length (fun k (t:Int)=>t=(k:Int)) rfl ?_
 rintro k t hk rfl
 unfold sparseref09_Twice_l1
 by_cases hkl:k < l.length
 ·have hno:=nodup_take h hkl
  have e1:getI l (k:Int)=some l[k]:=getI_lt hkl
  have e5:(k:Int) < (l.length:Int):=by omega
  have hw:wa .i64 (k:Int) 1=((k+1:Nat):Int):=wa1 (by omega)
  have hz:(0:Int).toNat=0:=rfl
  have e2:∀ {Q:Bool→Prop},Ret (sparsekit_In (l.take k) l[k]) Q=Q false:=by
   intro Q
   rw [kin_ok (by simp; omega),decide_eq_false hno]
  simp only [vcC,Bool.false_eq_true,reduceCtorEq,e1,e5,hw,hz,List.drop_zero,e2]
  exact ⟨by omega,by omega,by omega,trivial,hkl,trivial⟩
 have e5:¬ (k:Int) < (l.length:Int):=by omega
 simp only [vcC,Bool.false_eq_true,reduceCtorEq,e5]
open Classical in
theorem rinduced_ok {adj:L2} (hG:Gr adj) (hn:adj.length≤200) {l:LI} (hl:l.length≤200) (hr:∀ x,x∈l→0≤x∧x < adj.length) (hnd:l.Nodup):sparseref12_Induced adj l=some ((List.range l.length).map fun i=>coll (fun j=>IJ adj l i j) l.length,0):=by
 obtain ⟨T,t1,t2⟩:=rtable_ok hG (by omega)
 refine Ret.eq ?_
 unfold sparseref12_Induced
 rw [bindS (rCheck_ok hG hn),if_pos rfl,bindS (rrange_ok (by omega) hr),if_pos rfl,bindS (rtwice_ok (by omega) hnd)]
 simp only [Bool.false_eq_true,if_false]
 rw [bindS t1,bindS (rempty_ok (by omega))]
 simp only [ret_bind]
 refine ret_call (P:=fun O=>Tr O l.length (IJ adj l)) ?_ ?_
 ·refine ret_loop l.length (fun k (t:List BL×Int)=>t.2=k∧Tr t.1 l.length (fun i j=>i < k∧IJ adj l i j)) ⟨rfl,Tr.congr (fun i j _ _=>by simp) (Tr.blank _)⟩ ?_
  rintro k ⟨O,i⟩ hk ⟨rfl,hO⟩
  simp only at hO
  unfold sparseref12_Induced_l3
  by_cases hkl:k < l.length
  ·obtain ⟨x,hx⟩:∃ x,l[k]?=some x:=⟨l[k],by simp [hkl]⟩
   have hxr:=hr x (mem_get hx)
   have e1:getI l (k:Int)=some x:=hx
   obtain ⟨u,hu⟩:=Int.eq_ofNat_of_zero_le hxr.1
   obtain ⟨rT,g1,g2,g3,g4⟩:=t2.row (i:=u) (by omega)
   have hw:wa .i64 (k:Int) 1=((k+1:Nat):Int):=wa1 (by omega)
   have e5:(k:Int) < (l.length:Int):=by omega
   simp only [vcC,Bool.false_eq_true,reduceCtorEq,e5,hw]
   refine ret_call (P:=fun O'=>Tr O' l.length (fun i j=>i < k+1∧IJ adj l i j)) ?_ (fun O' hO'=>⟨hkl,trivial,hO'⟩)
   refine ret_loop l.length (fun m (t:List BL×Int)=>t.2=m∧Tr t.1 l.length (fun i j=>(i < k∧IJ adj l i j)∨(i=k∧j < m∧IJ adj l i j))) ⟨rfl,Tr.congr (fun i j _ _=>by simp) hO⟩ ?_
   rintro m ⟨O,i⟩ hm ⟨rfl,hO⟩
   simp only at hO
   unfold sparseref12_Induced_l4
   by_cases hml:m < l.length
   ·obtain ⟨y,hy⟩:∃ y,l[m]?=some y:=⟨l[m],by simp [hml]⟩
    have hyr:=hr y (mem_get hy)
    have e2:getI l (m:Int)=some y:=hy
    obtain ⟨v,hv⟩:=Int.eq_ofNat_of_zero_le hyr.1
    obtain ⟨b,b1,b2⟩:=g4 v (by omega)
    obtain ⟨rO,o1,o2,o3,_⟩:=hO.row hkl
    have hOl:=hO.1
    have e6:(m:Int) < (l.length:Int):=by omega
    have hw2:wa .i64 (m:Int) 1=((m+1:Nat):Int):=wa1 (by omega)
    have e3:getI T x=some rT:=by rw [hu]; exact g1
    have e4:getI rT y=some b:=by rw [hv]; exact b1
    have hJ:nbp adj u v↔IJ adj l k m:=by
     constructor
     ·intro h; exact ⟨x,y,hx,hy,by rw [hu,hv]; exact h⟩
     rintro ⟨x',y',q1,q2,q3⟩
     rw [hx] at q1; rw [hy] at q2
     obtain rfl:=sInj q1
     obtain rfl:=sInj q2
     rw [hu,hv] at q3; exact q3
    simp only [vcC,Bool.false_eq_true,reduceCtorEq,e1,e2,e3,e4,e6,hw2,o1]
    refine ⟨by omega,by omega,by omega,by omega,hml,trivial,Tr.congr (fun i j _ _=>?_) (hO.put (j:=m) hkl o2 (b2.trans hJ))⟩
    constructor
    ·rintro (⟨rfl,rfl,h⟩ | ⟨_,h | h⟩)
     ·exact .inr ⟨rfl,by omega,h⟩
     ·exact .inl h
     exact .inr ⟨h.1,by omega,h.2.2⟩
    rintro (h | ⟨rfl,h1,h2⟩)
    ·exact .inr ⟨by omega,.inl h⟩
    by_cases hjm:j=m
    ·subst hjm; exact .inl ⟨rfl,rfl,h2⟩
    exact .inr ⟨by omega,.inr ⟨rfl,by omega,h2⟩⟩
   have e6:¬ (m:Int) < (l.length:Int):=by omega
   simp only [vcC,Bool.false_eq_true,reduceCtorEq,e6]
   refine Tr.congr (fun i j hi hj=>?_) hO
   constructor
   ·rintro (h | ⟨rfl,h1,h2⟩)
    ·exact ⟨by omega,h.2⟩
    exact ⟨by omega,h2⟩
   rintro ⟨h1,h2⟩
   by_cases hik:i=k
   ·exact .inr ⟨hik,by omega,h2⟩
   exact .inl ⟨by omega,h2⟩
  have e5:¬ (k:Int) < (l.length:Int):=by omega
  simp only [vcC,Bool.false_eq_true,reduceCtorEq,e5]
  exact Tr.congr (fun i j hi hj=>⟨fun h=>h.2,fun h=>⟨by omega,h⟩⟩) hO
 intro O hO
 rw [ret_of (fromTable_ok hO.tb (by omega)),ret_some]
 congr 1
 refine List.map_congr_left fun i hi=>?_
 have hil:i < l.length:=by simpa using hi
 refine asc_unique (nbr_asc _) (coll_asc _) fun x=>?_
 rw [nbr_mem,coll_mem]
 simp only [decide_eq_true_eq]
 constructor
 ·rintro ⟨h1,h2,h3,h4 | h4⟩
  ·exact ⟨h1,h2,h4⟩
  exact ⟨h1,h2,h4.sym hG⟩
 rintro ⟨h1,h2,h3⟩
 exact ⟨h1,h2,fun h=>by rw [← h] at h3; exact h3.ne hG,.inl h3⟩
end Pl
/- The document's peripheral vertices and components; the law of the graphs made from numbers. -/
namespace Pl
open Sx Go M Vc
theorem loopN_sim {σ τ ρ ρ':Type} {step1:σ→Option (σ⊕ρ)} {step2:τ→Option (τ⊕ρ')} (R:σ→τ→Prop) (Q:ρ→ρ'→Prop)
  (h:∀ s t,R s t→(∀ s',step1 s=some (.inl s')→∃ t',step2 t=some (.inl t')∧R s' t')∧(∀ o,step1 s=some (.inr o)→∃ o',step2 t=some (.inr o')∧Q o o')):
  ∀ (k:Nat) (s:σ) (t:τ) (o:ρ),R s t→loopN step1 k s=some o→∃ o',loopN step2 k t=some o'∧Q o o':=by
 intro k
 induction k with
 | zero=>intro s t o _ h; simp [loopN] at h
 | succ k ih=>
  intro s t o hR ho
  simp only [loopN] at ho
  cases hs:step1 s with
  | none=>rw [hs] at ho; cases ho
  | some r=>
   rw [hs] at ho
   cases r with
   | inl s'=>
    obtain ⟨t',h1,h2⟩:=(h s t hR).1 s' hs
    obtain ⟨o',h3,h4⟩:=ih s' t' o h2 ho
    exact ⟨o',by simp [loopN,h1,h3],h4⟩
   | inr o1=>
    obtain rfl:=sInj ho
    obtain ⟨o',h1,h2⟩:=(h s t hR).2 o1 hs
    exact ⟨o',by simp [loopN,h1],h2⟩
theorem loop_sim {σ τ ρ ρ':Type} {step1:σ→Option (σ⊕ρ)} {step2:τ→Option (τ⊕ρ')} (R:σ→τ→Prop) (Q:ρ→ρ'→Prop) {s:σ} {t:τ} {o:ρ} (hR:R s t)
  (h:∀ s t,R s t→(∀ s',step1 s=some (.inl s')→∃ t',step2 t=some (.inl t')∧R s' t')∧(∀ o,step1 s=some (.inr o)→∃ o',step2 t=some (.inr o')∧Q o o')) (ho:loop step1 s=some o):∃ o',loop step2 t=some o'∧Q o o':=
 loopN_sim R Q h FUEL s t o hR ho
def dg (adj:L2) (u:Int):Nat:=(adj[u.toNat]?.getD []).length
def bst (adj:L2):Int→LI→Int
 | w,[]=>w
 | w,u::r=>bst adj (if dg adj u < dg adj w then u else w) r
theorem dg_get {adj:L2} {u:Int} (h:0≤u∧u < adj.length):∃ l,getI adj u=some l∧l.length=dg adj u:=by
 have hu:u.toNat < adj.length:=by omega
 refine ⟨adj[u.toNat],getI_of h.1 (by simp [hu]),by simp [dg,hu]⟩
theorem drop_at {l:LI} {k:Nat} (h:k < l.length):l.drop k=l[k]::l.drop (k+1):=by rw [List.drop_eq_getElem_cons h]
theorem bst_p {adj:L2} {l:LI} (hl:l.length≤1000) (hr:∀ x,x∈l→0≤x∧x < adj.length) {w:Int} (hw:0≤w∧w < adj.length):loop (graph_Peripheral_l13 l adj) (w,0)=some (bst adj w l):=by
 refine Ret.eq ?_
 refine ret_loop l.length (fun k (s:Int×Int)=>s.2=k∧(0≤s.1∧s.1 < adj.length)∧bst adj s.1 (l.drop k)=bst adj w l) ⟨rfl,hw,rfl⟩ ?_
 rintro k ⟨s,i⟩ hk ⟨rfl,hs,hb⟩
 simp only at hs hb
 unfold graph_Peripheral_l13 graph_Peripheral_j14
 by_cases hkl:k < l.length
 ·have hx:=hr _ (List.getElem_mem hkl)
  obtain ⟨a,a1,a2⟩:=dg_get hx
  obtain ⟨b,b1,b2⟩:=dg_get hs
  have e1:getI l (k:Int)=some l[k]:=getI_lt hkl
  have e5:(k:Int) < (l.length:Int):=by omega
  have hw1:wa .i64 (k:Int) 1=((k+1:Nat):Int):=wa1 (by omega)
  rw [drop_at hkl,bst] at hb
  simp only [vcC,Bool.false_eq_true,reduceCtorEq,e1,e5,a1,b1,hw1,a2,b2]
  refine ⟨fun h=>⟨hkl,trivial,hx,?_⟩,fun h=>⟨hkl,trivial,hs,?_⟩⟩
  ·rw [if_pos (by omega)] at hb; exact hb
  rw [if_neg (by omega)] at hb; exact hb
 have e5:¬ (k:Int) < (l.length:Int):=by omega
 simp only [vcC,Bool.false_eq_true,reduceCtorEq,e5]
 rw [List.drop_of_length_le (by omega)] at hb
 exact hb
theorem bst_r {adj:L2} {l:LI} (hl:l.length≤1000) (hr:∀ x,x∈l→0≤x∧x < adj.length) (hne:0 < l.length):loop (sparseref12_Peripheral_l14 l adj) (l[0],1)=some (bst adj l[0] l):=by
 refine Ret.eq ?_
 have h0:bst adj l[0] (l.drop 0)=bst adj l[0] (l.drop 1):=by
  rw [drop_at hne]
  show bst adj (if dg adj l[0] < dg adj l[0] then l[0] else l[0]) _=_
  rw [if_neg (by omega)]
 rw [List.drop_zero] at h0
 refine ret_loop l.length (fun k (s:Int×Int)=>s.2=((k+1:Nat):Int)∧(0≤s.1∧s.1 < adj.length)∧bst adj s.1 (l.drop (k+1))=bst adj l[0] l) ⟨rfl,hr _ (List.getElem_mem hne),h0.symm⟩ ?_
 rintro k ⟨s,i⟩ hk ⟨h,hs,hb⟩
 simp only at h hs hb
 subst h
 unfold sparseref12_Peripheral_l14 sparseref12_Peripheral_j15
 by_cases hkl:k+1 < l.length
 ·have hx:=hr _ (List.getElem_mem hkl)
  obtain ⟨a,a1,a2⟩:=dg_get hx
  obtain ⟨b,b1,b2⟩:=dg_get hs
  have e1:getI l ((k+1:Nat):Int)=some l[k+1]:=getI_lt hkl
  have e5:((k+1:Nat):Int) < (l.length:Int):=by omega
  have hw1:wa .i64 ((k+1:Nat):Int) 1=((k+1+1:Nat):Int):=wa1 (by omega)
  rw [drop_at hkl,bst] at hb
  simp only [vcC,Bool.false_eq_true,reduceCtorEq,e1,e5,a1,b1,hw1,a2,b2]
  refine ⟨fun h=>⟨by omega,trivial,hx,?_⟩,fun h=>⟨by omega,trivial,hs,?_⟩⟩
  ·rw [if_pos (by omega)] at hb; exact hb
  rw [if_neg (by omega)] at hb; exact hb
 have e5:¬ ((k+1:Nat):Int) < (l.length:Int):=by omega
 simp only [vcC,Bool.false_eq_true,reduceCtorEq,e5]
 rw [List.drop_of_length_le (by omega)] at hb
 exact hb
theorem far_same {adj:L2} {out:L2} (hlen:0 < out.length) (hl2:out.length≤1000) (hne:∀ l,l∈out→l≠[]) (hr:∀ l,l∈out→∀ x,x∈l→0≤x∧x < adj.length) (hsz:∀ l,l∈out→l.length≤1000) {w:Int} (h:farR adj out=some w):
  ((getI out (ws .i64 (out.length:Int) 1)).bind fun x102=>(getI x102 0).bind fun x104=>loop (sparseref12_Peripheral_l14 x102 adj) (x104,1))=some w:=by
 unfold farR at h
 have e:ws .i64 (out.length:Int) 1=((out.length - 1:Nat):Int):=by rw [ws_i (by omega) (by omega)]; omega
 have hk:out.length - 1 < out.length:=by omega
 rw [e,bindS (getI_lt hk)] at h ⊢
 have hm:=List.getElem_mem hk
 generalize out[out.length - 1]=l at hm h ⊢
 have hlp:=List.length_pos_iff.2 (hne l hm)
 have hll:=hsz l hm
 have hg0:getI l 0=some l[0]:=getI_lt hlp
 rw [bindS hg0] at h ⊢
 rw [bst_p hll (hr l hm) (hr l hm _ (List.getElem_mem hlp))] at h
 rw [bst_r hll (hr l hm) hlp]
 exact h
theorem rper_ok {adj:L2} (hG:Gr adj) (hn:adj.length≤30) {v:Nat} (hv:v < adj.length) {p:Int} (hp:graph_Peripheral adj (v:Int)=some p):sparseref12_Peripheral adj (v:Int)=some p:=by
 have hchk:=graphCheck_ok hG (show adj.length≤200 by omega)
 obtain ⟨a,lev,seen,c,a1,a2,a3,a4⟩:=levels_cls hG hn hv
 unfold graph_Peripheral graph_vertex at hp
 have e2:(v:Int) < (adj.length:Int):=by omega
 have e3:(0:Int)≤(v:Int):=by omega
 rw [bindS hchk] at hp
 simp only [e2,e3,if_pos,decide_true,Bool.and_self,Option.bind_some,Bool.not_true,Bool.false_eq_true,if_false,a1] at hp
 obtain ⟨o,ho,hp⟩:=bs hp
 obtain rfl:=sInj hp
 obtain ⟨o',h1,rfl⟩:=loop_sim (step1:=graph_Peripheral_l10 adj) (step2:=sparseref12_Peripheral_l11 adj) (fun s t=>t=s.1∧∃ q:Nat,s.1=(q:Int)∧q < adj.length∧graph_levels adj s.1=some s.2) (fun o o'=>o'=o) (s:=((v:Int),a)) (t:=(v:Int)) ⟨rfl,v,rfl,hv,a1⟩ (by
  rintro ⟨s,now⟩ t ⟨rfl,q,rfl,hq,hnow⟩
  simp only at hnow
  obtain ⟨now',lev',seen',c',g1,g2,g3,g4⟩:=levels_cls hG hn hq
  rw [hnow] at g1
  obtain rfl:=sInj g1
  obtain ⟨p1,p2,p3,p4,p5⟩:=bf_pre g2 hq hn
  obtain ⟨w,w1,w2,w3,w4⟩:=far_ok p1 (by omega) p3 p4 p5
  obtain ⟨u,rfl⟩:=Int.eq_ofNat_of_zero_le w3
  have hu:u < adj.length:=by omega
  obtain ⟨r,lev2,seen2,c2,k1,k2,k3,k4⟩:=levels_cls hG hn hu
  obtain ⟨ro,rl,rs,r1,r2⟩:=rLevels_ok hG hn hq
  obtain rfl:=g2.out_eq r2
  obtain ⟨so,sl,ss,s1,s2⟩:=rLevels_ok hG hn hu
  obtain rfl:=k2.out_eq s2
  have hf:=far_same p1 (by omega) p3 p4 p5 w1
  have hstep:sparseref12_Peripheral_l11 adj (q:Int)=if (r.length:Int)≤(now.length:Int) then some (.inr (q:Int)) else some (.inl (u:Int)):=by
   unfold sparseref12_Peripheral_l11
   rw [bindS r1]
   obtain ⟨l,f1,hf⟩:=bs hf
   obtain ⟨x,f2,f3⟩:=bs hf
   rw [bindS f1,bindS f2,bindS f3,bindS s1]
  rw [per_step w1 k1,hstep]
  by_cases hc:(r.length:Int)≤(now.length:Int)
  ·rw [if_pos hc,if_pos hc]
   refine ⟨fun s' h=>(by cases h),fun o h=>⟨_,rfl,?_⟩⟩
   have:=sInj h
   exact Sum.inr.inj this
  rw [if_neg hc,if_neg hc]
  refine ⟨fun s' h=>⟨_,rfl,?_⟩,fun o h=>(by cases h)⟩
  have:=Sum.inl.inj (sInj h)
  subst this
  exact ⟨rfl,u,rfl,hu,k1⟩) ho
 unfold sparseref12_Peripheral
 rw [bindS (rCheck_ok hG (by omega)),if_neg (by simp; omega),bindS h1]
theorem rmark_ok {ls:L2} {n:Nat} (hl:ls.length≤1000) (hs:∀ l,l∈ls→l.length≤1000) (hr:∀ l,l∈ls→∀ x,x∈l→0≤x∧x < (n:Int)):
  Ret (loop (sparseref12_Components_l71 ls) (List.replicate n false,0)) (fun t=>t.length=n∧∀ u:Nat,u < n→t[u]?=some (decide ((u:Int)∈ls.flatten))):=by
 refine ret_loop ls.length (fun k (t:BL×Int)=>t.2=k∧t.1.length=n∧∀ u:Nat,u < n→t.1[u]?=some (decide ((u:Int)∈(ls.take k).flatten))) ⟨rfl,by simp,fun u hu=>by simp [hu]⟩ ?_
 rintro k ⟨t,i⟩ hk ⟨rfl,h1,h2⟩
 simp only at h1 h2
 unfold sparseref12_Components_l71
 by_cases hkl:k < ls.length
 ·obtain ⟨l,hx⟩:∃ l,ls[k]?=some l:=⟨ls[k],by simp [hkl]⟩
  have hll:=hs l (mem_get hx)
  have hlr:=hr l (mem_get hx)
  have e1:getI ls (k:Int)=some l:=hx
  have e5:(k:Int) < (ls.length:Int):=by omega
  have hw:wa .i64 (k:Int) 1=((k+1:Nat):Int):=wa1 (by omega)
  simp only [vcC,Bool.false_eq_true,reduceCtorEq,e5,hw]
  refine ret_call (P:=fun s=>s.length=n∧∀ u:Nat,u < n→s[u]?=some (decide ((u:Int)∈(ls.take k).flatten∨(u:Int)∈l))) ?_ ?_
  ·refine ret_loop l.length (fun m (s:BL×Int)=>s.2=m∧s.1.length=n∧∀ u:Nat,u < n→s.1[u]?=some (decide ((u:Int)∈(ls.take k).flatten∨(u:Int)∈l.take m))) ⟨rfl,h1,fun u hu=>by rw [h2 u hu]; simp⟩ ?_
   rintro m ⟨s,i⟩ hm ⟨rfl,s1,s2⟩
   simp only at s1 s2
   unfold sparseref12_Components_l76
   by_cases hml:m < l.length
   ·obtain ⟨x,hx⟩:∃ x,l[m]?=some x:=⟨l[m],by simp [hml]⟩
    have hxr:=hlr x (mem_get hx)
    have e2:getI l (m:Int)=some x:=hx
    have e6:(m:Int) < (l.length:Int):=by omega
    have hw2:wa .i64 (m:Int) 1=((m+1:Nat):Int):=wa1 (by omega)
    simp only [vcC,Bool.false_eq_true,reduceCtorEq,e1,e2,e6,hw2]
    refine ⟨hxr.1,by omega,hml,trivial,by simp [s1],fun u hu=>?_⟩
    rw [List.getElem?_set,s2 u hu]
    by_cases hxu:x.toNat=u
    ·rw [if_pos hxu,if_pos (by omega)]
     congr 1; symm
     rw [decide_eq_true_iff,mts hx]
     exact .inr (.inr (by omega))
    rw [if_neg hxu]
    congr 1
    rw [decide_eq_decide,mts hx]
    constructor
    ·rintro (h | h)
     ·exact .inl h
     exact .inr (.inl h)
    rintro (h | h | h)
    ·exact .inl h
    ·exact .inr h
    omega
   have e6:¬ (m:Int) < (l.length:Int):=by omega
   simp only [vcC,Bool.false_eq_true,reduceCtorEq,e1,e6]
   exact ⟨s1,fun u hu=>by rw [s2 u hu,take_all (l:=l) (by omega)]⟩
  rintro s ⟨s1,s2⟩
  refine ⟨hkl,trivial,s1,fun u hu=>?_⟩
  rw [s2 u hu]
  congr 1
  rw [decide_eq_decide,tks hx,List.flatten_append]
  simp
 have e5:¬ (k:Int) < (ls.length:Int):=by omega
 simp only [vcC,Bool.false_eq_true,reduceCtorEq,e5]
 exact ⟨h1,fun u hu=>by rw [h2 u hu,take_all (by omega)]⟩
theorem rcoll_ok {adj:L2} (hn:adj.length≤1000) {seen t:BL} {tm:Nat→Prop} [DecidablePred tm] (hs:seen.length=adj.length) (ht:∀ u:Nat,u < adj.length→t[u]?=some (decide (tm u))):
  Ret (loop (sparseref12_Components_l74 adj t) (seen,[],0)) (fun s=>s.1.length=adj.length∧s.2=coll tm adj.length∧∀ u:Nat,u < adj.length→s.1[u]?=if tm u then some true else seen[u]?):=by
 refine ret_loop adj.length (fun k (s:BL×LI×Int)=>s.2.2=k∧s.1.length=adj.length∧s.2.1=coll tm k∧∀ u:Nat,u < adj.length→s.1[u]?=if u < k∧tm u then some true else seen[u]?) ⟨rfl,hs,rfl,fun u hu=>by simp⟩ ?_
 rintro k ⟨s,c,i⟩ hk ⟨h,h1,h2,h3⟩
 simp only at h h1 h2 h3
 subst h h2
 have hcl:=coll_len (tm:=tm) k
 unfold sparseref12_Components_l74 sparseref12_Components_j75
 by_cases hkl:k < adj.length
 ·have e1:getI t (k:Int)=some (decide (tm k)):=ht k hkl
  have e5:(k:Int) < (adj.length:Int):=by omega
  have hw:wa .i64 (k:Int) 1=((k+1:Nat):Int):=wa1 (by omega)
  simp only [vcC,Bool.false_eq_true,reduceCtorEq,e1,e5,hw,decide_eq_true_eq]
  refine ⟨fun h=>⟨by simp; omega,by omega,by omega,hkl,trivial,by simp [h1],by rw [coll,if_pos h],fun u hu=>?_⟩,fun h=>⟨hkl,trivial,h1,by rw [coll,if_neg h,List.append_nil],fun u hu=>?_⟩⟩
  ·rw [List.getElem?_set]
   by_cases hku:k=u
   ·subst hku; rw [if_pos rfl,if_pos (by omega),if_pos ⟨by omega,h⟩]
   rw [if_neg hku,h3 u hu]
   by_cases hc:u < k∧tm u
   ·rw [if_pos hc,if_pos ⟨by omega,hc.2⟩]
   rw [if_neg hc,if_neg (fun hh=>hc ⟨by omega,hh.2⟩)]
  rw [h3 u hu]
  by_cases hc:u < k∧tm u
  ·rw [if_pos hc,if_pos ⟨by omega,hc.2⟩]
  rw [if_neg hc,if_neg]
  rintro ⟨h4,h5⟩
  by_cases huk:u=k
  ·subst huk; exact h h5
  exact hc ⟨by omega,h5⟩
 have e5:¬ (k:Int) < (adj.length:Int):=by omega
 have:k=adj.length:=by omega
 subst this
 simp only [vcC,Bool.false_eq_true,reduceCtorEq,e5]
 refine ⟨h1,trivial,fun u hu=>?_⟩
 rw [h3 u hu]
 simp [hu]
open Classical in
theorem rcomponents_ok {adj:L2} (hG:Gr adj) (hn:adj.length≤30):∃ out,sparseref12_Components adj=some out∧CS adj adj.length out:=by
 have:Ret (sparseref12_Components adj) (fun out=>CS adj adj.length out):=by
  unfold sparseref12_Components
  rw [bindS (rCheck_ok hG (by omega)),if_pos rfl,bindS (mkL_nat false adj.length (by omega))]
  simp only [ret_bind,ret_some]
  refine ret_loop adj.length (fun k (t:BL×L2×Int)=>t.2.2=k∧CS adj k t.2.1∧t.1.length=adj.length∧∀ u:Nat,u < adj.length→t.1[u]?=some (decide (∃ c,c∈t.2.1∧(u:Int)∈c))) ⟨rfl,⟨by simp,by simp,by simp,by simp,by simp⟩,by simp,fun u hu=>by simp [hu]⟩ ?_
  rintro k ⟨seen,out,i⟩ hk ⟨rfl,hC,hl,hs⟩
  simp only at hC hl hs
  unfold sparseref12_Components_l51 sparseref12_Components_j68
  by_cases hkn:k < adj.length
  ·have e1:getI seen (k:Int)=some (decide (∃ c,c∈out∧(k:Int)∈c)):=hs k hkn
   have e5:(k:Int) < (adj.length:Int):=by omega
   have hw:wa .i64 (k:Int) 1=((k+1:Nat):Int):=wa1 (by omega)
   obtain ⟨o,lev,sn,c,c1,c2,c3,c4⟩:=levels_cls hG hn hkn
   obtain ⟨o',lev',sn',r1,r2⟩:=rLevels_ok hG hn hkn
   obtain rfl:=c2.out_eq r2
   obtain ⟨p1,p2,p3,p4,p5⟩:=bf_pre c2 hkn hn
   simp only [vcC,Bool.false_eq_true,reduceCtorEq,e1,e5,hw,decide_eq_true_eq]
   refine ⟨fun h=>⟨hkn,trivial,hC.next h,hl,hs⟩,fun hno=>?_⟩
   rw [ret_of r1]
   refine ⟨by omega,by omega,?_⟩
   refine ret_call (rmark_ok (by omega) p5 p4) ?_
   rintro t ⟨t1,t2⟩
   refine ret_call (rcoll_ok (by omega) hl t2) ?_
   rintro ⟨s,c'⟩ ⟨s1,s2,s3⟩
   simp only at s1 s2 s3
   have hcc:c'=c:=by
    rw [s2]
    refine asc_unique (coll_asc _) c3.asc fun x=>?_
    rw [coll_mem]
    constructor
    ·rintro ⟨h1,h2,h3⟩
     rw [c4] at h3
     rwa [show ((x.toNat:Nat):Int)=x by omega] at h3
    intro hx
    have:=c3.rng x hx
    refine ⟨this.1,by omega,?_⟩
    rw [c4,show ((x.toNat:Nat):Int)=x by omega]
    exact hx
   have hcl2:=hC.len
   refine ⟨by simp; omega,hkn,trivial,by rw [hcc]; exact hC.push hG hno c3,s1,fun u hu=>?_⟩
   simp only [hcc]
   rw [s3 u hu,hs u hu]
   by_cases huc:(u:Int)∈c
   ·rw [if_pos ((c4 _).2 huc)]
    congr 1; symm
    rw [decide_eq_true_iff]
    exact ⟨c,by simp,huc⟩
   rw [if_neg (fun h=>huc ((c4 _).1 h))]
   congr 1
   rw [decide_eq_decide]
   constructor
   ·rintro ⟨c',h1,h2⟩; exact ⟨c',by simp [h1],h2⟩
   rintro ⟨c',h1,h2⟩
   rw [List.mem_append,List.mem_singleton] at h1
   rcases h1 with h1 | rfl
   ·exact ⟨c',h1,h2⟩
   exact absurd h2 huc
  have e5:¬ (k:Int) < (adj.length:Int):=by omega
  have:k=adj.length:=by omega
  subst this
  simp only [vcC,Bool.false_eq_true,reduceCtorEq,e5]
  exact hC
 exact this
theorem CS.uniq {adj:L2} (hG:Gr adj) {out out':L2} (h:CS adj adj.length out) (h':CS adj adj.length out'):out=out':=by
 have key:∀ {out out':L2},CS adj adj.length out→CS adj adj.length out'→∀ c,c∈out→c∈out':=by
  intro out out' h h' c hc
  obtain ⟨r,r1,r2,r3⟩:=h.cls c hc
  obtain ⟨c',k1,k2⟩:=h'.all r r1
  obtain ⟨r',q1,q2,q3⟩:=h'.cls c' k1
  have a1:∀ u:Nat,(u:Int)∈c→(u:Int)∈c':=r2.min (fun u=>(u:Int)∈c') k2 (fun v w _ hv hw=>q2.clo v w hv hw)
  have a2:(r':Int)∈c:=by
   refine Classical.byContradiction fun hno=>?_
   exact q2.min (fun u=>¬ (u:Int)∈c) hno (fun v w _ hv hw hwc=>hv (r2.clo w v hwc (nbp_sym hG hw))) r k2 r2.mem
  have a3:∀ u:Nat,(u:Int)∈c'→(u:Int)∈c:=q2.min (fun u=>(u:Int)∈c) a2 (fun v w _ hv hw=>r2.clo v w hv hw)
  have:c=c':=asc_unique r2.asc q2.asc fun x=>by
   constructor
   ·intro hx
    have:=r2.rng x hx
    have:=a1 x.toNat (by rwa [show ((x.toNat:Nat):Int)=x by omega])
    rwa [show ((x.toNat:Nat):Int)=x by omega] at this
   intro hx
   have:=q2.rng x hx
   have:=a3 x.toNat (by rwa [show ((x.toNat:Nat):Int)=x by omega])
   rwa [show ((x.toNat:Nat):Int)=x by omega] at this
  rw [this]; exact k1
 have hd:∀ {out:L2},CS adj adj.length out→(out.map fun c=>c.headD 0).Pairwise (· < ·):=by
  intro out h
  rw [List.pairwise_map,List.pairwise_iff_getElem]
  intro i j hi hj hij
  obtain ⟨r,_,_,r3⟩:=h.cls _ (List.getElem_mem hi)
  obtain ⟨q,_,_,q3⟩:=h.cls _ (List.getElem_mem hj)
  have:=List.pairwise_iff_getElem.1 h.ord i j hi hj hij _ _ r3 q3
  rw [List.headD_eq_head?_getD,List.headD_eq_head?_getD,r3,q3]
  exact this
 have hm:(out.map fun c=>c.headD 0)=(out'.map fun c=>c.headD 0):=asc_unique (hd h) (hd h') fun x=>by
  simp only [List.mem_map]
  constructor
  ·rintro ⟨c,h1,h2⟩; exact ⟨c,key h h' c h1,h2⟩
  rintro ⟨c,h1,h2⟩; exact ⟨c,key h' h c h1,h2⟩
 have hlen:out.length=out'.length:=by simpa using congrArg List.length hm
 apply List.ext_getElem hlen
 intro i h1 h2
 obtain ⟨r,_,r2,r3⟩:=h.cls _ (List.getElem_mem h1)
 obtain ⟨q,_,q2,q3⟩:=h'.cls _ (List.getElem_mem h2)
 have:out[i].headD 0=out'[i].headD 0:=by
  have:=congrArg (fun l=>l[i]?) hm
  simpa [h1,h2] using this
 rw [List.headD_eq_head?_getD,List.headD_eq_head?_getD,r3,q3] at this
 have hrq:r=q:=by simp at this; omega
 subst hrq
 exact r2.uniq q2
theorem kints_ok {l m:LI} (hl:l.length≤100000):sparsekit_Ints l m=some (decide (l=m)):=by
 unfold sparsekit_Ints
 by_cases hlen:l.length=m.length
 ·rw [if_pos (by omega)]
  refine Ret.eq ?_
  rw [ret_bind]
  refine ret_call (P:=fun o=>(o=.inl ()∧l=m)∨(o=.inr ()∧l≠m)) ?_ ?_
  ·refine ret_loop l.length (fun k (t:Int)=>t=(k:Int)∧l.take k=m.take k) ⟨rfl,by simp⟩ ?_
   rintro k t hk ⟨rfl,hI⟩
   unfold sparsekit_Ints_l1
   by_cases hkl:k < l.length
   ·have e1:getI l (k:Int)=some l[k]:=getI_lt hkl
    have e2:getI m (k:Int)=some (m[k]'(by omega)):=getI_lt (by omega)
    have e5:(k:Int) < (l.length:Int):=by omega
    have hw:wa .i64 (k:Int) 1=((k+1:Nat):Int):=wa1 (by omega)
    simp only [vcC,Bool.false_eq_true,reduceCtorEq,e1,e2,e5,hw]
    refine ⟨fun h=>⟨hkl,trivial,?_⟩,fun h=>.inr ⟨trivial,fun he=>h (by subst he; rfl)⟩⟩
    rw [tks (x:=l[k]) (by simp [hkl]),tks (x:=m[k]'(by omega)) (by simp [show k < m.length by omega]),hI,h]
   have e5:¬ (k:Int) < (l.length:Int):=by omega
   simp only [vcC,Bool.false_eq_true,reduceCtorEq,e5]
   refine .inl ⟨trivial,?_⟩
   rwa [take_all (by omega),take_all (by omega)] at hI
  rintro o (⟨rfl,h⟩ | ⟨rfl,h⟩)
  ·rw [ret_some,decide_eq_true h]
  rw [ret_some,decide_eq_false h]
 rw [if_neg (by omega),decide_eq_false (fun h=>hlen (by rw [h]))]
theorem klists_ok {l m:L2} (hl:l.length≤100000) (hs:∀ x,x∈l→x.length≤100000):sparsekit_Lists l m=some (decide (l=m)):=by
 unfold sparsekit_Lists
 by_cases hlen:l.length=m.length
 ·rw [if_pos (by omega)]
  refine Ret.eq ?_
  rw [ret_bind]
  refine ret_call (P:=fun o=>(o=.inl ()∧l=m)∨(o=.inr ()∧l≠m)) ?_ ?_
  ·refine ret_loop l.length (fun k (t:Int)=>t=(k:Int)∧l.take k=m.take k) ⟨rfl,by simp⟩ ?_
   rintro k t hk ⟨rfl,hI⟩
   unfold sparsekit_Lists_l1
   by_cases hkl:k < l.length
   ·have e1:getI l (k:Int)=some l[k]:=getI_lt hkl
    have e2:getI m (k:Int)=some (m[k]'(by omega)):=getI_lt (by omega)
    have e3:=kints_ok (l:=l[k]) (m:=m[k]'(by omega)) (hs _ (List.getElem_mem hkl))
    have e5:(k:Int) < (l.length:Int):=by omega
    have hw:wa .i64 (k:Int) 1=((k+1:Nat):Int):=wa1 (by omega)
    simp only [vcC,Bool.false_eq_true,reduceCtorEq,e1,e2,e3,e5,hw,decide_eq_true_eq]
    refine ⟨fun h=>⟨hkl,trivial,?_⟩,fun h=>.inr ⟨trivial,fun he=>h (by subst he; rfl)⟩⟩
    rw [tks (x:=l[k]) (by simp [hkl]),tks (x:=m[k]'(by omega)) (by simp [show k < m.length by omega]),hI,h]
   have e5:¬ (k:Int) < (l.length:Int):=by omega
   simp only [vcC,Bool.false_eq_true,reduceCtorEq,e5]
   refine .inl ⟨trivial,?_⟩
   rwa [take_all (by omega),take_all (by omega)] at hI
  rintro o (⟨rfl,h⟩ | ⟨rfl,h⟩)
  ·rw [ret_some,decide_eq_true h]
  rw [ret_some,decide_eq_false h]
 rw [if_neg (by omega),decide_eq_false (fun h=>hlen (by rw [h]))]
end Pl
/- Both checks of a graph, valid or not. -/
namespace Pu
open Pl Sx Go M Vc
def Asn (l:LI) (n:Nat):Prop:=l.Pairwise (· < ·)∧∀ x,x∈l→0≤x∧x < (n:Int)
theorem Asn.snoc {l:LI} {x:Int} {n:Nat}:Asn (l++[x]) n↔Asn l n∧(∀ y,y∈l→y < x)∧0≤x∧x < (n:Int):=by
 unfold Asn
 rw [List.pairwise_append]
 constructor
 ·rintro ⟨⟨h1,_,h2⟩,h3⟩
  have:=h3 x (by simp)
  exact ⟨⟨h1,fun y hy=>h3 y (by simp [hy])⟩,fun y hy=>h2 y hy x (by simp),this.1,this.2⟩
 rintro ⟨⟨h1,h2⟩,h3,h4,h5⟩
 refine ⟨⟨h1,List.pairwise_singleton _ _,fun y hy z hz=>?_⟩,fun y hy=>?_⟩
 ·rw [List.mem_singleton] at hz; subst hz; exact h3 y hy
 rw [List.mem_append,List.mem_singleton] at hy
 rcases hy with hy | rfl
 ·exact h2 y hy
 exact ⟨h4,h5⟩
theorem Asn.take {l:LI} {n:Nat} (h:Asn l n) (k:Nat):Asn (l.take k) n:=
 ⟨h.1.sublist (List.take_sublist _ _),fun x hx=>h.2 x (List.mem_of_mem_take hx)⟩
theorem asc_p {l:LI} {n:Nat} (hl:l.length≤100000):Ret (graph_ascending l (n:Int)) (fun b=>(b=true∧Asn l n)∨(b=false∧¬ Asn l n)):=by
 unfold graph_ascending
 simp only [ret_bind]
 refine ret_call (P:=fun o=>(o=.inl ()∧Asn l n)∨(o=.inr ()∧¬ Asn l n)) ?_ ?_
 ·refine ret_loop l.length (fun k (t:Int×Int)=>t.2=k∧Asn (l.take k) n∧-1≤t.1∧(t.1= -1∨t.1∈l.take k)∧∀ y,y∈l.take k→y≤t.1) ⟨rfl,by simp [Asn],by simp,by simp,by simp⟩ ?_
  rintro k ⟨s,i⟩ hk ⟨rfl,h1,h2,h3,h4⟩
  simp only at h1 h2 h3 h4
  unfold graph_ascending_l3
  by_cases hkl:k < l.length
  ·obtain ⟨x,hx⟩:∃ x,l[k]?=some x:=⟨l[k],by simp [hkl]⟩
   have e1:getI l (k:Int)=some x:=hx
   have e5:(k:Int) < (l.length:Int):=by omega
   have hw:wa .i64 (k:Int) 1=((k+1:Nat):Int):=wa1 (by omega)
   have ht:=tks hx
   by_cases hc:x≤s∨(n:Int)≤x
   ·have e6:(decide (x≤s) || decide ((n:Int)≤x))=true:=by simpa using hc
    simp only [vcD,implies_true,Bool.false_eq_true,reduceCtorEq,e1,e5,e6,hw]
    refine fun h=>?_
    have:=h.take (k+1)
    rw [ht,Asn.snoc] at this
    obtain ⟨_,g1,g2,g3⟩:=this
    rcases hc with hc | hc
    ·rcases h3 with h3 | h3
     ·omega
     have:=g1 s h3; omega
    omega
   have e6:(decide (x≤s) || decide ((n:Int)≤x))=false:=by simpa using hc
   simp only [vcD,implies_true,Bool.false_eq_true,reduceCtorEq,e1,e5,e6,hw,ht]
   refine ⟨hkl,Asn.snoc.2 ⟨h1,fun y hy=>by have:=h4 y hy; omega,by omega,by omega⟩,by omega,by simp,fun y hy=>?_⟩
   rw [List.mem_append,List.mem_singleton] at hy
   rcases hy with hy | rfl
   ·have:=h4 y hy; omega
   omega
  have e5:¬ (k:Int) < (l.length:Int):=by omega
  simp only [vcD,implies_true,Bool.false_eq_true,reduceCtorEq,e5]
  rw [take_all (by omega)] at h1
  exact h1
 rintro o (⟨rfl,h⟩ | ⟨rfl,h⟩)
 ·simp only [ret_some]; exact .inl ⟨trivial,h⟩
 simp only [ret_some]; exact .inr ⟨trivial,h⟩
theorem pw_snoc {l:LI} {x:Int}:(l++[x]).Pairwise (· < ·)↔l.Pairwise (· < ·)∧∀ y,y∈l→y < x:=by
 rw [List.pairwise_append]
 constructor
 ·rintro ⟨h1,_,h2⟩; exact ⟨h1,fun y hy=>h2 y hy x (by simp)⟩
 rintro ⟨h1,h2⟩
 exact ⟨h1,List.pairwise_singleton _ _,fun y hy z hz=>by rw [List.mem_singleton] at hz; subst hz; exact h2 y hy⟩
theorem rasc_p {l:LI} (hl:l.length≤100000):Ret (sparsekit_Ascending l) (fun b=>(b=true∧l.Pairwise (· < ·))∨(b=false∧¬ l.Pairwise (· < ·))):=by
 unfold sparsekit_Ascending
 simp only [ret_bind]
 refine ret_call (P:=fun o=>(o=.inl ()∧l.Pairwise (· < ·))∨(o=.inr ()∧¬ l.Pairwise (· < ·))) ?_ ?_
 ·refine ret_loop l.length (fun k (t:Int)=>t=((k+1:Nat):Int)∧(l.take (k+1)).Pairwise (· < ·)) ⟨rfl,?_⟩ ?_
  ·cases l with
   | nil=>simp
   | cons a l=>simp
  rintro k _ hk ⟨rfl,h1⟩
  unfold sparsekit_Ascending_l1
  by_cases hkl:k+1 < l.length
  ·obtain ⟨x,hx⟩:∃ x,l[k+1]?=some x:=⟨l[k+1],by simp [hkl]⟩
   obtain ⟨y,hy⟩:∃ y,l[k]?=some y:=⟨l[k]'(by omega),by simp [show k < l.length by omega]⟩
   have e1:getI l ((k+1:Nat):Int)=some x:=hx
   have e2:getI l (k:Int)=some y:=hy
   have e5:((k+1:Nat):Int) < (l.length:Int):=by omega
   have hw:wa .i64 ((k+1:Nat):Int) 1=((k+1+1:Nat):Int):=wa1 (by omega)
   have hw2:ws .i64 ((k+1:Nat):Int) 1=(k:Int):=by rw [ws_i]<;>omega
   have ht:=tks hx
   have ht2:=tks hy
   have hyt:y∈l.take (k+1):=by rw [ht2]; simp
   by_cases hc:x≤y
   ·simp only [vcD,implies_true,Bool.false_eq_true,reduceCtorEq,e1,e2,e5,hc,hw,hw2]
    refine fun h=>?_
    have:=h.sublist (List.take_sublist (k+1+1) l)
    rw [ht,pw_snoc] at this
    have:=this.2 y hyt
    omega
   simp only [vcD,implies_true,Bool.false_eq_true,reduceCtorEq,e1,e2,e5,hc,hw,hw2]
   refine ⟨by omega,?_⟩
   rw [ht,pw_snoc]
   refine ⟨h1,fun z hz=>?_⟩
   rw [ht2,pw_snoc] at h1
   rw [ht2,List.mem_append,List.mem_singleton] at hz
   rcases hz with hz | rfl
   ·have:=h1.2 z hz; omega
   omega
  have e5:¬ ((k+1:Nat):Int) < (l.length:Int):=by omega
  simp only [vcD,implies_true,Bool.false_eq_true,reduceCtorEq,e5]
  rw [take_all (by omega)] at h1
  exact h1
 rintro o (⟨rfl,h⟩ | ⟨rfl,h⟩)
 ·simp only [ret_some]; exact .inl ⟨trivial,h⟩
 simp only [ret_some]; exact .inr ⟨trivial,h⟩
theorem joined_p {adj:L2} {v:Int} {l:LI} (hv:getI adj v=some l) (h:l.Pairwise (· < ·)) (hl:l.length≤100000) (x:Int):graph_joined adj v x=some (decide (x∈l)):=by
 unfold graph_joined
 rw [bindS hv]
 obtain ⟨i,h⟩:=search_ok h (by omega) x
 rw [bindS h]
def G1 (adj:L2) (k:Nat):Prop:=∀ (v:Nat) l,v < k→adj[v]?=some l→Asn l adj.length∧(v:Int)∉l
def S1 (adj:L2) (v:Nat) (l:LI):Prop:=∀ x,x∈l→∃ m,adj[x.toNat]?=some m∧(v:Int)∈m
def G2 (adj:L2) (k:Nat):Prop:=∀ (v:Nat) l,v < k→adj[v]?=some l→S1 adj v l
theorem gr_iff {adj:L2}:Gr adj↔G1 adj adj.length∧G2 adj adj.length:=by
 constructor
 ·intro h
  refine ⟨fun v l _ hl=>⟨⟨h.asc v l hl,fun x hx=>⟨(h.rng v l x hl hx).1,(h.rng v l x hl hx).2.1⟩⟩,fun hv=>(h.rng v l v hl hv).2.2 rfl⟩,fun v l _ hl x hx=>h.sym v l x hl hx⟩
 rintro ⟨h1,h2⟩
 have hlt:∀ (v:Nat) l,adj[v]?=some l→v < adj.length:=fun v l hl=>(List.getElem?_eq_some_iff.1 hl).1
 refine ⟨fun v l hl=>(h1 v l (hlt v l hl) hl).1.1,fun v l x hl hx=>?_,fun v l x hl hx=>h2 v l (hlt v l hl) hl x hx⟩
 have:=h1 v l (hlt v l hl) hl
 refine ⟨(this.1.2 x hx).1,(this.1.2 x hx).2,?_⟩
 rintro rfl
 exact this.2 hx
def Sml (adj:L2):Prop:=adj.length≤100000∧∀ l,l∈adj→l.length≤100000
theorem gcheck_p {adj:L2} (hn:adj.length≤200) (hs:Sml adj):Ret (graph_Check adj) (fun e=>(e=0∧Gr adj)∨(e=1∧¬ Gr adj)):=by
 unfold graph_Check
 rw [if_neg (by omega)]
 simp only [ret_bind]
 refine ret_call (P:=fun o=>(o=.inl ()∧G1 adj adj.length)∨(o=.inr ()∧¬ Gr adj)) ?_ ?_
 ·refine ret_loop adj.length (fun k (t:Int)=>t=k∧G1 adj k) ⟨rfl,fun v l h=>by omega⟩ ?_
  rintro k _ hk ⟨rfl,h1⟩
  unfold graph_Check_l3
  by_cases hkl:k < adj.length
  ·obtain ⟨l,hx⟩:∃ l,adj[k]?=some l:=⟨adj[k],by simp [hkl]⟩
   have e1:getI adj (k:Int)=some l:=hx
   have e5:(k:Int) < (adj.length:Int):=by omega
   have hw:wa .i64 (k:Int) 1=((k+1:Nat):Int):=wa1 (by omega)
   simp only [vcD,implies_true,Bool.false_eq_true,reduceCtorEq,e1,e5]
   refine ret_call (asc_p (hs.2 l (mem_get hx))) ?_
   rintro b (⟨rfl,ha⟩ | ⟨rfl,ha⟩)
   ·have e2:=joined_p e1 ha.1 (hs.2 l (mem_get hx)) (k:Int)
    by_cases hm:(k:Int)∈l
    ·simp only [vcD,implies_true,Bool.false_eq_true,reduceCtorEq,e2,hm]
     refine fun h=>?_
     exact (h.rng k l k hx hm).2.2 rfl
    simp only [vcD,implies_true,Bool.false_eq_true,reduceCtorEq,e2,hm,hw]
    refine ⟨hkl,fun v l' hv hl'=>?_⟩
    by_cases hvk:v=k
    ·subst hvk
     rw [hx] at hl'
     obtain rfl:=sInj hl'
     exact ⟨ha,hm⟩
    exact h1 v l' (by omega) hl'
   simp only [vcD,implies_true,Bool.false_eq_true,reduceCtorEq]
   refine fun h=>ha ?_
   exact ((gr_iff.1 h).1 k l hkl hx).1
  have e5:¬ (k:Int) < (adj.length:Int):=by omega
  simp only [vcD,implies_true,Bool.false_eq_true,reduceCtorEq,e5]
  obtain rfl:k=adj.length:=by omega
  exact h1
 rintro o (⟨rfl,h1⟩ | ⟨rfl,h⟩)
 ·simp only [ret_bind]
  refine ret_call (P:=fun o=>(o=.inl ()∧G2 adj adj.length)∨(o=.inr ()∧¬ Gr adj)) ?_ ?_
  ·refine ret_loop adj.length (fun k (t:Int)=>t=k∧G2 adj k) ⟨rfl,fun v l h=>by omega⟩ ?_
   rintro k _ hk ⟨rfl,h2⟩
   unfold graph_Check_l6
   by_cases hkl:k < adj.length
   ·obtain ⟨l,hx⟩:∃ l,adj[k]?=some l:=⟨adj[k],by simp [hkl]⟩
    have e1:getI adj (k:Int)=some l:=hx
    have e5:(k:Int) < (adj.length:Int):=by omega
    have hw:wa .i64 (k:Int) 1=((k+1:Nat):Int):=wa1 (by omega)
    have hll:=hs.2 l (mem_get hx)
    simp only [vcD,implies_true,Bool.false_eq_true,reduceCtorEq,e1,e5]
    refine ret_call (P:=fun o=>(o=.inl ()∧S1 adj k l)∨(o=.inr ()∧¬ Gr adj)) ?_ ?_
    ·refine ret_loop l.length (fun j (t:Int)=>t=j∧S1 adj k (l.take j)) ⟨rfl,fun x hx=>by simp at hx⟩ ?_
     rintro j _ hj ⟨rfl,h3⟩
     unfold graph_Check_l7
     by_cases hjl:j < l.length
     ·obtain ⟨x,hxj⟩:∃ x,l[j]?=some x:=⟨l[j],by simp [hjl]⟩
      have hxr:=(h1 k l hkl hx).1.2 x (mem_get hxj)
      obtain ⟨w,rfl⟩:=Int.eq_ofNat_of_zero_le hxr.1
      obtain ⟨m,hm⟩:∃ m,adj[w]?=some m:=⟨adj[w]'(by omega),by simp [show w < adj.length by omega]⟩
      have e2:getI l (j:Int)=some (w:Int):=hxj
      have e3:getI adj (w:Int)=some m:=hm
      have e6:(j:Int) < (l.length:Int):=by omega
      have hw2:wa .i64 (j:Int) 1=((j+1:Nat):Int):=wa1 (by omega)
      have e4:=joined_p e3 (h1 w m (by omega) hm).1.1 (hs.2 m (mem_get hm)) (k:Int)
      by_cases hmm:(k:Int)∈m
      ·simp only [vcD,implies_true,Bool.false_eq_true,reduceCtorEq,e2,e4,e6,hmm,hw2,tks hxj]
       refine ⟨hjl,fun y hy=>?_⟩
       rw [List.mem_append,List.mem_singleton] at hy
       rcases hy with hy | rfl
       ·exact h3 y hy
       exact ⟨m,hm,hmm⟩
      simp only [vcD,implies_true,Bool.false_eq_true,reduceCtorEq,e2,e4,e6,hmm]
      refine fun h=>hmm ?_
      obtain ⟨m',g1,g2⟩:=h.sym k l w hx (mem_get hxj)
      rw [Int.toNat_natCast,hm] at g1
      obtain rfl:=sInj g1
      exact g2
     have e6:¬ (j:Int) < (l.length:Int):=by omega
     simp only [vcD,implies_true,Bool.false_eq_true,reduceCtorEq,e6]
     rw [take_all (by omega)] at h3
     exact h3
    rintro o (⟨rfl,h3⟩ | ⟨rfl,h⟩)
    ·simp only [vcD,implies_true,Bool.false_eq_true,reduceCtorEq,hw]
     refine ⟨hkl,fun v l' hv hl'=>?_⟩
     by_cases hvk:v=k
     ·subst hvk
      rw [hx] at hl'
      obtain rfl:=sInj hl'
      exact h3
     exact h2 v l' (by omega) hl'
    simp only [vcD,implies_true,Bool.false_eq_true,reduceCtorEq]
    exact h
   have e5:¬ (k:Int) < (adj.length:Int):=by omega
   simp only [vcD,implies_true,Bool.false_eq_true,reduceCtorEq,e5]
   obtain rfl:k=adj.length:=by omega
   exact h2
  rintro o (⟨rfl,h2⟩ | ⟨rfl,h⟩)
  ·simp only [ret_some]; exact .inl ⟨trivial,gr_iff.2 ⟨h1,h2⟩⟩
  simp only [ret_some]; exact .inr ⟨trivial,h⟩
 simp only [ret_some]; exact .inr ⟨trivial,h⟩
theorem kin_e {l:LI} {v:Int} (hl:l.length≤100000):sparsekit_In l v=some (decide (v∈l)):=by
 refine Ret.eq ?_
 unfold sparsekit_In
 simp only [ret_bind]
 refine ret_loop l.length (fun k (t:Int)=>t=k∧v∉l.take k) (by simp) ?_
 intro k t hk hI
 unfold sparsekit_In_l1
 simp only [ret_bind,ret_if,ret_get,ret_some,vq_l,vq_r]
 grind [List.take_add_one,List.mem_iff_getElem?]
def R1 (adj:L2) (v:Nat) (l:LI):Prop:=∀ x,x∈l→(0≤x∧x < (adj.length:Int))∧x≠(v:Int)∧∃ m,adj[x.toNat]?=some m∧(v:Int)∈m
def G3 (adj:L2) (k:Nat):Prop:=∀ (v:Nat) l,v < k→adj[v]?=some l→l.Pairwise (· < ·)∧R1 adj v l
theorem gr_iff3 {adj:L2}:Gr adj↔G3 adj adj.length:=by
 constructor
 ·intro h v l _ hl
  exact ⟨h.asc v l hl,fun x hx=>⟨⟨(h.rng v l x hl hx).1,(h.rng v l x hl hx).2.1⟩,(h.rng v l x hl hx).2.2,h.sym v l x hl hx⟩⟩
 intro h
 have hlt:∀ (v:Nat) l,adj[v]?=some l→v < adj.length:=fun v l hl=>(List.getElem?_eq_some_iff.1 hl).1
 refine ⟨fun v l hl=>(h v l (hlt v l hl) hl).1,fun v l x hl hx=>?_,fun v l x hl hx=>((h v l (hlt v l hl) hl).2 x hx).2.2⟩
 have:=(h v l (hlt v l hl) hl).2 x hx
 exact ⟨this.1.1,this.1.2,this.2.1⟩
theorem rcheck_p {adj:L2} (hn:adj.length≤200) (hs:Sml adj):Ret (sparseref12_Check adj) (fun e=>(e=0∧Gr adj)∨(e=1∧¬ Gr adj)):=by
 unfold sparseref12_Check
 rw [if_neg (by omega)]
 simp only [ret_bind]
 refine ret_call (P:=fun o=>(o=.inl ()∧Gr adj)∨(o=.inr ()∧¬ Gr adj)) ?_ ?_
 ·refine ret_loop adj.length (fun k (t:Int)=>t=k∧G3 adj k) ⟨rfl,fun v l h=>by omega⟩ ?_
  rintro k _ hk ⟨rfl,h1⟩
  unfold sparseref12_Check_l21
  by_cases hkl:k < adj.length
  ·obtain ⟨l,hx⟩:∃ l,adj[k]?=some l:=⟨adj[k],by simp [hkl]⟩
   have e1:getI adj (k:Int)=some l:=hx
   have e5:(k:Int) < (adj.length:Int):=by omega
   have hw:wa .i64 (k:Int) 1=((k+1:Nat):Int):=wa1 (by omega)
   have hll:=hs.2 l (mem_get hx)
   simp only [vcD,implies_true,Bool.false_eq_true,reduceCtorEq,e1,e5]
   refine ret_call (rasc_p hll) ?_
   rintro b (⟨rfl,ha⟩ | ⟨rfl,ha⟩)
   ·simp only [vcD,implies_true,Bool.false_eq_true,reduceCtorEq]
    refine ret_call (P:=fun o=>(o=.inl ()∧R1 adj k l)∨(o=.inr ()∧¬ Gr adj)) ?_ ?_
    ·refine ret_loop l.length (fun j (t:Int)=>t=j∧R1 adj k (l.take j)) ⟨rfl,fun x hx=>by simp at hx⟩ ?_
     rintro j _ hj ⟨rfl,h3⟩
     unfold sparseref12_Check_l28
     by_cases hjl:j < l.length
     ·obtain ⟨x,hxj⟩:∃ x,l[j]?=some x:=⟨l[j],by simp [hjl]⟩
      have e2:getI l (j:Int)=some x:=hxj
      have e6:(j:Int) < (l.length:Int):=by omega
      have hw2:wa .i64 (j:Int) 1=((j+1:Nat):Int):=wa1 (by omega)
      by_cases hr:(x < 0∨(adj.length:Int)≤x)∨x=(k:Int)
      ·have e7:(((decide (x < 0)) || (decide ((adj.length:Int)≤x))) || (decide (x=(k:Int))))=true:=by simpa using hr
       simp only [vcD,implies_true,Bool.false_eq_true,reduceCtorEq,e1,e2,e6,e7]
       refine fun h=>?_
       have:=h.rng k l x hx (mem_get hxj)
       omega
      have e7:(((decide (x < 0)) || (decide ((adj.length:Int)≤x))) || (decide (x=(k:Int))))=false:=by simpa [not_or] using hr
      obtain ⟨w,rfl⟩:=Int.eq_ofNat_of_zero_le (show 0≤x by omega)
      obtain ⟨m,hm⟩:∃ m,adj[w]?=some m:=⟨adj[w]'(by omega),by simp [show w < adj.length by omega]⟩
      have e3:getI adj (w:Int)=some m:=hm
      have e4:=kin_e (v:=(k:Int)) (hs.2 m (mem_get hm))
      by_cases hmm:(k:Int)∈m
      ·simp only [vcD,implies_true,Bool.false_eq_true,reduceCtorEq,e1,e2,e3,e4,e6,e7,hmm,hw2,tks hxj]
       refine ⟨hjl,fun y hy=>?_⟩
       rw [List.mem_append,List.mem_singleton] at hy
       rcases hy with hy | rfl
       ·exact h3 y hy
       exact ⟨⟨by omega,by omega⟩,by omega,m,hm,hmm⟩
      simp only [vcD,implies_true,Bool.false_eq_true,reduceCtorEq,e1,e2,e3,e4,e6,e7,hmm]
      refine fun h=>hmm ?_
      obtain ⟨m',g1,g2⟩:=h.sym k l w hx (mem_get hxj)
      rw [Int.toNat_natCast,hm] at g1
      obtain rfl:=sInj g1
      exact g2
     have e6:¬ (j:Int) < (l.length:Int):=by omega
     simp only [vcD,implies_true,Bool.false_eq_true,reduceCtorEq,e1,e6]
     rw [take_all (by omega)] at h3
     exact h3
    rintro o (⟨rfl,h3⟩ | ⟨rfl,h⟩)
    ·simp only [vcD,implies_true,Bool.false_eq_true,reduceCtorEq,hw]
     refine ⟨hkl,fun v l' hv hl'=>?_⟩
     by_cases hvk:v=k
     ·subst hvk
      rw [hx] at hl'
      obtain rfl:=sInj hl'
      exact ⟨ha,h3⟩
     exact h1 v l' (by omega) hl'
    simp only [vcD,implies_true,Bool.false_eq_true,reduceCtorEq]
    exact h
   simp only [vcD,implies_true,Bool.false_eq_true,reduceCtorEq]
   exact fun h=>ha (h.asc k l hx)
  have e5:¬ (k:Int) < (adj.length:Int):=by omega
  simp only [vcD,implies_true,Bool.false_eq_true,reduceCtorEq,e5]
  obtain rfl:k=adj.length:=by omega
  exact gr_iff3.2 h1
 rintro o (⟨rfl,h⟩ | ⟨rfl,h⟩)
 ·simp only [ret_some]; exact .inl ⟨trivial,h⟩
 simp only [ret_some]; exact .inr ⟨trivial,h⟩
theorem gchecks {adj:L2} (hs:Sml adj):∃ e,graph_Check adj=some e∧sparseref12_Check adj=some e∧((e=0∧Gr adj∧adj.length≤200)∨e≠0):=by
 by_cases hn:adj.length≤200
 ·obtain ⟨e,h1,h2⟩:=gcheck_p hn hs
  obtain ⟨e',h3,h4⟩:=rcheck_p hn hs
  rcases h2 with ⟨rfl,h2⟩ | ⟨rfl,h2⟩
  ·rcases h4 with ⟨rfl,h4⟩ | ⟨rfl,h4⟩
   ·exact ⟨0,h1,h3,.inl ⟨rfl,h2,hn⟩⟩
   exact absurd h2 h4
  rcases h4 with ⟨rfl,h4⟩ | ⟨rfl,h4⟩
  ·exact absurd h4 h2
  exact ⟨1,h1,h3,.inr (by decide)⟩
 exact ⟨6,by unfold graph_Check; rw [if_pos (by omega)],by unfold sparseref12_Check; rw [if_pos (by omega)],.inr (by decide)⟩
end Pu
/- The law GraphAny. -/
namespace Pu
open Pl Sx Go M Vc
theorem twinInts_ok {l:LI} (hl:l.length≤100000):sparsekit_TwinInts l=some l:=by
 refine Ret.eq ?_
 unfold sparsekit_TwinInts
 simp only [ret_bind]
 refine ret_call (P:=fun o=>o=l) ?_ (fun o ho=>by subst ho; simp only [ret_some])
 refine ret_loop l.length (fun k (t:LI×Int)=>t.2=k∧t.1=l.take k) ⟨rfl,by simp⟩ ?_
 rintro k ⟨s,i⟩ hk ⟨rfl,hs⟩
 simp only at hs
 subst hs
 unfold sparsekit_TwinInts_l1
 by_cases hkl:k < l.length
 ·obtain ⟨x,hx⟩:∃ x,l[k]?=some x:=⟨l[k],by simp [hkl]⟩
  have e1:getI l (k:Int)=some x:=hx
  have e5:(k:Int) < (l.length:Int):=by omega
  have hw:wa .i64 (k:Int) 1=((k+1:Nat):Int):=wa1 (by omega)
  simp only [vcD,implies_true,Bool.false_eq_true,reduceCtorEq,e1,e5,hw]
  exact ⟨by rw [List.length_take,List.length_singleton]; omega,hkl,(tks hx).symm⟩
 have e5:¬ (k:Int) < (l.length:Int):=by omega
 simp only [vcD,implies_true,Bool.false_eq_true,reduceCtorEq,e5]
 exact take_all (by omega)
theorem twinGraph_ok {adj:L2} (hs:Sml adj):sparsekit_TwinGraph adj=some adj:=by
 have hsl:=hs.1
 refine Ret.eq ?_
 unfold sparsekit_TwinGraph sparsekit_TwinLists
 simp only [ret_bind,ret_some]
 refine ret_loop adj.length (fun k (t:L2×Int)=>t.2=k∧t.1=adj.take k) ⟨rfl,by simp⟩ ?_
 rintro k ⟨s,i⟩ hk ⟨rfl,hs'⟩
 simp only at hs'
 subst hs'
 unfold sparsekit_TwinLists_l1
 by_cases hkl:k < adj.length
 ·obtain ⟨x,hx⟩:∃ x,adj[k]?=some x:=⟨adj[k],by simp [hkl]⟩
  have e1:getI adj (k:Int)=some x:=hx
  have e2:=twinInts_ok (hs.2 x (mem_get hx))
  have e5:(k:Int) < (adj.length:Int):=by omega
  have hw:wa .i64 (k:Int) 1=((k+1:Nat):Int):=wa1 (by omega)
  have:=hs.1
  simp only [vcD,implies_true,Bool.false_eq_true,reduceCtorEq,e1,e2,e5,hw]
  exact ⟨by rw [List.length_take,List.length_singleton]; omega,hkl,(tks hx).symm⟩
 have e5:¬ (k:Int) < (adj.length:Int):=by omega
 simp only [vcD,implies_true,Bool.false_eq_true,reduceCtorEq,e5]
 exact take_all (by omega)
def InR (l:LI) (n:Nat):Prop:=∀ x,x∈l→0≤x∧x < (n:Int)
theorem InR.snoc {l:LI} {n:Nat} {x:Int}:InR (l++[x]) n↔InR l n∧0≤x∧x < (n:Int):=by
 unfold InR
 constructor
 ·intro h
  exact ⟨fun y hy=>h y (by simp [hy]),h x (by simp)⟩
 rintro ⟨h1,h2⟩ y hy
 rw [List.mem_append,List.mem_singleton] at hy
 rcases hy with hy | rfl
 ·exact h1 y hy
 exact h2
theorem InR.take {l:LI} {n:Nat} (h:InR l n) (k:Nat):InR (l.take k) n:=fun x hx=>h x (List.mem_of_mem_take hx)
theorem nd_snoc {l:LI} {x:Int}:(l++[x]).Nodup↔l.Nodup∧x∉l:=by
 rw [List.nodup_append]
 constructor
 ·rintro ⟨h1,_,h2⟩
  exact ⟨h1,fun hx=>h2 x hx x (by simp) rfl⟩
 rintro ⟨h1,h2⟩
 refine ⟨h1,by simp,fun y hy z hz=>?_⟩
 rw [List.mem_singleton] at hz
 subst hz
 rintro rfl
 exact h2 hy
theorem nd_take {l:LI} (h:l.Nodup) (k:Nat):(l.take k).Nodup:=h.sublist (List.take_sublist _ _)
theorem perm_p {l:LI} {n:Nat} (hn:n≤100000) (hl:l.length=n):Ret (sparsekit_Perm l (n:Int)) (fun b=>(b=true∧InR l n∧l.Nodup)∨(b=false∧¬ (InR l n∧l.Nodup))):=by
 unfold sparsekit_Perm
 rw [if_pos (by omega)]
 simp only [ret_bind,ret_mkL,Int.toNat_natCast]
 refine ⟨by omega,by omega,?_⟩
 refine ret_call (P:=fun o=>(o=.inl ()∧InR l n∧l.Nodup)∨(o=.inr ()∧¬ (InR l n∧l.Nodup))) ?_ ?_
 ·refine ret_loop n (fun k (t:BL×Int)=>t.2=k∧t.1.length=n∧(InR (l.take k) n∧(l.take k).Nodup)∧∀ u:Nat,u < n→t.1[u]?=some (decide ((u:Int)∈l.take k))) ⟨rfl,by simp,⟨fun x hx=>by simp at hx,by simp⟩,fun u hu=>by simp [hu]⟩ ?_
  rintro k ⟨s,i⟩ hk ⟨rfl,hsl,⟨hI,hN⟩,hS⟩
  simp only at hsl hS
  unfold sparsekit_Perm_l5
  by_cases hkn:k < n
  ·obtain ⟨x,hx⟩:∃ x,l[k]?=some x:=⟨l[k]'(by omega),by simp [show k < l.length by omega]⟩
   have e1:getI l (k:Int)=some x:=hx
   have e5:(k:Int) < (n:Int):=by omega
   have hw:wa .i64 (k:Int) 1=((k+1:Nat):Int):=wa1 (by omega)
   by_cases h0:x < 0
   ·simp only [vcD,implies_true,Bool.false_eq_true,reduceCtorEq,e1,e5,h0]
    intro h; have:=(h.1 x (mem_get hx)).1; omega
   by_cases h1:(n:Int)≤x
   ·simp only [vcD,implies_true,Bool.false_eq_true,reduceCtorEq,e1,e5,h0,h1]
    intro h; have:=(h.1 x (mem_get hx)).2; omega
   obtain ⟨v,rfl⟩:=Int.eq_ofNat_of_zero_le (show 0≤x by omega)
   have e2:getI s (v:Int)=some (decide ((v:Int)∈l.take k)):=hS v (by omega)
   by_cases hm:(v:Int)∈l.take k
   ·simp only [vcD,implies_true,Bool.false_eq_true,reduceCtorEq,e1,e2,e5,h0,h1,hm]
    intro h
    have:=nd_take h.2 (k+1)
    rw [tks hx,nd_snoc] at this
    exact this.2 hm
   simp only [vcD,implies_true,Bool.false_eq_true,reduceCtorEq,e1,e2,e5,h0,h1,hm,hw]
   refine ⟨by omega,by omega,hkn,by simp [hsl],⟨?_,?_⟩,fun u hu=>?_⟩
   ·rw [tks hx,InR.snoc]; exact ⟨hI,by omega,by omega⟩
   ·rw [tks hx,nd_snoc]; exact ⟨hN,hm⟩
   rw [List.getElem?_set,tks hx]
   by_cases hvu:v=u
   ·subst hvu
    rw [if_pos rfl,if_pos (by omega),decide_eq_true (by simp)]
   rw [if_neg hvu,hS u hu]
   congr 1
   rw [decide_eq_decide,List.mem_append,List.mem_singleton]
   constructor
   ·exact fun h=>.inl h
   rintro (h | h)
   ·exact h
   omega
  have e5:¬ (k:Int) < (n:Int):=by omega
  simp only [vcD,implies_true,Bool.false_eq_true,reduceCtorEq,e5]
  rw [take_all (by omega)] at hI hN
  exact ⟨hI,hN⟩
 rintro o (⟨rfl,h⟩ | ⟨rfl,h⟩)
 ·simp only [ret_some]; exact .inl ⟨trivial,h⟩
 simp only [ret_some]; exact .inr ⟨trivial,h⟩
def OkG (g:L2):Prop:=g.length≤100000∧∀ x,x∈g→x.length≤100000
theorem lists_same {g:L2} (h:OkG g):sparsekit_Lists g g=some true:=by
 rw [klists_ok h.1 h.2]; simp
theorem graph_same {g:L2} (h:OkG g):sparsekit_Graph g g=some true:=by
 unfold sparsekit_Graph
 rw [lists_same h]; rfl
end Pu
/- Weighted graphs: what makes one valid; the program's check; weighted graphs made from numbers. -/
namespace Pd
open Pl Sx Go M Vc
def Wg (x:Int):Prop:=1≤x∧x≤1099511627776
structure Wt (adj:L2) (vx:LI) (ed:L2):Prop where
 gr:Gr adj
 vl:vx.length=adj.length
 el:ed.length=adj.length
 vr:∀ x,x∈vx→Wg x
 rl:∀ (v:Nat) l e,adj[v]?=some l→ed[v]?=some e→e.length=l.length
 er:∀ e,e∈ed→∀ x,x∈e→Wg x
 sy:∀ (v k:Nat) l e u x,adj[v]?=some l→ed[v]?=some e→l[k]?=some u→e[k]?=some x→∃ l' e',∃ k':Nat,adj[u.toNat]?=some l'∧ed[u.toNat]?=some e'∧l'[k']?=some (v:Int)∧e'[k']?=some x
theorem weights_ok {l:LI} (hl:l.length≤100000):Ret (dissect_weights l) (fun b=>b=true↔∀ x,x∈l→Wg x):=by
 unfold dissect_weights slices_ContainsFunc_int slices_IndexFunc_int
 rw [ret_bind,ret_bind,ret_bind]
 refine ret_call (P:=fun o=>(o=.inl ()∧∀ x,x∈l→Wg x)∨(∃ k:Int,0≤k∧o=.inr k∧¬ ∀ x,x∈l→Wg x)) ?_ ?_
 ·refine ret_loop l.length (fun k (t:Int)=>t=(k:Int)∧∀ x,x∈l.take k→Wg x) ⟨rfl,by simp⟩ ?_
  rintro k _ hk ⟨rfl,hI⟩
  unfold slices_IndexFunc_int_l1 dissect_weights_1
  by_cases hkl:k < l.length
  ·obtain ⟨x,hx⟩:∃ x,l[k]?=some x:=⟨l[k],by simp [hkl]⟩
   have e1:getI l (k:Int)=some x:=hx
   have e5:(k:Int) < (l.length:Int):=by omega
   have hw:wa .i64 (k:Int) 1=((k+1:Nat):Int):=wa1 (by omega)
   by_cases hg:Wg x
   ·have e6:(decide (x < 1) || decide ((1099511627776:Int) < x))=false:=by unfold Wg at hg; simp; omega
    simp only [vcD,implies_true,Bool.false_eq_true,reduceCtorEq,e1,e5,e6,hw]
    exact ⟨hkl,fun y hy=>by rw [mts hx] at hy; rcases hy with hy | rfl; exact hI y hy; exact hg⟩
   have e6:(decide (x < 1) || decide ((1099511627776:Int) < x))=true:=by unfold Wg at hg; simp; omega
   simp only [vcD,implies_true,Bool.false_eq_true,reduceCtorEq,e1,e5,e6]
   exact ⟨(k:Int),by omega,rfl,fun h=>hg (h x (mem_get hx))⟩
  have e5:¬ (k:Int) < (l.length:Int):=by omega
  simp only [vcD,implies_true,Bool.false_eq_true,reduceCtorEq,e5]
  rw [take_all (by omega)] at hI
  exact .inl hI
 rintro o (⟨rfl,h⟩ | ⟨k,hk,rfl,h⟩)
 ·simp only [ret_some]
  have:decide ((0:Int)≤ -1)=false:=by decide
  rw [this]; simp; exact h
 simp only [ret_some,decide_eq_true hk]
 simp only [Bool.not_true,Bool.false_eq_true,false_iff]
 exact h
theorem Wt.row {adj:L2} {vx:LI} {ed:L2} (h:Wt adj vx ed) {v:Nat} (hv:v < adj.length):∃ l e,adj[v]?=some l∧ed[v]?=some e∧e.length=l.length:=by
 have:=h.el
 obtain ⟨l,hl⟩:∃ l,adj[v]?=some l:=⟨adj[v],by simp [hv]⟩
 obtain ⟨e,he⟩:∃ e,ed[v]?=some e:=⟨ed[v]'(by omega),by simp [show v < ed.length by omega]⟩
 exact ⟨l,e,hl,he,h.rl v l e hl he⟩
end Pd
/- Repeat; the matching of heavy edges; the law on it. -/
namespace Pd
open Pl Sx Go M Vc
theorem awake18:sparselaw18_awake=some true:=by kernel_rfl
theorem mul_all:((List.range 1001).all fun n=>math_bits_Mul64 1 (n:Int) == some (0,(n:Int)))=true:=by kernel_rfl
theorem mul_one {n:Nat} (hn:n≤1000):math_bits_Mul 1 (n:Int)=some (0,(n:Int)):=by
 have h:=List.all_eq_true.1 mul_all n (List.mem_range.2 (by omega))
 have h':math_bits_Mul64 1 (n:Int)=some (0,(n:Int)):=by simpa using h
 unfold math_bits_Mul
 rw [bindS h']
theorem cpI_ok {β:Type} {l m:List β} {lo hi:Nat} (h1:lo≤hi) (h2:hi≤l.length):cpI l (lo:Int) (hi:Int) m=some (l.take lo++m.take (hi - lo)++l.drop (lo+min m.length (hi - lo)),((min m.length (hi - lo):Nat):Int)):=by
 unfold cpI
 rw [if_pos (by omega)]
 simp only [Int.toNat_natCast]
theorem repeat_ok {n:Nat} (hn:n≤1000) (x:Int):slices_Repeat_int [x] (n:Int)=some (List.replicate n x):=by
 unfold slices_Repeat_int slices_Repeat_int_j1 slices_Repeat_int_j3
 have e1:wc .u64 (([x]:LI).length:Int)=1:=rfl
 have e2:wc .u64 (n:Int)=(n:Int):=IntWalk.u64_in _ (by omega)
 have e3:wc .i64 (n:Int)=(n:Int):=IntWalk.i64_in _ (by omega)
 have e4:(decide ((0:Int) < 0) || decide ((9223372036854775807:Int) < (n:Int)))=false:=by simp; omega
 rw [if_neg (by omega),e1,e2,bindS (mul_one hn)]
 simp only [e3,e4,Bool.false_eq_true,if_false]
 rw [bindS (mkL_nat 0 n (by omega))]
 have hrl:(List.replicate n (0:Int)).length=n:=by simp
 have e5:cpI (List.replicate n (0:Int)) 0 (((List.replicate n (0:Int)).length:Nat):Int) [x]=some (List.replicate (min 1 n) x++List.replicate (n - min 1 n) 0,((min 1 n:Nat):Int)):=by
  have:=cpI_ok (l:=List.replicate n (0:Int)) (m:=[x]) (lo:=0) (hi:=n) (by omega) (by simp)
  rw [hrl]
  rw [show ((0:Nat):Int)=0 from rfl] at this
  rw [this]
  congr 2
  simp only [List.take_zero,List.nil_append,Nat.sub_zero,Nat.zero_add,List.length_singleton,List.drop_replicate]
  cases n with
  | zero=>simp
  | succ n=>simp [Nat.min_eq_left]
 rw [bindS e5]
 simp only
 by_cases h0:n=0
 ·subst h0
  have:loop slices_Repeat_int_l4 (List.replicate (min 1 0) x++List.replicate (0 - min 1 0) 0,((min 1 0:Nat):Int))=some []:=by
   refine Ret.eq ?_
   refine ret_loop 0 (fun k (t:LI×Int)=>t=([],0)) rfl ?_
   rintro k _ hk rfl
   unfold slices_Repeat_int_l4
   simp only [vcD,implies_true,Bool.false_eq_true,reduceCtorEq]
   simp
  rw [bindS this]; rfl
 have hm:min 1 n=1:=by omega
 rw [hm]
 have:loop slices_Repeat_int_l4 (List.replicate 1 x++List.replicate (n - 1) 0,((1:Nat):Int))=some (List.replicate n x):=by
  refine Ret.eq ?_
  refine ret_loop n (fun j (t:LI×Int)=>∃ k:Nat,t=(List.replicate k x++List.replicate (n - k) 0,(k:Int))∧k≤n∧j+1≤k) ⟨1,rfl,by omega,by omega⟩ ?_
  rintro j _ hj ⟨k,rfl,hk1,hk2⟩
  unfold slices_Repeat_int_l4
  have hlen:(List.replicate k x++List.replicate (n - k) (0:Int)).length=n:=by simp; omega
  simp only [hlen]
  by_cases hkn:k < n
  ·have e6:(k:Int) < (n:Int):=by omega
   have s1:sli (List.replicate k x++List.replicate (n - k) (0:Int)) (k:Int) (n:Int)=some (List.replicate (n - k) 0):=by
    unfold sli subL
    rw [if_pos (by rw [hlen]; omega),Int.toNat_natCast,Int.toNat_natCast,List.take_of_length_le (by omega)]
    rw [List.drop_left' (by simp)]
   have s2:sli (List.replicate k x++List.replicate (n - k) (0:Int)) 0 (k:Int)=some (List.replicate k x):=by
    unfold sli subL
    rw [if_pos (by rw [hlen]; omega),Int.toNat_natCast,List.take_left' (by simp)]
    rfl
   have s3:=cpI_ok (l:=List.replicate k x++List.replicate (n - k) (0:Int)) (m:=List.replicate k x) (lo:=k) (hi:=n) (by omega) (by omega)
   rw [List.take_left' (by simp)] at s3
   have s4:List.replicate k x++(List.replicate k x).take (n - k)++(List.replicate k x++List.replicate (n - k) (0:Int)).drop (k+min (List.replicate k x).length (n - k))=List.replicate (k+min k (n - k)) x++List.replicate (n - (k+min k (n - k))) 0:=by
    rw [List.take_replicate,List.length_replicate,← List.drop_drop,List.drop_left' (by simp),List.drop_replicate,List.replicate_append_replicate,Nat.min_comm (n - k) k]
    congr 2
    omega
   rw [s4,List.length_replicate] at s3
   have hw:wa .i64 (k:Int) ((min k (n - k):Nat):Int)=((k+min k (n - k):Nat):Int):=by rw [wa_i (by omega) (by omega)]; omega
   simp only [vcD,implies_true,Bool.false_eq_true,reduceCtorEq,e6,s1,s2,s3,hw]
   exact ⟨by omega,k+min k (n - k),rfl,by omega,by omega⟩
  have e6:¬ (k:Int) < (n:Int):=by omega
  have:k=n:=by omega
  subst this
  simp only [vcD,implies_true,Bool.false_eq_true,reduceCtorEq,e6]
  simp
 rw [bindS this]
structure Mt (adj:L2) (m:LI):Prop where
 len:m.length=adj.length
 mate:∀ (v:Nat) u,m[v]?=some u→(0≤u∧u < adj.length)∧m[u.toNat]?=some (v:Int)∧(u≠v→∃ l,adj[v]?=some l∧u∈l)
 mx:∀ (v:Nat) l u,adj[v]?=some l→u∈l→m[v]?=some (v:Int)→m[u.toNat]?≠some u
structure Ml (n:Nat) (m:LI):Prop where
 len:m.length=n
 mate:∀ (v:Nat) u,m[v]?=some u→(0≤u∧u < n)∧m[u.toNat]?=some (v:Int)
theorem Mt.ml {adj:L2} {m:LI} {n:Nat} (h:Mt adj m) (hn:adj.length=n):Ml n m:=by
 subst hn
 exact ⟨h.len,fun v u hu=>⟨(h.mate v u hu).1,(h.mate v u hu).2.1⟩⟩
structure Mw (adj:L2) (k:Nat) (m:LI):Prop where
 len:m.length=adj.length
 mate:∀ (v:Nat) u,m[v]?=some u→u= -1∨((0≤u∧u < adj.length)∧m[u.toNat]?=some (v:Int)∧(u≠v→∃ l,adj[v]?=some l∧u∈l))
 all:∀ (v:Nat),v < k→m[v]?≠some (-1)
 mx:∀ (v:Nat) l u,adj[v]?=some l→u∈l→m[v]?=some (v:Int)→m[u.toNat]?≠some (-1)∧m[u.toNat]?≠some u
theorem best_loop {adj:L2} {vx:LI} {ed:L2} (h:Wt adj vx ed) {v:Nat} (hv:v < adj.length) {l:LI} (hl:adj[v]?=some l) {m:LI} (hm:m.length=adj.length) (hn:adj.length≤1000):
  Ret (loop (dissect_match_l65 l m ed (v:Int)) ((v:Int),0,0)) (fun b=>(b=v∧∀ u,u∈l→m[u.toNat]?≠some (-1))∨(b∈l∧m[b.toNat]?=some (-1))):=by
 obtain ⟨l',e,h1,h2,h3⟩:=h.row hv
 rw [hl] at h1
 obtain rfl:=sInj h1
 have hll:=h.gr.len hl
 refine ret_loop l.length (fun k (t:Int×Int×Int)=>t.2.2=k∧((t.1=v∧t.2.1=0∧∀ (j:Nat) u,j < k→l[j]?=some u→m[u.toNat]?≠some (-1))∨(t.1∈l∧m[t.1.toNat]?=some (-1)))) ⟨rfl,.inl ⟨rfl,rfl,fun j u hj=>by omega⟩⟩ ?_
 rintro k ⟨b,w,i⟩ hk ⟨rfl,hI⟩
 simp only at hI
 unfold dissect_match_l65 dissect_match_j67
 by_cases hkl:k < l.length
 ·obtain ⟨u,hu⟩:∃ u,l[k]?=some u:=⟨l[k],by simp [hkl]⟩
  obtain ⟨x,hx⟩:∃ x,e[k]?=some x:=⟨e[k]'(by omega),by simp [show k < e.length by omega]⟩
  have hur:=h.gr.rng v l u hl (mem_get hu)
  have hxw:=h.er e (mem_get h2) x (mem_get hx)
  obtain ⟨q,hq⟩:∃ q,m[u.toNat]?=some q:=⟨m[u.toNat]'(by omega),by simp [show u.toNat < m.length by omega]⟩
  have e1:getI l (k:Int)=some u:=hu
  have e2:getI m u=some q:=getI_of hur.1 hq
  have e3:getI ed (v:Int)=some e:=h2
  have e4:getI e (k:Int)=some x:=hx
  have e5:(k:Int) < (l.length:Int):=by omega
  have hw:wa .i64 (k:Int) 1=((k+1:Nat):Int):=wa1 (by omega)
  by_cases hq1:q= -1
  ·subst hq1
   by_cases hwx:w < x
   ·simp only [vcD,implies_true,Bool.false_eq_true,reduceCtorEq,e1,e2,e3,e4,e5,hwx,hw]
    exact ⟨hkl,.inr ⟨mem_get hu,hq⟩⟩
   simp only [vcD,implies_true,Bool.false_eq_true,reduceCtorEq,e1,e2,e3,e4,e5,hwx,hw]
   refine ⟨hkl,?_⟩
   rcases hI with ⟨_,h5,_⟩ | h5
   ·unfold Wg at hxw; omega
   exact .inr h5
  simp only [vcD,implies_true,Bool.false_eq_true,reduceCtorEq,e1,e2,e5,hq1,hw]
  refine ⟨hkl,hI.imp (fun ⟨h5,h6,h7⟩=>⟨h5,h6,fun j u' hj hu'=>?_⟩) id⟩
  by_cases hjk:j=k
  ·subst hjk
   rw [hu] at hu'
   obtain rfl:=sInj hu'
   rw [hq]
   simpa using hq1
  exact h7 j u' (by omega) hu'
 have e5:¬ (k:Int) < (l.length:Int):=by omega
 simp only [vcD,implies_true,Bool.false_eq_true,reduceCtorEq,e5]
 refine hI.imp (fun ⟨h5,_,h7⟩=>⟨h5,fun u hu=>?_⟩) id
 obtain ⟨j,hj⟩:=List.mem_iff_getElem?.1 hu
 exact h7 j u (by have:=(List.getElem?_eq_some_iff.1 hj).1; omega) hj
theorem match_step {adj:L2} (hG:Gr adj) {k:Nat} {m:LI} (h:Mw adj k m) (hk:k < adj.length) (hk1:m[k]?=some (-1)) {l:LI} (hl:adj[k]?=some l) {b:Int} (hb:(b=k∧∀ u,u∈l→m[u.toNat]?≠some (-1))∨(b∈l∧m[b.toNat]?=some (-1))):
  Mw adj (k+1) ((m.set k b).set b.toNat (k:Int)):=by
 have hml:=h.len
 have hbr:0≤b∧b < adj.length:=by
  rcases hb with ⟨rfl,_⟩ | ⟨h1,_⟩
  ·omega
  have:=hG.rng k l b hl h1; omega
 have hb1:m[b.toNat]?=some (-1):=by
  rcases hb with ⟨rfl,_⟩ | ⟨_,h1⟩
  ·simpa using hk1
  exact h1
 have hbl:b≠k→b∈l:=by
  rcases hb with ⟨rfl,_⟩ | ⟨h1,_⟩
  ·intro h; exact absurd rfl h
  intro _; exact h1
 have get:∀ (v:Nat),((m.set k b).set b.toNat (k:Int))[v]?=if v=b.toNat then some (k:Int) else if v=k then some b else m[v]?:=by
  intro v
  rw [List.getElem?_set,List.getElem?_set]
  by_cases h1:v=b.toNat
  ·rw [if_pos h1.symm,if_pos (by simp; omega),if_pos h1]
  rw [if_neg (fun h=>h1 h.symm),if_neg h1]
  by_cases h2:v=k
  ·rw [if_pos h2.symm,if_pos (by omega),if_pos h2]
  rw [if_neg (fun h=>h2 h.symm),if_neg h2]
 refine ⟨by simp [hml],?_,?_,?_⟩
 ·intro v u hu
  rw [get] at hu
  by_cases h1:v=b.toNat
  ·rw [if_pos h1] at hu
   obtain rfl:=sInj hu
   refine .inr ⟨by omega,?_,fun hne=>?_⟩
   ·rw [get,Int.toNat_natCast]
    by_cases h2:k=b.toNat
    ·rw [if_pos h2]; congr 1; omega
    rw [if_neg h2,if_pos rfl]; congr 1; omega
   have hbk:b≠k:=by omega
   obtain ⟨m',hm1,hm2⟩:=hG.sym k l b hl (hbl hbk)
   exact ⟨m',by rw [h1]; exact hm1,hm2⟩
  rw [if_neg h1] at hu
  by_cases h2:v=k
  ·rw [if_pos h2] at hu
   obtain rfl:=sInj hu
   refine .inr ⟨hbr,?_,fun hne=>⟨l,by rw [h2]; exact hl,hbl (by omega)⟩⟩
   rw [get,if_pos rfl,h2]
  rw [if_neg h2] at hu
  rcases h.mate v u hu with rfl | ⟨h3,h4,h5⟩
  ·exact .inl rfl
  refine .inr ⟨h3,?_,h5⟩
  rw [get]
  have hub:u.toNat≠b.toNat:=by
   intro he
   rw [he,hb1] at h4
   have:=sInj h4; omega
  have huk:u.toNat≠k:=by
   intro he
   rw [he,hk1] at h4
   have:=sInj h4; omega
  rw [if_neg hub,if_neg huk]; exact h4
 ·intro v hv
  rw [get]
  by_cases h1:v=b.toNat
  ·rw [if_pos h1]; intro h; have:=sInj h; omega
  rw [if_neg h1]
  by_cases h2:v=k
  ·rw [if_pos h2]; intro h; have:=sInj h; omega
  rw [if_neg h2]; exact h.all v (by omega)
 intro v l' u hl' hu hv
 rw [get] at hv
 have hur:=hG.rng v l' u hl' hu
 by_cases h1:v=b.toNat
 ·rw [if_pos h1] at hv
  have hvk:=sInj hv
  have hvk':v=k:=by omega
  subst hvk'
  rw [hl] at hl'
  obtain rfl:=sInj hl'
  rcases hb with ⟨_,hall⟩ | ⟨hbm,_⟩
  ·have h3:=hall u hu
   rw [get,if_neg (by omega),if_neg (by omega)]
   refine ⟨h3,fun h4=>?_⟩
   obtain ⟨m',hm1,hm2⟩:=hG.sym v l u hl hu
   have:=(h.mx u.toNat m' (v:Int) hm1 hm2 (by rw [h4]; congr 1; omega)).1
   rw [Int.toNat_natCast] at this
   exact this hk1
  have:=(hG.rng v l b hl hbm).2.2
  omega
 rw [if_neg h1] at hv
 by_cases h2:v=k
 ·rw [if_pos h2] at hv
  have:=sInj hv
  omega
 rw [if_neg h2] at hv
 obtain ⟨h3,h4⟩:=h.mx v l' u hl' hu hv
 have hub:u.toNat≠b.toNat:=fun he=>h3 (by rw [he]; exact hb1)
 have huk:u.toNat≠k:=fun he=>h3 (by rw [he]; exact hk1)
 rw [get,if_neg hub,if_neg huk]
 exact ⟨h3,h4⟩
theorem match_ok {adj:L2} {vx:LI} {ed:L2} (h:Wt adj vx ed) (hn:adj.length≤200):Ret (dissect_match adj vx ed) (Mt adj):=by
 unfold dissect_match
 have hvl:=h.vl
 rw [hvl,bindS (repeat_ok (by omega) (-1)),ret_bind]
 simp only [ret_some]
 refine ret_loop adj.length (fun k (t:LI×Int)=>t.2=k∧Mw adj k t.1) ⟨rfl,by simp,fun v u hu=>.inl (List.mem_replicate.1 (mem_get hu)).2,fun v hv=>by omega,fun v l u _ _ hv=>by
  have:=(List.mem_replicate.1 (mem_get hv)).2; omega⟩ ?_
 rintro k ⟨m,i⟩ hk ⟨rfl,hI⟩
 simp only at hI
 have hml:=hI.len
 unfold dissect_match_l45 dissect_match_j60
 by_cases hkn:k < adj.length
 ·obtain ⟨l,hl⟩:∃ l,adj[k]?=some l:=⟨adj[k],by simp [hkn]⟩
  obtain ⟨q,hq⟩:∃ q,m[k]?=some q:=⟨m[k]'(by omega),by simp [show k < m.length by omega]⟩
  have e1:getI adj (k:Int)=some l:=hl
  have e2:getI m (k:Int)=some q:=hq
  have e5:(k:Int) < (adj.length:Int):=by omega
  have hw:wa .i64 (k:Int) 1=((k+1:Nat):Int):=wa1 (by omega)
  by_cases hq1:q= -1
  ·subst hq1
   simp only [ret_bind,ret_if,ret_of e1,ret_of e2,e5,true_implies,not_true_eq_false,false_implies,and_true]
   refine ret_call (best_loop h hkn hl hml (by omega)) ?_
   intro b hb
   have hbr:0≤b∧b < adj.length:=by
    rcases hb with ⟨rfl,_⟩ | ⟨h1,_⟩
    ·omega
    have:=h.gr.rng k l b hl h1; omega
   have e3:setI m (k:Int) b=some (m.set k b):=setI_lt (by omega)
   have e4:setI (m.set k b) b (k:Int)=some ((m.set k b).set b.toNat (k:Int)):=setI_of hbr.1 (by simp; omega)
   rw [ret_of e3,ret_of e4,ret_some,vq_l,hw]
   exact ⟨hkn,rfl,match_step h.gr hI hkn hq hl hb⟩
  simp only [vcD,implies_true,Bool.false_eq_true,reduceCtorEq,e1,e2,e5,hq1,hw]
  refine ⟨hkn,hI.len,hI.mate,fun v hv=>?_,hI.mx⟩
  by_cases hvk:v=k
  ·subst hvk; rw [hq]; simpa using hq1
  exact hI.all v (by omega)
 have e5:¬ (k:Int) < (adj.length:Int):=by omega
 have:k=adj.length:=by omega
 subst this
 simp only [vcD,implies_true,Bool.false_eq_true,reduceCtorEq,e5]
 refine ⟨hml,fun v u hu=>?_,fun v l u h1 h2 h3=>(hI.mx v l u h1 h2 h3).2⟩
 rcases hI.mate v u hu with rfl | h1
 ·exact absurd hu (hI.all v (by have:=(List.getElem?_eq_some_iff.1 hu).1; omega))
 exact h1
theorem kin_e {l:LI} {v:Int} (hl:l.length≤100000):sparsekit_In l v=some (decide (v∈l)):=by
 refine Ret.eq ?_
 unfold sparsekit_In
 simp only [ret_bind]
 refine ret_loop l.length (fun k (t:Int)=>t=k∧v∉l.take k) (by simp) ?_
 intro k t hk hI
 unfold sparsekit_In_l1
 simp only [ret_bind,ret_if,ret_get,ret_some,vq_l,vq_r]
 grind [List.take_add_one,List.mem_iff_getElem?]
end Pd
/- Finite sums; weighted graphs as tables of weights. -/
namespace Pd
open Pl Sx Go M Vc
def sm:Nat→(Nat→Int)→Int
 | 0,_=>0
 | n+1,f=>sm n f+f n
theorem sm_congr {n:Nat} {f g:Nat→Int} (h:∀ i,i < n→f i=g i):sm n f=sm n g:=by
 induction n with
 | zero=>rfl
 | succ n ih=>rw [sm,sm,ih (fun i hi=>h i (by omega)),h n (by omega)]
theorem sm_zero {n:Nat} {f:Nat→Int} (h:∀ i,i < n→f i=0):sm n f=0:=by
 induction n with
 | zero=>rfl
 | succ n ih=>rw [sm,ih (fun i hi=>h i (by omega)),h n (by omega)]; rfl
theorem sm_add {n:Nat} {f g:Nat→Int}:sm n (fun i=>f i+g i)=sm n f+sm n g:=by
 induction n with
 | zero=>rfl
 | succ n ih=>simp only [sm,ih]; omega
theorem sm_swap {n m:Nat} {f:Nat→Nat→Int}:sm n (fun i=>sm m fun j=>f i j)=sm m (fun j=>sm n fun i=>f i j):=by
 induction n with
 | zero=>exact (sm_zero fun _ _=>rfl).symm
 | succ n ih=>simp only [sm]; rw [ih,sm_add]
theorem sm_le {n:Nat} {f g:Nat→Int} (h:∀ i,i < n→f i≤g i):sm n f≤sm n g:=by
 induction n with
 | zero=>exact Int.le_refl _
 | succ n ih=>have:=ih (fun i hi=>h i (by omega)); have:=h n (by omega); simp only [sm]; omega
theorem sm_nonneg {n:Nat} {f:Nat→Int} (h:∀ i,i < n→0≤f i):0≤sm n f:=by
 induction n with
 | zero=>exact Int.le_refl _
 | succ n ih=>have:=ih (fun i hi=>h i (by omega)); have:=h n (by omega); simp only [sm]; omega
theorem sm_bound {n:Nat} {f:Nat→Int} {B:Int} (h:∀ i,i < n→f i≤B):sm n f≤n*B:=by
 induction n with
 | zero=>simp [sm]
 | succ n ih=>
  have h1:=ih (fun i hi=>h i (by omega)); have h2:=h n (by omega)
  simp only [sm]
  have:((n+1:Nat):Int)*B=n*B+B:=by rw [Int.natCast_add,Int.add_mul]; omega
  omega
theorem sm_one {n a:Nat} {x:Int} (h:a < n):sm n (fun i=>if a=i then x else 0)=x:=by
 induction n with
 | zero=>omega
 | succ n ih=>
  rw [sm]
  by_cases ha:a=n
  ·subst ha
   rw [if_pos rfl,sm_zero (fun i hi=>by rw [if_neg (by omega)])]; omega
  rw [if_neg ha,ih (by omega)]; omega
theorem sm_pos {n:Nat} {f:Nat→Int} (h:∀ i,i < n→0≤f i) {a:Nat} (ha:a < n):f a≤sm n f:=by
 induction n with
 | zero=>omega
 | succ n ih=>
  rw [sm]
  have h1:=sm_nonneg (n:=n) (f:=f) (fun i hi=>h i (by omega))
  by_cases he:a=n
  ·subst he; omega
  have:=ih (fun i hi=>h i (by omega)) (by omega)
  have:=h n (by omega)
  omega
theorem sm_half {n:Nat} {f:Nat→Nat→Int} (hs:∀ i j,i < n→j < n→f i j=f j i) (hd:∀ i,i < n→f i i=0):
  sm n (fun i=>sm n fun j=>f i j)=2*sm n (fun i=>sm n fun j=>if j < i then f i j else 0):=by
 have h1:sm n (fun i=>sm n fun j=>f i j)=sm n (fun i=>sm n fun j=>(if j < i then f i j else 0))+sm n (fun i=>sm n fun j=>(if i < j then f i j else 0)):=by
  rw [← sm_add]
  refine sm_congr fun i hi=>?_
  rw [← sm_add]
  refine sm_congr fun j hj=>?_
  by_cases h1:j < i
  ·rw [if_pos h1,if_neg (by omega)]; omega
  by_cases h2:i < j
  ·rw [if_neg h1,if_pos h2]; omega
  have:i=j:=by omega
  subst this
  rw [hd i hi]; simp
 have h2:sm n (fun i=>sm n fun j=>(if i < j then f i j else 0))=sm n (fun i=>sm n fun j=>(if j < i then f i j else 0)):=by
  rw [sm_swap]
  refine sm_congr fun j hj=>sm_congr fun i hi=>?_
  by_cases h:i < j
  ·rw [if_pos h,if_pos h,hs i j hi hj]
  rw [if_neg h,if_neg h]
 rw [h1,h2]; omega
def nbs (n:Nat) (f:Nat→Int):List Nat:=(List.range n).filter fun u=>decide (0 < f u)
theorem nbs_mem {n:Nat} {f:Nat→Int} {u:Nat}:u∈nbs n f↔u < n∧0 < f u:=by simp [nbs]
theorem nbs_succ {n:Nat} {f:Nat→Int}:nbs (n+1) f=if 0 < f n then nbs n f++[n] else nbs n f:=by
 unfold nbs
 rw [List.range_succ,List.filter_append]
 by_cases h:0 < f n
 ·simp [h]
 simp [h]
theorem nbs_asc {n:Nat} {f:Nat→Int}:(nbs n f).Pairwise (· < ·):=List.Pairwise.filter _ (List.pairwise_lt_range)
theorem nbs_len {n:Nat} {f:Nat→Int}:(nbs n f).length≤n:=by
 have:=List.length_filter_le (fun u=>decide (0 < f u)) (List.range n)
 simpa [nbs] using this
theorem nbs_sum {n:Nat} {f:Nat→Int} {g:Nat→Int}:((nbs n f).map g).sum=sm n (fun u=>if 0 < f u then g u else 0):=by
 induction n with
 | zero=>rfl
 | succ n ih=>
  rw [nbs_succ,sm,← ih]
  by_cases h:0 < f n
  ·rw [if_pos h,if_pos h,List.map_append,List.sum_append]; simp
  rw [if_neg h,if_neg h]; omega
def cadj (n:Nat) (W:Nat→Nat→Int):L2:=(List.range n).map fun v=>(nbs n (W v)).map Int.ofNat
def ced (n:Nat) (W:Nat→Nat→Int):L2:=(List.range n).map fun v=>(nbs n (W v)).map (W v)
theorem cadj_get {n:Nat} {W:Nat→Nat→Int} {v:Nat} (h:v < n):(cadj n W)[v]?=some ((nbs n (W v)).map Int.ofNat):=by simp [cadj,h]
theorem ced_get {n:Nat} {W:Nat→Nat→Int} {v:Nat} (h:v < n):(ced n W)[v]?=some ((nbs n (W v)).map (W v)):=by simp [ced,h]
theorem cadj_len {n:Nat} {W:Nat→Nat→Int}:(cadj n W).length=n:=by simp [cadj]
theorem ced_len {n:Nat} {W:Nat→Nat→Int}:(ced n W).length=n:=by simp [ced]
structure Tw (n:Nat) (W:Nat→Nat→Int) (B:Int):Prop where
 nn:∀ v u,v < n→u < n→0≤W v u∧W v u≤B
 sym:∀ v u,v < n→u < n→W v u=W u v
 dg:∀ v,v < n→W v v=0
theorem cadj_gr {n:Nat} {W:Nat→Nat→Int} {B:Int} (h:Tw n W B):Gr (cadj n W):=by
 have hg:∀ (v:Nat) l,(cadj n W)[v]?=some l→v < n∧l=(nbs n (W v)).map Int.ofNat:=by
  intro v l hv
  have hvn:v < n:=by have:=(List.getElem?_eq_some_iff.1 hv).1; rwa [cadj_len] at this
  rw [cadj_get hvn] at hv
  exact ⟨hvn,(sInj hv).symm⟩
 refine ⟨?_,?_,?_⟩
 ·intro v l hv
  obtain ⟨_,rfl⟩:=hg v l hv
  rw [List.pairwise_map]
  exact nbs_asc.imp fun {a b} h=>by show (a:Int) < (b:Int); omega
 ·intro v l x hv hx
  obtain ⟨hvn,rfl⟩:=hg v l hv
  obtain ⟨u,hu,rfl⟩:=List.mem_map.1 hx
  obtain ⟨h1,h2⟩:=nbs_mem.1 hu
  rw [cadj_len]
  refine ⟨Int.natCast_nonneg u,by show (u:Int) < n; omega,?_⟩
  intro he
  have:u=v:=by have:(u:Int)=v:=he; omega
  subst this
  rw [h.dg u hvn] at h2; omega
 intro v l x hv hx
 obtain ⟨hvn,rfl⟩:=hg v l hv
 obtain ⟨u,hu,rfl⟩:=List.mem_map.1 hx
 obtain ⟨h1,h2⟩:=nbs_mem.1 hu
 refine ⟨(nbs n (W u)).map Int.ofNat,cadj_get h1,List.mem_map.2 ⟨v,nbs_mem.2 ⟨hvn,by rw [← h.sym v u hvn h1]; exact h2⟩,rfl⟩⟩
theorem canon_wt {n:Nat} {W:Nat→Nat→Int} (h:Tw n W 1099511627776) {vx:LI} (hv:vx.length=n) (hw:∀ x,x∈vx→Wg x):Wt (cadj n W) vx (ced n W):=by
 refine ⟨cadj_gr h,by rw [cadj_len]; exact hv,by rw [cadj_len,ced_len],hw,?_,?_,?_⟩
 ·intro v l e hl he
  have hvn:v < n:=by have:=(List.getElem?_eq_some_iff.1 hl).1; rwa [cadj_len] at this
  rw [cadj_get hvn] at hl
  rw [ced_get hvn] at he
  obtain rfl:=sInj hl
  obtain rfl:=sInj he
  simp
 ·intro e he x hx
  obtain ⟨v,hv'⟩:=List.mem_iff_getElem?.1 he
  have hvn:v < n:=by have:=(List.getElem?_eq_some_iff.1 hv').1; rwa [ced_len] at this
  rw [ced_get hvn] at hv'
  obtain rfl:=sInj hv'
  obtain ⟨u,hu,rfl⟩:=List.mem_map.1 hx
  obtain ⟨h1,h2⟩:=nbs_mem.1 hu
  have:=h.nn v u hvn h1
  exact ⟨by omega,this.2⟩
 intro v k l e u x hl he hu hx
 have hvn:v < n:=by have:=(List.getElem?_eq_some_iff.1 hl).1; rwa [cadj_len] at this
 rw [cadj_get hvn] at hl
 rw [ced_get hvn] at he
 obtain rfl:=sInj hl
 obtain rfl:=sInj he
 rw [List.getElem?_map] at hu hx
 cases hk:(nbs n (W v))[k]? with
 | none=>rw [hk] at hu; cases hu
 | some q=>
  rw [hk] at hu hx
  obtain rfl:=sInj hu
  obtain rfl:=sInj hx
  obtain ⟨h1,h2⟩:=nbs_mem.1 (List.mem_of_getElem? hk)
  have hm:v∈nbs n (W q):=nbs_mem.2 ⟨hvn,by rw [← h.sym v q hvn h1]; exact h2⟩
  obtain ⟨k',hk'⟩:=List.mem_iff_getElem?.1 hm
  refine ⟨(nbs n (W q)).map Int.ofNat,(nbs n (W q)).map (W q),k',?_,?_,?_,?_⟩
  ·show (cadj n W)[q]?=_
   exact cadj_get h1
  ·show (ced n W)[q]?=_
   exact ced_get h1
  ·rw [List.getElem?_map,hk']; rfl
  rw [List.getElem?_map,hk']
  show some (W q v)=some (W v q)
  rw [h.sym v q hvn h1]
def lk:LI→LI→Int→Int
 | x::l,y::e,u=>if x=u then y else lk l e u
 | _,_,_=>0
theorem lk_get {l e:LI} (hd:l.Nodup):∀ {k:Nat} {u x:Int},l[k]?=some u→e[k]?=some x→lk l e u=x:=by
 induction l generalizing e with
 | nil=>intro k u x h; simp at h
 | cons y l ih=>
  intro k u x hu hx
  obtain ⟨h1,h2⟩:=List.nodup_cons.1 hd
  cases e with
  | nil=>simp at hx
  | cons z e=>
   cases k with
   | zero=>simp at hu hx; subst hu hx; simp [lk]
   | succ k=>
    simp only [List.getElem?_cons_succ] at hu hx
    rw [lk,if_neg (fun he=>h1 (by rw [he]; exact List.mem_of_getElem? hu))]
    exact ih h2 hu hx
theorem lk_no {l e:LI}:∀ {u:Int},u∉l→lk l e u=0:=by
 induction l generalizing e with
 | nil=>intro u _; simp [lk]
 | cons y l ih=>
  intro u hu
  cases e with
  | nil=>simp [lk]
  | cons z e=>
   rw [lk,if_neg (fun he=>hu (by rw [he]; simp))]
   exact ih (fun h=>hu (by simp [h]))
def wof (adj ed:L2) (v u:Nat):Int:=lk (adj[v]?.getD []) (ed[v]?.getD []) (u:Int)
theorem asc_ext' {a b:LI} (ha:a.Pairwise (· < ·)) (hb:b.Pairwise (· < ·)) (h:∀ x,x∈a↔x∈b):a=b:=by
 have nd:∀ {a:LI},a.Pairwise (· < ·)→a.Nodup:=fun ha=>(List.nodup_iff_pairwise_ne).2 (ha.imp fun h=>by omega)
 have hp:=(List.perm_ext_iff_of_nodup (nd ha) (nd hb)).2 h
 exact List.Perm.eq_of_pairwise (le:=fun a b:Int=>a < b) (fun a b _ _ h1 h2=>by omega) ha hb hp
theorem Wt.canon {adj:L2} {vx:LI} {ed:L2} (h:Wt adj vx ed) {B:Int} (hB0:0≤B) (hB:∀ e,e∈ed→∀ x,x∈e→x≤B):
  adj=cadj adj.length (wof adj ed)∧ed=ced adj.length (wof adj ed)∧Tw adj.length (wof adj ed) B:=by
 have hel:=h.el
 have nd:∀ {a:LI},a.Pairwise (· < ·)→a.Nodup:=fun ha=>(List.nodup_iff_pairwise_ne).2 (ha.imp fun h=>by omega)
 have row:∀ v,v < adj.length→∃ l e,adj[v]?=some l∧ed[v]?=some e∧e.length=l.length∧(∀ u,wof adj ed v u=lk l e (u:Int))∧l=(nbs adj.length (wof adj ed v)).map Int.ofNat∧e=(nbs adj.length (wof adj ed v)).map (wof adj ed v):=by
  intro v hv
  obtain ⟨l,e,h1,h2,h3⟩:=h.row hv
  have hw:∀ u,wof adj ed v u=lk l e (u:Int):=by intro u; unfold wof; rw [h1,h2]; rfl
  have hnd:=nd (h.gr.asc v l h1)
  have hpos:∀ u:Nat,0 < wof adj ed v u↔(u:Int)∈l:=by
   intro u
   rw [hw]
   by_cases hu:(u:Int)∈l
   ·obtain ⟨k,hk⟩:=List.mem_iff_getElem?.1 hu
    have hkl:=(List.getElem?_eq_some_iff.1 hk).1
    obtain ⟨x,hx⟩:∃ x,e[k]?=some x:=⟨e[k]'(by omega),by simp [show k < e.length by omega]⟩
    rw [lk_get hnd hk hx]
    have:=h.er e (mem_get h2) x (mem_get hx)
    unfold Wg at this
    exact ⟨fun _=>hu,fun _=>by omega⟩
   rw [lk_no hu]
   exact ⟨fun h=>by omega,fun h=>absurd h hu⟩
  have hl:l=(nbs adj.length (wof adj ed v)).map Int.ofNat:=by
   refine asc_ext' (h.gr.asc v l h1) ?_ fun x=>?_
   ·rw [List.pairwise_map]
    exact nbs_asc.imp fun {a b} h=>by show (a:Int) < (b:Int); omega
   constructor
   ·intro hx
    obtain ⟨g1,g2,_⟩:=h.gr.rng v l x h1 hx
    obtain ⟨u,rfl⟩:=Int.eq_ofNat_of_zero_le g1
    exact List.mem_map.2 ⟨u,nbs_mem.2 ⟨by omega,(hpos u).2 hx⟩,rfl⟩
   intro hx
   obtain ⟨u,hu,rfl⟩:=List.mem_map.1 hx
   exact (hpos u).1 (nbs_mem.1 hu).2
  refine ⟨l,e,h1,h2,h3,hw,hl,?_⟩
  have hll:l.length=(nbs adj.length (wof adj ed v)).length:=by
   have:=congrArg List.length hl
   simpa using this
  apply List.ext_getElem?
  intro k
  by_cases hk:k < e.length
  ·obtain ⟨x,hx⟩:∃ x,e[k]?=some x:=⟨e[k],by simp [hk]⟩
   obtain ⟨q,hq⟩:∃ q,(nbs adj.length (wof adj ed v))[k]?=some q:=⟨(nbs adj.length (wof adj ed v))[k]'(by omega),by simp [show k < (nbs adj.length (wof adj ed v)).length by omega]⟩
   have hlk:l[k]?=some (q:Int):=by rw [hl,List.getElem?_map,hq]; rfl
   rw [hx,List.getElem?_map,hq]
   simp only [Option.map_some]
   rw [hw,lk_get hnd hlk hx]
  rw [List.getElem?_eq_none (by omega),List.getElem?_eq_none (by rw [List.length_map]; omega)]
 refine ⟨?_,?_,?_,?_,?_⟩
 ·apply List.ext_getElem?
  intro v
  by_cases hv:v < adj.length
  ·obtain ⟨l,e,h1,h2,h3,hw,hl,he⟩:=row v hv
   rw [h1,cadj_get hv,← hl]
  rw [List.getElem?_eq_none (by omega),List.getElem?_eq_none (by rw [cadj_len]; omega)]
 ·apply List.ext_getElem?
  intro v
  by_cases hv:v < adj.length
  ·obtain ⟨l,e,h1,h2,h3,hw,hl,he⟩:=row v hv
   rw [h2,ced_get hv,← he]
  rw [List.getElem?_eq_none (by omega),List.getElem?_eq_none (by rw [ced_len]; omega)]
 ·intro v u hv hu
  obtain ⟨l,e,h1,h2,h3,hw,hl,he⟩:=row v hv
  rw [hw]
  by_cases hm:(u:Int)∈l
  ·obtain ⟨k,hk⟩:=List.mem_iff_getElem?.1 hm
   have hkl:=(List.getElem?_eq_some_iff.1 hk).1
   obtain ⟨x,hx⟩:∃ x,e[k]?=some x:=⟨e[k]'(by omega),by simp [show k < e.length by omega]⟩
   rw [lk_get (nd (h.gr.asc v l h1)) hk hx]
   have:=h.er e (mem_get h2) x (mem_get hx)
   have:=hB e (mem_get h2) x (mem_get hx)
   unfold Wg at*
   omega
  rw [lk_no hm]; omega
 ·intro v u hv hu
  obtain ⟨l,e,h1,h2,h3,hw,hl,he⟩:=row v hv
  obtain ⟨l',e',h1',h2',h3',hw',hl',he'⟩:=row u hu
  rw [hw,hw']
  by_cases hm:(u:Int)∈l
  ·obtain ⟨k,hk⟩:=List.mem_iff_getElem?.1 hm
   have hkl:=(List.getElem?_eq_some_iff.1 hk).1
   obtain ⟨x,hx⟩:∃ x,e[k]?=some x:=⟨e[k]'(by omega),by simp [show k < e.length by omega]⟩
   obtain ⟨l2,e2,k',f1,f2,f3,f4⟩:=h.sy v k l e _ x h1 h2 hk hx
   rw [Int.toNat_natCast] at f1 f2
   rw [h1'] at f1; rw [h2'] at f2
   obtain rfl:=sInj f1
   obtain rfl:=sInj f2
   rw [lk_get (nd (h.gr.asc v l h1)) hk hx,lk_get (nd (h.gr.asc u l' h1')) f3 f4]
  have hm':(v:Int)∉l':=by
   intro hmem
   obtain ⟨m,g1,g2⟩:=h.gr.sym u l' (v:Int) h1' hmem
   rw [Int.toNat_natCast,h1] at g1
   obtain rfl:=sInj g1
   exact hm g2
  rw [lk_no hm,lk_no hm']
 intro v hv
 obtain ⟨l,e,h1,h2,h3,hw,hl,he⟩:=row v hv
 rw [hw,lk_no]
 intro hm
 exact (h.gr.rng v l (v:Int) h1 hm).2.2 rfl
end Pd
/- Coarsening: what the program makes of mates. -/
namespace Pd
open Pl Sx Go M Vc
def tt (to:LI) (v:Nat):Nat:=(to[v]?.getD 0).toNat
def vw (vx:LI) (v:Nat):Int:=vx[v]?.getD 0
theorem tt_get {to:LI} {v:Nat} {a:Int} (h:to[v]?=some a):tt to v=a.toNat:=by unfold tt; rw [h]; rfl
theorem vw_get {vx:LI} {v:Nat} {x:Int} (h:vx[v]?=some x):vw vx v=x:=by unfold vw; rw [h]; rfl
theorem tt_set {to:LI} {k v:Nat} {a:Nat} (hk:k < to.length):tt (to.set k (a:Int)) v=if v=k then a else tt to v:=by
 unfold tt
 rw [List.getElem?_set]
 by_cases h:k=v
 ·subst h; rw [if_pos rfl,if_pos hk,if_pos rfl]; simp
 rw [if_neg h,if_neg (fun e=>h e.symm)]
structure Mg (vx:LI) (n k:Nat) (vs to:LI):Prop where
 tl:to.length=n
 vl:vs.length≤k
 tr:∀ v,v < k→∃ a:Nat,to[v]?=some (a:Int)∧a < vs.length
 ws:∀ a,a < vs.length→vs[a]?=some (sm k fun v=>if tt to v=a then vw vx v else 0)
 sj:∀ a,a < vs.length→∃ v,v < k∧tt to v=a
theorem merge_ok {n:Nat} {m vx:LI} (hM:Ml n m) (hn:n≤200) (hv:vx.length=n) (hvx:∀ x,x∈vx→Wg x):
  Ret (loop (dissect_coarsen_l3 m vx) ([],List.replicate n 0,0)) (fun o=>Mg vx n n o.1 o.2):=by
 have hml:=hM.len
 have hvw:∀ v,v < n→vx[v]?=some (vw vx v)∧1≤vw vx v∧vw vx v≤1099511627776:=by
  intro v hvn
  obtain ⟨x,hx⟩:∃ x,vx[v]?=some x:=⟨vx[v]'(by omega),by simp [show v < vx.length by omega]⟩
  have:=hvx x (mem_get hx)
  rw [vw_get hx]
  exact ⟨hx,this.1,this.2⟩
 refine ret_loop n (fun k (t:LI×LI×Int)=>t.2.2=k∧Mg vx n k t.1 t.2.1) ⟨rfl,by simp,by simp,fun v h=>by omega,fun a h=>by simp at h,fun a h=>by simp at h⟩ ?_
 rintro k ⟨vs,to,i⟩ hk ⟨rfl,hI⟩
 simp only at hI
 obtain ⟨h1,h2,h3,h4,h5⟩:=hI
 unfold dissect_coarsen_l3 dissect_coarsen_j50
 by_cases hkn:k < n
 ·obtain ⟨u,hu⟩:∃ u,m[k]?=some u:=⟨m[k]'(by omega),by simp [show k < m.length by omega]⟩
  obtain ⟨hur,_⟩:=hM.mate k u hu
  obtain ⟨hx1,hx2,hx3⟩:=hvw k hkn
  have e1:getI m (k:Int)=some u:=hu
  have e5:(k:Int) < (m.length:Int):=by omega
  have hw:wa .i64 (k:Int) 1=((k+1:Nat):Int):=wa1 (by omega)
  have ex:getI vx (k:Int)=some (vw vx k):=hx1
  have hb:∀ a,0≤sm k (fun v=>if tt to v=a then vw vx v else 0)∧sm k (fun v=>if tt to v=a then vw vx v else 0)≤k*1099511627776:=by
   intro a
   refine ⟨sm_nonneg fun v hv=>?_,sm_bound fun v hv=>?_⟩
   ·have:=hvw v (by omega); split<;>omega
   have:=hvw v (by omega); split<;>omega
  have hbk:(k:Int)*1099511627776≤200*1099511627776:=by omega
  have sm_eq:∀ (a b:Nat),sm (k+1) (fun v=>if tt (to.set k (a:Int)) v=b then vw vx v else 0)=sm k (fun v=>if tt to v=b then vw vx v else 0)+if a=b then vw vx k else 0:=by
   intro a b
   have e0:tt (to.set k (a:Int)) k=a:=by rw [tt_set (by omega),if_pos rfl]
   have e1:sm k (fun v=>if tt (to.set k (a:Int)) v=b then vw vx v else 0)=sm k (fun v=>if tt to v=b then vw vx v else 0):=by
    refine sm_congr fun v hv=>?_
    have:tt (to.set k (a:Int)) v=tt to v:=by rw [tt_set (by omega),if_neg (by omega)]
    rw [this]
   rw [sm,e1,e0]
  have sj_eq:∀ (a b:Nat),b < vs.length→∃ v,v < k+1∧tt (to.set k (a:Int)) v=b:=by
   intro a b hb2
   obtain ⟨v,g1,g2⟩:=h5 b hb2
   exact ⟨v,by omega,by rw [tt_set (by omega),if_neg (by omega)]; exact g2⟩
  have tr_eq:∀ (a K:Nat),a < K→vs.length≤K→∀ v,v < k+1→∃ b:Nat,(to.set k (a:Int))[v]?=some (b:Int)∧b < K:=by
   intro a K ha hK v hv
   rw [List.getElem?_set]
   by_cases hvk:k=v
   ·rw [if_pos hvk,if_pos (by omega)]; exact ⟨a,rfl,ha⟩
   rw [if_neg hvk]
   obtain ⟨b,g1,g2⟩:=h3 v (by omega)
   exact ⟨b,g1,by omega⟩
  by_cases huk:u < (k:Int)
  ·obtain ⟨u,rfl⟩:=Int.eq_ofNat_of_zero_le hur.1
   obtain ⟨a,ha1,ha2⟩:=h3 u (by omega)
   have e2:getI to (u:Int)=some (a:Int):=ha1
   have e3:setI to (k:Int) (a:Int)=some (to.set k (a:Int)):=setI_lt (by omega)
   have e4:getI (to.set k (a:Int)) (k:Int)=some (a:Int):=by rw [getI_cast,List.getElem?_set,if_pos rfl,if_pos (by omega)]
   have hb':=hb a
   have e6:getI vs (a:Int)=some (sm k fun v=>if tt to v=a then vw vx v else 0):=h4 a ha2
   have hw2:wa .i64 (sm k fun v=>if tt to v=a then vw vx v else 0) (vw vx k)=(sm k fun v=>if tt to v=a then vw vx v else 0)+vw vx k:=wa_i (by omega) (by omega)
   have e7:setI vs (a:Int) ((sm k fun v=>if tt to v=a then vw vx v else 0)+vw vx k)=some (vs.set a ((sm k fun v=>if tt to v=a then vw vx v else 0)+vw vx k)):=setI_lt ha2
   simp only [ret_bind,ret_if,e5,huk,ret_of e1,ret_of e2,ret_of e3,ret_of e4,ret_of e6,ret_of ex,hw2,ret_of e7,ret_some,vq_l,vq_r,true_implies,not_true_eq_false,false_implies,and_true,hw]
   refine ⟨by omega,trivial,by simp [h1],by simp; omega,by simpa using tr_eq a vs.length ha2 (Nat.le_refl _),fun b hb2=>?_,fun b hb2=>sj_eq a b (by simpa using hb2)⟩
   simp only [List.length_set] at hb2
   rw [sm_eq,List.getElem?_set]
   by_cases hab:a=b
   ·subst hab; rw [if_pos rfl,if_pos ha2,if_pos rfl]
   rw [if_neg hab,if_neg hab,h4 b hb2,Int.add_zero]
  have e3:setI to (k:Int) (vs.length:Int)=some (to.set k (vs.length:Int)):=setI_lt (by omega)
  have e4:app vs [vw vx k]=some (vs++[vw vx k]):=app_small (by rw [List.length_singleton]; omega)
  simp only [ret_bind,ret_if,e5,huk,ret_of e1,ret_of e3,ret_of ex,ret_of e4,ret_some,vq_l,vq_r,true_implies,not_true_eq_false,not_false_eq_true,false_implies,and_true,true_and,hw]
  refine ⟨by omega,by simp [h1],by simp; omega,?_,fun b hb2=>?_,fun b hb2=>?_⟩
  ·have:=tr_eq vs.length (vs.length+1) (by omega) (by omega)
   simpa using this
  ·simp only [List.length_append,List.length_singleton] at hb2
   rw [sm_eq]
   by_cases hbl:b < vs.length
   ·rw [List.getElem?_append_left hbl,h4 b hbl,if_neg (by omega),Int.add_zero]
   have:b=vs.length:=by omega
   subst this
   rw [List.getElem?_append_right (Nat.le_refl _),if_pos rfl,sm_zero (fun v hv=>by
    obtain ⟨b,g1,g2⟩:=h3 v hv
    rw [if_neg]
    rw [tt_get g1]; omega)]
   simp
  simp only [List.length_append,List.length_singleton] at hb2
  by_cases hbl:b < vs.length
  ·exact sj_eq vs.length b hbl
  exact ⟨k,by omega,by rw [tt_set (by omega),if_pos rfl]; omega⟩
 have e5:¬ (k:Int) < (m.length:Int):=by omega
 have:k=n:=by omega
 subst this
 simp only [vcD,implies_true,Bool.false_eq_true,reduceCtorEq,e5]
 exact ⟨h1,h2,h3,h4,h5⟩
def Tv (X:L2) (K:Nat) (f:Nat→Nat→Int):Prop:=X.length=K∧∀ a,a < K→∃ r,X[a]?=some r∧r.length=K∧∀ b,b < K→r[b]?=some (f a b)
theorem Tv.congr {X:L2} {K:Nat} {f g:Nat→Nat→Int} (h:Tv X K f) (he:∀ a b,a < K→b < K→f a b=g a b):Tv X K g:=
 ⟨h.1,fun a ha=>by obtain ⟨r,h1,h2,h3⟩:=h.2 a ha; exact ⟨r,h1,h2,fun b hb=>by rw [h3 b hb,he a b ha hb]⟩⟩
theorem Tv.put {X:L2} {K:Nat} {f:Nat→Nat→Int} (h:Tv X K f) {a b:Nat} (ha:a < K) (hb:b < K) {r:LI} (hr:X[a]?=some r) (z:Int):Tv (X.set a (r.set b z)) K (fun c d=>if c=a∧d=b then z else f c d):=by
 refine ⟨by simp [h.1],fun c hc=>?_⟩
 obtain ⟨r',h1,h2,h3⟩:=h.2 c hc
 have hXl:=h.1
 by_cases hca:a=c
 ·subst hca
  rw [hr] at h1
  obtain rfl:=sInj h1
  refine ⟨r.set b z,by rw [List.getElem?_set,if_pos rfl,if_pos (by omega)],by simp [h2],fun d hd=>?_⟩
  show (r.set b z)[d]?=some (if a=a∧d=b then z else f a d)
  rw [List.getElem?_set]
  by_cases hbd:b=d
  ·subst hbd; rw [if_pos rfl,if_pos (by omega),if_pos ⟨rfl,rfl⟩]
  rw [if_neg hbd,if_neg (fun hh=>hbd hh.2.symm)]; exact h3 d hd
 refine ⟨r',by rw [List.getElem?_set,if_neg hca]; exact h1,h2,fun d hd=>?_⟩
 show r'[d]?=some (if c=a∧d=b then z else f c d)
 rw [if_neg (fun hh=>hca hh.1.symm)]; exact h3 d hd
theorem zeros_ok {K:Nat} (hK:K≤1000) {vs:LI} (hv:vs.length=K):Ret (loop (dissect_coarsen_l4 (List.replicate K []) vs) (List.replicate K [],0)) (fun X=>Tv X K (fun _ _=>0)):=by
 refine ret_loop K (fun k (t:L2×Int)=>t.2=k∧t.1.length=K∧∀ a,a < k→t.1[a]?=some (List.replicate K 0)) ⟨rfl,by simp,fun a h=>by omega⟩ ?_
 rintro k ⟨X,i⟩ hk ⟨rfl,h1,h2⟩
 simp only at h1 h2
 unfold dissect_coarsen_l4
 have hrl:(List.replicate K ([]:LI)).length=K:=by simp
 by_cases hkn:k < K
 ·have hw:wa .i64 (k:Int) 1=((k+1:Nat):Int):=wa1 (by omega)
  have e5:(k:Int) < (K:Int):=by omega
  simp only [vcC,Bool.false_eq_true,reduceCtorEq,hrl,e5,hv,hw]
  refine ⟨by omega,by omega,by omega,by omega,hkn,trivial,by simp [h1],fun u hu=>?_⟩
  rw [List.getElem?_set]
  by_cases hku:k=u
  ·rw [if_pos hku,if_pos (by omega)]
  rw [if_neg hku]; exact h2 u (by omega)
 have e5:¬ (k:Int) < (K:Int):=by omega
 simp only [vcC,Bool.false_eq_true,reduceCtorEq,hrl,e5]
 exact ⟨h1,fun a ha=>⟨_,h2 a (by omega),by simp,fun b hb=>by simp [hb]⟩⟩
def rowS (W:Nat→Nat→Int) (to:LI) (v:Nat) (l:List Nat) (a b:Nat):Int:=(l.map fun u=>if tt to v=a∧tt to u=b then W v u else 0).sum
def tabS (n:Nat) (W:Nat→Nat→Int) (to:LI) (k a b:Nat):Int:=sm k fun v=>sm n fun u=>if tt to v=a∧tt to u=b then W v u else 0
theorem row_add {n:Nat} (hn:n≤200) {W:Nat→Nat→Int} {B:Int} (hT:Tw n W B) (hB:0≤B∧B≤1099511627776) {to:LI} {K v:Nat} (hv:v < n) (hto:∀ u,u < n→∃ a:Nat,to[u]?=some (a:Int)∧a < K) {X:L2} {f:Nat→Nat→Int} (hX:Tv X K f) {c:Nat} (hc:c≤50000) (hf:∀ a b,a < K→b < K→0≤f a b∧f a b≤c*B):
  Ret (loop (dissect_coarsen_l49 ((nbs n (W v)).map Int.ofNat) to (v:Int) (ced n W)) (X,0)) (fun X'=>Tv X' K (fun a b=>f a b+rowS W to v (nbs n (W v)) a b)):=by
 have hnl:=nbs_len (n:=n) (f:=W v)
 have hll:((nbs n (W v)).map Int.ofNat).length=(nbs n (W v)).length:=by simp
 refine (ret_loop (nbs n (W v)).length (fun k (t:L2×Int)=>t.2=k∧Tv t.1 K (fun a b=>f a b+rowS W to v ((nbs n (W v)).take k) a b)∧∀ a b,a < K→b < K→0≤rowS W to v ((nbs n (W v)).take k) a b∧rowS W to v ((nbs n (W v)).take k) a b≤k*B) ⟨rfl,hX.congr fun a b _ _=>by simp [rowS],fun a b _ _=>by simp [rowS]⟩ ?_).mono (fun X' h=>h)
 rintro k ⟨X,i⟩ hk ⟨rfl,h1,h2⟩
 simp only at h1
 unfold dissect_coarsen_l49
 by_cases hkl:k < (nbs n (W v)).length
 ·obtain ⟨u,hu⟩:∃ u,(nbs n (W v))[k]?=some u:=⟨(nbs n (W v))[k],by simp [hkl]⟩
  obtain ⟨hun,hpos⟩:=nbs_mem.1 (List.mem_of_getElem? hu)
  have hwr:=hT.nn v u hv hun
  obtain ⟨a,ha1,ha2⟩:=hto v hv
  obtain ⟨b,hb1,hb2⟩:=hto u hun
  have hta:tt to v=a:=by rw [tt_get ha1]; simp
  have htb:tt to u=b:=by rw [tt_get hb1]; simp
  obtain ⟨r,hr1,hr2,hr3⟩:=h1.2 a ha2
  have hXl:=h1.1
  have e0:getI ((nbs n (W v)).map Int.ofNat) (k:Int)=some (u:Int):=by rw [getI_cast,List.getElem?_map,hu]; rfl
  have e1:getI to (v:Int)=some (a:Int):=ha1
  have e2:getI X (a:Int)=some r:=hr1
  have e3:getI to (u:Int)=some (b:Int):=hb1
  have e4:getI r (b:Int)=some (f a b+rowS W to v ((nbs n (W v)).take k) a b):=hr3 b hb2
  have e6:getI (ced n W) (v:Int)=some ((nbs n (W v)).map (W v)):=ced_get hv
  have e7:getI ((nbs n (W v)).map (W v)) (k:Int)=some (W v u):=by rw [getI_cast,List.getElem?_map,hu]; rfl
  have e5:(k:Int) < (((nbs n (W v)).map Int.ofNat).length:Int):=by omega
  have hw:wa .i64 (k:Int) 1=((k+1:Nat):Int):=wa1 (by omega)
  have g1:=hf a b ha2 hb2
  have g2:=h2 a b ha2 hb2
  have gc:(c:Int)*B≤50000*1099511627776:=Int.le_trans (Int.mul_le_mul_of_nonneg_right (show (c:Int)≤50000 by omega) hB.1) (Int.mul_le_mul_of_nonneg_left hB.2 (by omega))
  have gk:(k:Int)*B≤200*1099511627776:=Int.le_trans (Int.mul_le_mul_of_nonneg_right (show (k:Int)≤200 by omega) hB.1) (Int.mul_le_mul_of_nonneg_left hB.2 (by omega))
  have hw2:wa .i64 (f a b+rowS W to v ((nbs n (W v)).take k) a b) (W v u)=f a b+rowS W to v ((nbs n (W v)).take k) a b+W v u:=wa_i (by omega) (by omega)
  have e8:setI r (b:Int) (f a b+rowS W to v ((nbs n (W v)).take k) a b+W v u)=some (r.set b (f a b+rowS W to v ((nbs n (W v)).take k) a b+W v u)):=setI_lt (by omega)
  have e9:∀ z:LI,setI X (a:Int) z=some (X.set a z):=fun z=>setI_lt (by omega)
  have hrs:∀ c d,rowS W to v ((nbs n (W v)).take (k+1)) c d=rowS W to v ((nbs n (W v)).take k) c d+if a=c∧b=d then W v u else 0:=by
   intro c d
   unfold rowS
   rw [tks hu,List.map_append,List.sum_append]
   simp [hta,htb]
  simp only [ret_bind,ret_if,e5,ret_of e0,ret_of e1,ret_of e2,ret_of e3,ret_of e4,ret_of e6,ret_of e7,hw2,ret_of e8,ret_of (e9 _),ret_some,vq_l,vq_r,true_implies,not_true_eq_false,false_implies,and_true,hw]
  refine ⟨hkl,trivial,(h1.put ha2 hb2 hr1 _).congr fun c d hc hd=>?_,fun c d hc hd=>?_⟩
  ·rw [hrs]
   by_cases hcd:c=a∧d=b
   ·obtain ⟨rfl,rfl⟩:=hcd
    rw [if_pos ⟨rfl,rfl⟩,if_pos ⟨rfl,rfl⟩]; omega
   rw [if_neg hcd,if_neg (fun hh=>hcd ⟨hh.1.symm,hh.2.symm⟩)]; omega
  rw [hrs]
  have:=h2 c d hc hd
  have hk1:((k+1:Nat):Int)*B=k*B+B:=by rw [Int.natCast_add,Int.add_mul]; omega
  rw [hk1]
  split<;>omega
 have e5:¬ (k:Int) < (((nbs n (W v)).map Int.ofNat).length:Int):=by omega
 simp only [vcD,implies_true,Bool.false_eq_true,reduceCtorEq,e5]
 rw [take_all (by omega)] at h1
 exact h1
theorem rowS_all {n:Nat} {W:Nat→Nat→Int} {B:Int} (hT:Tw n W B) {to:LI} {v:Nat} (hv:v < n) (a b:Nat):rowS W to v (nbs n (W v)) a b=sm n fun u=>if tt to v=a∧tt to u=b then W v u else 0:=by
 unfold rowS
 rw [nbs_sum]
 refine sm_congr fun u hu=>?_
 by_cases h:0 < W v u
 ·rw [if_pos h]
 have:=hT.nn v u hv hu
 rw [if_neg h]; split<;>omega
theorem table_ok {n:Nat} (hn:n≤200) {W:Nat→Nat→Int} {B:Int} (hT:Tw n W B) (hB:0≤B∧B≤1099511627776) {to:LI} {K:Nat} (hto:∀ u,u < n→∃ a:Nat,to[u]?=some (a:Int)∧a < K) {X:L2} (hX:Tv X K fun _ _=>0):
  Ret (loop (dissect_coarsen_l7 (cadj n W) to (ced n W)) (X,0)) (fun X'=>Tv X' K (tabS n W to n)∧∀ a b,0≤tabS n W to n a b∧tabS n W to n a b≤(n*n:Nat)*B):=by
 have hb:∀ k,k≤n→∀ a b,0≤tabS n W to k a b∧tabS n W to k a b≤(k*n:Nat)*B:=by
  intro k hk a b
  unfold tabS
  refine ⟨sm_nonneg fun v hv=>sm_nonneg fun u hu=>?_,?_⟩
  ·have:=hT.nn v u (by omega) hu; split<;>omega
  have:sm k (fun v=>sm n fun u=>if tt to v=a∧tt to u=b then W v u else 0)≤k*(n*B):=sm_bound fun v hv=>sm_bound fun u hu=>by
   have:=hT.nn v u (by omega) hu; split<;>omega
  rw [Int.natCast_mul,Int.mul_assoc]; exact this
 refine (ret_loop n (fun k (t:L2×Int)=>t.2=k∧Tv t.1 K (tabS n W to k)) ⟨rfl,hX.congr fun a b _ _=>rfl⟩ ?_).mono (fun X' h=>⟨h,hb n (Nat.le_refl _)⟩)
 rintro k ⟨X,i⟩ hk ⟨rfl,h1⟩
 simp only at h1
 unfold dissect_coarsen_l7
 have hcl:(cadj n W).length=n:=cadj_len
 by_cases hkn:k < n
 ·have e1:getI (cadj n W) (k:Int)=some ((nbs n (W k)).map Int.ofNat):=cadj_get hkn
  have e5:(k:Int) < ((cadj n W).length:Int):=by omega
  have hw:wa .i64 (k:Int) 1=((k+1:Nat):Int):=wa1 (by omega)
  simp only [ret_bind,ret_if,e5,ret_of e1,true_implies,not_true_eq_false,false_implies,and_true]
  have hkn2:k*n≤200*200:=Nat.mul_le_mul (by omega) hn
  refine ret_call (row_add hn hT hB hkn hto h1 (c:=k*n) (by omega) (fun a b _ _=>hb k hk a b)) ?_
  intro X' hX'
  rw [ret_some,vq_l]
  refine ⟨hkn,hw,hX'.congr fun a b _ _=>?_⟩
  rw [rowS_all hT hkn]; rfl
 have e5:¬ (k:Int) < ((cadj n W).length:Int):=by omega
 have:k=n:=by omega
 subst this
 simp only [vcD,implies_true,Bool.false_eq_true,reduceCtorEq,e5]
 exact h1
def cw (f:Nat→Nat→Int) (a b:Nat):Int:=if a=b then 0 else f a b
theorem rows_ok {K:Nat} (hK:K≤200) {a:Nat} (ha:a < K) {r:LI} {f:Nat→Nat→Int} (hr:r.length=K) (hr2:∀ b,b < K→r[b]?=some (f a b)) {A E:L2} (hA:A.length=K) (hE:E.length=K) (hA1:A[a]?=some []) (hE1:E[a]?=some []):
  loop (dissect_coarsen_l44 r (a:Int)) (A,E,0)=some (A.set a ((nbs K (cw f a)).map Int.ofNat),E.set a ((nbs K (cw f a)).map (cw f a))):=by
 have hA0:A.set a []=A:=by
  apply List.ext_getElem?; intro i; rw [List.getElem?_set]
  by_cases h:a=i
  ·subst h; rw [if_pos rfl,if_pos (by omega),hA1]
  rw [if_neg h]
 have hE0:E.set a []=E:=by
  apply List.ext_getElem?; intro i; rw [List.getElem?_set]
  by_cases h:a=i
  ·subst h; rw [if_pos rfl,if_pos (by omega),hE1]
  rw [if_neg h]
 refine Ret.eq ?_
 refine ret_loop K (fun k (t:L2×L2×Int)=>t=(A.set a ((nbs k (cw f a)).map Int.ofNat),E.set a ((nbs k (cw f a)).map (cw f a)),(k:Int))) (by simp [nbs,hA0,hE0]) ?_
 rintro k _ hk rfl
 unfold dissect_coarsen_l44 dissect_coarsen_j47
 by_cases hkn:k < K
 ·have e1:getI r (k:Int)=some (f a k):=hr2 k hkn
  have e5:(k:Int) < (r.length:Int):=by omega
  have hw:wa .i64 (k:Int) 1=((k+1:Nat):Int):=wa1 (by omega)
  have hnl:=nbs_len (n:=k) (f:=cw f a)
  by_cases hc:a≠k∧0 < f a k
  ·have e6:(!(decide ((a:Int)=(k:Int))) && decide ((0:Int) < f a k))=true:=by simp; omega
   have hcw:cw f a k=f a k:=by unfold cw; rw [if_neg hc.1]
   have hns:nbs (k+1) (cw f a)=nbs k (cw f a)++[k]:=by rw [nbs_succ,if_pos (by rw [hcw]; exact hc.2)]
   have g1:∀ z:LI,getI (A.set a z) (a:Int)=some z:=fun z=>by rw [getI_cast,List.getElem?_set,if_pos rfl,if_pos (by omega)]
   have g2:∀ z:LI,getI (E.set a z) (a:Int)=some z:=fun z=>by rw [getI_cast,List.getElem?_set,if_pos rfl,if_pos (by omega)]
   have g3:∀ z z':LI,setI (A.set a z) (a:Int) z'=some (A.set a z'):=fun z z'=>by rw [setI_lt (by simp; omega),List.set_set]
   have g4:∀ z z':LI,setI (E.set a z) (a:Int) z'=some (E.set a z'):=fun z z'=>by rw [setI_lt (by simp; omega),List.set_set]
   simp only [ret_bind,ret_if,e5,ret_of e1,e6,ret_of (g1 _),ret_of (g2 _),ret_of (g3 _ _),ret_of (g4 _ _),ret_app,ret_some,vq_l,vq_r,true_implies,not_true_eq_false,false_implies,and_true,hw,List.length_map,List.length_singleton]
   refine ⟨by omega,by omega,hkn,?_⟩
   rw [hns,List.map_append,List.map_append,← hcw]; rfl
  have e6:(!(decide ((a:Int)=(k:Int))) && decide ((0:Int) < f a k))=false:=by
   rw [← Bool.not_eq_true]
   simp only [Bool.and_eq_true,Bool.not_eq_true',decide_eq_false_iff_not,decide_eq_true_eq]
   intro hh; exact hc ⟨by omega,hh.2⟩
  have hns:nbs (k+1) (cw f a)=nbs k (cw f a):=by
   rw [nbs_succ,if_neg]
   unfold cw
   intro hh
   by_cases hak:a=k
   ·rw [if_pos hak] at hh; omega
   rw [if_neg hak] at hh; exact hc ⟨hak,hh⟩
  simp only [vcD,implies_true,Bool.false_eq_true,reduceCtorEq,e5,e1,e6,hw]
  exact ⟨hkn,by rw [hns]⟩
 have e5:¬ (k:Int) < (r.length:Int):=by omega
 have:k=K:=by omega
 subst this
 simp only [vcD,implies_true,Bool.false_eq_true,reduceCtorEq,e5]
end Pd
/- Coarsening and cuts. -/
namespace Pd
open Pl Sx Go M Vc
def OkE (K:Nat) (g:Nat→Nat→Int):Prop:=∀ a b,a < K→b < K→g a b≤1099511627776
theorem wg_row {K:Nat} {g:Nat→Int}:(∀ x,x∈(nbs K g).map g→Wg x)↔∀ b,b < K→g b≤1099511627776:=by
 constructor
 ·intro h b hb
  by_cases hp:0 < g b
  ·exact (h (g b) (List.mem_map.2 ⟨b,nbs_mem.2 ⟨hb,hp⟩,rfl⟩)).2
  omega
 intro h x hx
 obtain ⟨b,hb,rfl⟩:=List.mem_map.1 hx
 obtain ⟨h1,h2⟩:=nbs_mem.1 hb
 exact ⟨by omega,h b h1⟩
theorem build_rows {K:Nat} (hK:K≤200) {X:L2} {f:Nat→Nat→Int} (hX:Tv X K f):
  Ret (loop (dissect_coarsen_l35 X) (List.replicate K [],List.replicate K [],0)) (fun o=>(o=.inl (cadj K (cw f),ced K (cw f))∧OkE K (cw f))∨(o=.inr ()∧¬ OkE K (cw f))):=by
 have hXl:=hX.1
 refine ret_loop K (fun k (t:L2×L2×Int)=>t.2.2=k∧t.1.length=K∧t.2.1.length=K∧(∀ a,a < K→t.1[a]?=some (if a < k then (nbs K (cw f a)).map Int.ofNat else [])∧t.2.1[a]?=some (if a < k then (nbs K (cw f a)).map (cw f a) else []))∧∀ a b,a < k→b < K→cw f a b≤1099511627776) ⟨rfl,by simp,by simp,fun a ha=>by simp [ha],fun a b ha=>by omega⟩ ?_
 rintro k ⟨A,E,i⟩ hk ⟨rfl,h1,h2,h3,h4⟩
 simp only at h1 h2 h3
 unfold dissect_coarsen_l35
 by_cases hkn:k < K
 ·obtain ⟨r,hr1,hr2,hr3⟩:=hX.2 k hkn
  have e1:getI X (k:Int)=some r:=hr1
  have e5:(k:Int) < (X.length:Int):=by omega
  have hw:wa .i64 (k:Int) 1=((k+1:Nat):Int):=wa1 (by omega)
  obtain ⟨a1,a2⟩:=h3 k hkn
  rw [if_neg (by omega)] at a1 a2
  have e2:=rows_ok hK hkn hr2 hr3 h1 h2 a1 a2
  have e3:getI (E.set k ((nbs K (cw f k)).map (cw f k))) (k:Int)=some ((nbs K (cw f k)).map (cw f k)):=by rw [getI_cast,List.getElem?_set,if_pos rfl,if_pos (by omega)]
  have hnl:=nbs_len (n:=K) (f:=cw f k)
  obtain ⟨b,b1,b2⟩:=weights_ok (l:=(nbs K (cw f k)).map (cw f k)) (by rw [List.length_map]; omega)
  rw [wg_row] at b2
  cases b with
  | true=>
   simp only [ret_bind,ret_if,e5,ret_of e1,ret_of e2,ret_of e3,ret_of b1,ret_some,vq_l,vq_r,true_implies,not_true_eq_false,false_implies,and_true,hw]
   refine ⟨hkn,trivial,by simp [h1],by simp [h2],fun a ha=>?_,fun a c ha hc=>?_⟩
   ·rw [List.getElem?_set,List.getElem?_set]
    by_cases hka:k=a
    ·subst hka; rw [if_pos rfl,if_pos (by omega),if_pos rfl,if_pos (by omega),if_pos (by omega),if_pos (by omega)]; exact ⟨rfl,rfl⟩
    rw [if_neg hka,if_neg hka,(h3 a ha).1,(h3 a ha).2]
    by_cases hak:a < k
    ·rw [if_pos hak,if_pos hak,if_pos (show a < k+1 by omega),if_pos (show a < k+1 by omega)]; exact ⟨rfl,rfl⟩
    rw [if_neg hak,if_neg hak,if_neg (show ¬ a < k+1 by omega),if_neg (show ¬ a < k+1 by omega)]; exact ⟨rfl,rfl⟩
   by_cases hak:a < k
   ·exact h4 a c hak hc
   have:a=k:=by omega
   subst this
   exact b2.1 rfl c hc
  | false=>
   simp only [ret_bind,ret_if,e5,ret_of e1,ret_of e2,ret_of e3,ret_of b1,ret_some,vq_l,vq_r,true_implies,not_true_eq_false,false_implies,and_true,Bool.false_eq_true,not_false_eq_true,true_and]
   refine .inr fun h=>?_
   have:=b2.2 (fun c hc=>h k c hkn hc)
   cases this
 have e5:¬ (k:Int) < (X.length:Int):=by omega
 simp only [ret_if,e5,false_implies,not_false_eq_true,true_implies,true_and,ret_some,vq_r]
 refine .inl ⟨?_,fun a b ha hb=>h4 a b (by omega) hb⟩
 congr 2
 ·apply List.ext_getElem?
  intro a
  by_cases ha:a < K
  ·rw [(h3 a ha).1,cadj_get ha,if_pos (by omega)]
  rw [List.getElem?_eq_none (by omega),List.getElem?_eq_none (by rw [cadj_len]; omega)]
 apply List.ext_getElem?
 intro a
 by_cases ha:a < K
 ·rw [(h3 a ha).2,ced_get ha,if_pos (by omega)]
 rw [List.getElem?_eq_none (by omega),List.getElem?_eq_none (by rw [ced_len]; omega)]
structure Co (n:Nat) (W:Nat→Nat→Int) (vx vs to:LI) (B:Int):Prop where
 mg:Mg vx n n vs to
 tb:∀ a b,0≤tabS n W to n a b∧tabS n W to n a b≤(n*n:Nat)*B
theorem cw_tw {n:Nat} {W:Nat→Nat→Int} {B:Int} (hT:Tw n W B) {to:LI} {K:Nat} {B':Int} (hb:∀ a b,a < K→b < K→0≤tabS n W to n a b∧cw (tabS n W to n) a b≤B') (hB':0≤B'):Tw K (cw (tabS n W to n)) B':=by
 refine ⟨fun a b ha hb'=>?_,fun a b ha hb'=>?_,fun a ha=>by unfold cw; rw [if_pos rfl]⟩
 ·refine ⟨?_,(hb a b ha hb').2⟩
  unfold cw
  split
  ·omega
  exact (hb a b ha hb').1
 unfold cw
 by_cases h:a=b
 ·rw [if_pos h,if_pos h.symm]
 rw [if_neg h,if_neg (fun e=>h e.symm)]
 unfold tabS
 rw [sm_swap]
 refine sm_congr fun u hu=>sm_congr fun v hv=>?_
 rw [hT.sym v u hv hu]
 by_cases h1:tt to v=a∧tt to u=b
 ·rw [if_pos h1,if_pos ⟨h1.2,h1.1⟩]
 rw [if_neg h1,if_neg (fun e=>h1 ⟨e.2,e.1⟩)]
def sd (side:LI) (v:Nat):Int:=side[v]?.getD 0
theorem sd_get {side:LI} {v:Nat} {x:Int} (h:side[v]?=some x):sd side v=x:=by unfold sd; rw [h]; rfl
def cut (n:Nat) (W:Nat→Nat→Int) (s:Nat→Int):Int:=sm n fun v=>sm n fun u=>if u < v then (if s u=s v then 0 else W v u) else 0
def S01 (side:LI):Prop:=∀ x,x∈side→x=0∨x=1
theorem cut_twice {n:Nat} {W:Nat→Nat→Int} {B:Int} (hT:Tw n W B) (s:Nat→Int):2*cut n W s=sm n fun v=>sm n fun u=>if s u=s v then 0 else W v u:=by
 rw [sm_half (f:=fun v u=>if s u=s v then 0 else W v u) (fun i j hi hj=>by
  rw [hT.sym i j hi hj]
  by_cases h:s j=s i
  ·rw [if_pos h,if_pos h.symm]
  rw [if_neg h,if_neg (fun e=>h e.symm)]) (fun i hi=>by rw [if_pos rfl])]
 rfl
end Pd
