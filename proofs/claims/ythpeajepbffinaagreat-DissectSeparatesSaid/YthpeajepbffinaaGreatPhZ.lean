/- Konig: the rows that are reachable and the columns that are not are as many as the matching has edges; no matching is greater than a cover. -/
import Derived.Test.YthpeajepbffinaaGreatPeZ
import Derived.Test.YthpeajepbffinaaGreatPdY
import Derived.Test.YthpeajepbffinaaGreatPdZ
set_option linter.unusedVariables false
set_option linter.unusedSimpArgs false
set_option maxHeartbeats 4000000
namespace Km
open Pl Sx Go M Vc
theorem subG {α:Type} [DecidableEq α]:∀ {a b:List α},a.Nodup→(∀ x,x∈a→x∈b)→a.length≤b.length
 | [],b,_,_=>by simp
 | x::a,b,hd,hs=>by
  rw [List.nodup_cons] at hd
  have hx:=hs x (by simp)
  have:=subG (a:=a) (b:=b.erase x) hd.2 (fun y hy=>by
   have:y≠x:=by rintro rfl; exact hd.1 hy
   exact (List.mem_erase_of_ne this).2 (hs y (by simp [hy])))
  rw [List.length_erase_of_mem hx] at this
  have:=List.length_pos_of_mem hx
  simp
  omega
theorem nodup_map {α β:Type} {l:List α} {f:α→β} (hd:l.Nodup) (hf:∀ x y,x∈l→y∈l→f x=f y→x=y):(l.map f).Nodup:=by
 rw [List.nodup_iff_pairwise_ne,List.pairwise_map]
 have h1:=List.nodup_iff_pairwise_ne.1 hd
 have h2:l.Pairwise fun x y=>x∈l∧y∈l:=List.Pairwise.and_mem.1 (List.pairwise_of_forall (l:=l) (R:=fun _ _=>True) (fun _ _=>trivial)) |>.imp fun h=>⟨h.1,h.2.1⟩
 exact (h1.and h2).imp fun ⟨h,hx,hy⟩ e=>h (hf _ _ hx hy e)
open Classical in
noncomputable def mcl (a:LI) (C:Nat):LI:=coll (fun c=>a[c]?≠some (-1)) C
open Classical in
noncomputable def rowsL (rows:BL):LI:=coll (fun i=>tr rows i) rows.length
open Classical in
noncomputable def colsL (cols:BL):LI:=coll (fun c=>¬ tr cols c) cols.length
theorem mcl_mem {a:LI} {C:Nat} {x:Int}:x∈mcl a C↔0≤x∧x.toNat < C∧a[x.toNat]?≠some (-1):=by classical exact coll_mem _
theorem rowsL_mem {rows:BL} {x:Int}:x∈rowsL rows↔0≤x∧x.toNat < rows.length∧tr rows x.toNat:=by classical exact coll_mem _
theorem colsL_mem {cols:BL} {x:Int}:x∈colsL cols↔0≤x∧x.toNat < cols.length∧¬ tr cols x.toNat:=by classical exact coll_mem _
theorem mcl_nd (a:LI) (C:Nat):(mcl a C).Nodup:=by classical exact asc_nodup (coll_asc _)
theorem rowsL_nd (rows:BL):(rowsL rows).Nodup:=by classical exact asc_nodup (coll_asc _)
theorem colsL_nd (cols:BL):(colsL cols).Nodup:=by classical exact asc_nodup (coll_asc _)
section
variable {R C:Nat} {E:List LI} {a b:LI} {rows cols:BL}
theorem Mat.row (h:Mat R C E a b rows cols) {i:Nat} (hi:tr rows i):∃ c:Nat,b[i]?=some (c:Int)∧c < C∧a[c]?=some (i:Int)∧inE E c i∧tr cols c:=by
 obtain ⟨D,hCs,hD,hF⟩:=h.fin
 have hcl:Clo E a b C (fun c=>c < C∧(a[c]?=some (-1)∨∃ i,D i∧b[i]?=some (c:Int))) D:=by
  refine ⟨fun c h1 h2=>⟨h1,.inl h2⟩,fun c i ⟨h1,h2⟩ h3=>?_,fun i c h1 h2=>?_⟩
  ·rcases h2 with h2 | ⟨i',h4,h5⟩
   ·exact hF c h1 h2 i h3
   obtain ⟨c',h6,h7⟩:=hD i' h4
   rw [h5] at h6
   have:c=c':=by have:=sInj h6; omega
   subst this
   exact h7 i h3
  have:=hCs.cr i c h2 (by omega)
  exact ⟨by omega,.inr ⟨i,h1,h2⟩⟩
 obtain ⟨_,hY⟩:=h.rch.lst _ _ hcl
 obtain ⟨c,h1,_⟩:=hD i (hY i hi)
 have h2:=hCs.cr i c h1 (by omega)
 obtain ⟨h3,h4⟩:=hCs.col i c h1 (by omega) (by omega)
 simp only [Int.toNat_natCast] at h3 h4
 exact ⟨c,h1,by omega,h3,h4,h.rch.clo.c i c hi h1⟩
theorem Mat.cs (h:Mat R C E a b rows cols):Cs R C E a b (-1):=by obtain ⟨D,hCs,_⟩:=h.fin; exact hCs
theorem Mat.col (h:Mat R C E a b rows cols) {c:Nat} (hc:c < C) (hm:a[c]?≠some (-1)):∃ i:Nat,i < R∧a[c]?=some (i:Int)∧b[i]?=some (c:Int)∧inE E c i:=by
 have hCs:=h.cs
 have hal:=hCs.al
 obtain ⟨x,hx⟩:∃ x,a[c]?=some x:=⟨a[c]'(by omega),by simp [hal,hc]⟩
 have hx1:x≠-1:=by rintro rfl; exact hm hx
 obtain ⟨h1,h2,h3,h4⟩:=hCs.row c x hx hx1
 have h5:=(hCs.col x.toNat c h3 (by omega) (by omega)).2
 simp only [Int.toNat_natCast] at h5
 exact ⟨x.toNat,by omega,by rw [hx]; congr 1; omega,h3,h5⟩
theorem Mat.size (h:Mat R C E a b rows cols):(mcl a C).length=(rowsL rows).length+(colsL cols).length:=by
 have hcl:=h.rch.cl
 have hrl:=h.rch.rl
 let f:Int→Int:=fun i=>b[i.toNat]?.getD (-1)
 have hf:∀ x,x∈rowsL rows→∃ c:Nat,f x=(c:Int)∧b[x.toNat]?=some (c:Int)∧c < C∧a[c]?=some x∧tr cols c:=by
  intro x hx
  obtain ⟨h1,h2,h3⟩:=rowsL_mem.1 hx
  obtain ⟨c,c1,c2,c3,c4,c5⟩:=h.row h3
  exact ⟨c,by simp only [f]; rw [c1]; rfl,c1,c2,by rw [c3]; congr 1; omega,c5⟩
 have hn:((rowsL rows).map f).Nodup:=by
  refine nodup_map (rowsL_nd rows) fun x y hx hy he=>?_
  obtain ⟨c,c1,c2,c3,c4,c5⟩:=hf x hx
  obtain ⟨d,d1,d2,d3,d4,d5⟩:=hf y hy
  have:c=d:=by omega
  subst this
  rw [c4] at d4
  exact sInj d4
 have h1:(mcl a C).length≤((rowsL rows).map f++colsL cols).length:=by
  refine subG (mcl_nd a C) fun x hx=>?_
  obtain ⟨x1,x2,x3⟩:=mcl_mem.1 hx
  rw [List.mem_append]
  by_cases ht:tr cols x.toNat
  ·left
   obtain ⟨i,i1,i2,i3,i4⟩:=h.col x2 x3
   have hti:=h.rch.clo.r _ _ ht i4
   refine List.mem_map.2 ⟨(i:Int),rowsL_mem.2 ⟨by omega,by simpa [hrl] using i1,by simpa using hti⟩,?_⟩
   simp only [f,Int.toNat_natCast]
   rw [i3]
   simp only [Option.getD_some]
   omega
  exact .inr (colsL_mem.2 ⟨x1,by omega,ht⟩)
 have h2:((rowsL rows).map f++colsL cols).length≤(mcl a C).length:=by
  refine subG ?_ fun x hx=>?_
  ·rw [List.nodup_append]
   refine ⟨hn,colsL_nd cols,fun x hx y hy e=>?_⟩
   subst e
   obtain ⟨z,hz,rfl⟩:=List.mem_map.1 hx
   obtain ⟨c,c1,c2,c3,c4,c5⟩:=hf z hz
   have:=(colsL_mem.1 hy).2.2
   rw [c1] at this
   exact this (by simpa using c5)
  rcases List.mem_append.1 hx with hx | hx
  ·obtain ⟨z,hz,rfl⟩:=List.mem_map.1 hx
   obtain ⟨c,c1,c2,c3,c4,c5⟩:=hf z hz
   have hz0:=(rowsL_mem.1 hz).1
   rw [c1]
   refine mcl_mem.2 ⟨by omega,by simpa using c3,?_⟩
   simp only [Int.toNat_natCast]
   rw [c4]
   intro e
   have:=sInj e
   omega
  obtain ⟨x1,x2,x3⟩:=colsL_mem.1 hx
  exact mcl_mem.2 ⟨x1,by omega,fun e=>x3 (h.rch.clo.s _ (by omega) e)⟩
 simp only [List.length_append,List.length_map] at h1 h2
 omega
theorem Mat.covers (h:Mat R C E a b rows cols) {c i:Nat} (he:inE E c i):tr rows i∨¬ tr cols c:=by
 by_cases ht:tr cols c
 ·exact .inl (h.rch.clo.r c i ht he)
 exact .inr ht
noncomputable def prs (a:LI) (C:Nat):List (Int×Int):=(mcl a C).map fun c=>(a[c.toNat]?.getD (-1),c)
end
end Km
/- The matrix that is packed from entries. -/
namespace Km
open Pl Sx Go M Vc
def hasE (L:List (Int×Int×Int)) (u v:Nat):Prop:=∃ x,((v:Int),(u:Int),x)∈L
open Classical in
noncomputable def pcol (R:Nat) (L:List (Int×Int×Int)) (u:Nat):LI:=coll (fun v=>hasE L u v) R
noncomputable def packE (R C:Nat) (L:List (Int×Int×Int)):List LI:=(List.range C).map (pcol R L)
structure En (R C:Nat) (L:List (Int×Int×Int)):Prop where
 r:∀ e,e∈L→0≤e.1∧e.1 < (R:Int)
 c:∀ e,e∈L→0≤e.2.1∧e.2.1 < (C:Int)
 f:∀ e,e∈L→matrix_Check_1 e.2.2=some false
theorem cell_inj {R u v u' v':Nat} (h:v < R) (h':v' < R) (he:u*R+v=u'*R+v'):u=u'∧v=v':=by
 have h1:(u*R+v) / R=u:=by rw [Nat.mul_comm,Nat.mul_add_div (by omega),Nat.div_eq_of_lt h]; omega
 have h2:(u'*R+v') / R=u':=by rw [Nat.mul_comm,Nat.mul_add_div (by omega),Nat.div_eq_of_lt h']; omega
 have:u=u':=by rw [← h1,← h2,he]
 subst this
 exact ⟨rfl,by omega⟩
theorem cell_lt {R C u v:Nat} (hu:u < C) (hv:v < R):u*R+v < R*C:=by
 have:(u+1)*R≤C*R:=Nat.mul_le_mul_right _ hu
 rw [Nat.succ_mul] at this
 rw [Nat.mul_comm R C]
 omega
structure Ft (R C:Nat) (L:List (Int×Int×Int)) (k:Nat) (T:LI):Prop where
 len:T.length=R*C
 at_:∀ u v,u < C→v < R→∃ t,T[u*R+v]?=some t∧((t=0∧¬ hasE (L.take k) u v)∨(∃ i:Nat,t=((i+1:Nat):Int)∧i < k∧∃ x,L[i]?=some ((v:Int),(u:Int),x)))
theorem fill_ok {R C:Nat} (hR:R≤200) (hC:C≤200) {L:List (Int×Int×Int)} (hL:L.length≤100000) (hE:En R C L):Ret (loop (sparseref09_Pack_l1 L (R:Int)) (List.replicate (R*C) 0,0)) (Ft R C L L.length):=by
 have hm:R*C≤200*200:=Nat.mul_le_mul hR hC
 refine ret_loop L.length (fun k (t:LI×Int)=>t.2=(k:Int)∧Ft R C L k t.1) ⟨rfl,by simp,fun u v hu hv=>⟨0,by rw [List.getElem?_replicate,if_pos (cell_lt hu hv)],.inl ⟨rfl,fun ⟨x,hx⟩=>by simp at hx⟩⟩⟩ ?_
 rintro k ⟨T,t⟩ hk ⟨e1,hT⟩
 simp only at e1 hT
 subst e1
 unfold sparseref09_Pack_l1
 simp only
 by_cases hkn:k < L.length
 ·have hw:wa .i64 (k:Int) 1=((k+1:Nat):Int):=wa1 (by omega)
  obtain ⟨⟨a,b,x⟩,hx⟩:∃ e,L[k]?=some e:=⟨L[k],by simp [hkn]⟩
  have hx0:getI L (k:Int)=some (a,b,x):=hx
  have h1:=hE.r _ (mem_get hx)
  have h2:=hE.c _ (mem_get hx)
  simp only at h1 h2
  obtain ⟨v,rfl⟩:∃ v:Nat,a=(v:Int):=⟨a.toNat,by omega⟩
  obtain ⟨u,rfl⟩:∃ u:Nat,b=(u:Int):=⟨b.toNat,by omega⟩
  have hv:v < R:=by omega
  have hu:u < C:=by omega
  have hlt:=cell_lt hu hv
  have e2:wm .i64 (u:Int) (R:Int)=((u*R:Nat):Int):=by
   have:(u:Int)*(R:Int)=((u*R:Nat):Int):=by simp
   rw [wm_in (by rw [this]; constructor<;>omega),this]
  have e3:wa .i64 ((u*R:Nat):Int) (v:Int)=((u*R+v:Nat):Int):=by rw [wa_in (by constructor<;>omega)]; omega
  have hTl:=hT.len
  rw [if_pos (by omega),bindS hx0,bindS hx0]
  simp only
  rw [e2,e3,hw,bindS (setI_lt (by omega)),ret_some,vq_l]
  refine ⟨hkn,rfl,by simp [hTl],fun u' v' hu' hv'=>?_⟩
  simp only
  rw [List.getElem?_set]
  by_cases hc:u*R+v=u'*R+v'
  ·obtain ⟨rfl,rfl⟩:=cell_inj hv hv' hc
   rw [if_pos rfl,if_pos (by omega)]
   exact ⟨_,rfl,.inr ⟨k,rfl,by omega,x,hx⟩⟩
  rw [if_neg hc]
  obtain ⟨t,t1,t2⟩:=hT.at_ u' v' hu' hv'
  refine ⟨t,t1,?_⟩
  rcases t2 with ⟨h3,h4⟩ | ⟨i,h3,h4,h5⟩
  ·refine .inl ⟨h3,?_⟩
   rintro ⟨y,hy⟩
   rcases (mts hx).1 hy with hy | hy
   ·exact h4 ⟨y,hy⟩
   simp only [Prod.mk.injEq] at hy
   have:v'=v:=by omega
   have:u'=u:=by omega
   subst_vars
   exact hc rfl
  exact .inr ⟨i,h3,by omega,h5⟩
 rw [if_neg (by omega),ret_some,vq_r]
 rw [show L.length=k by omega]
 exact hT
theorem pcol_len (R:Nat) (L:List (Int×Int×Int)) (u:Nat):(pcol R L u).length≤R:=by classical exact coll_len _
theorem flat_pack (R:Nat) (L:List (Int×Int×Int)) (C:Nat):(packE R C L).flatten.length≤C*R:=by
 unfold packE
 induction C with
 | zero=>simp
 | succ C ih=>
  rw [List.range_succ,List.map_append,List.flatten_append,List.length_append,Nat.succ_mul]
  have:=pcol_len R L C
  simp at ih ⊢
  omega
open Classical in
theorem pcol_ok {R C:Nat} (hR:R≤200) (hC:C≤200) {L:List (Int×Int×Int)} (hL:L.length≤100000) (hE:En R C L) {T:LI} (hT:Ft R C L L.length T) {u:Nat} (hu:u < C) {ix vl:LI} (h1:ix.length≤100000) (h2:vl.length=ix.length) (h3:∀ x,x∈vl→matrix_Check_1 x=some false):
  Ret (loop (sparseref09_Pack_l13 (R:Int) T (u:Int) L) (ix,vl,0)) (fun o=>o.1=ix++pcol R L u∧o.2.length=o.1.length∧∀ x,x∈o.2→matrix_Check_1 x=some false):=by
 refine ret_loop R (fun k (t:LI×LI×Int)=>t.2.2=(k:Int)∧t.1=ix++coll (fun v=>hasE L u v) k∧t.2.1.length=t.1.length∧∀ x,x∈t.2.1→matrix_Check_1 x=some false) ⟨rfl,by simp [coll],h2,h3⟩ ?_
 rintro k ⟨x,y,t⟩ hk ⟨e1,e2,e3,e4⟩
 simp only at e1 e2 e3 e4
 subst e1
 unfold sparseref09_Pack_l13 sparseref09_Pack_j14
 simp only
 by_cases hkn:k < R
 ·have hw:wa .i64 (k:Int) 1=((k+1:Nat):Int):=wa1 (by omega)
  have hlt:=cell_lt hu hkn
  have hm:R*C≤200*200:=Nat.mul_le_mul hR hC
  have e5:wm .i64 (u:Int) (R:Int)=((u*R:Nat):Int):=by
   have:(u:Int)*(R:Int)=((u*R:Nat):Int):=by simp
   rw [wm_in (by rw [this]; constructor<;>omega),this]
  have e6:wa .i64 ((u*R:Nat):Int) (k:Int)=((u*R+k:Nat):Int):=by rw [wa_in (by constructor<;>omega)]; omega
  obtain ⟨z,t1,t2⟩:=hT.at_ u k hu hkn
  have t1':getI T ((u*R+k:Nat):Int)=some z:=t1
  have hcl:=coll_len (tm:=fun v=>hasE L u v) k
  rw [if_pos (by omega),e5,e6,bindS t1',hw]
  have hxl:x.length=ix.length+(coll (fun v=>hasE L u v) k).length:=by rw [e2,List.length_append]
  rcases t2 with ⟨rfl,hno⟩ | ⟨i,rfl,hi,w,hw2⟩
  ·rw [if_neg (by omega),ret_some,vq_l]
   rw [List.take_length] at hno
   exact ⟨hkn,rfl,by rw [e2,coll,if_neg hno,List.append_nil],e3,e4⟩
  have e7:ws .i64 ((i+1:Nat):Int) 1=(i:Int):=by rw [ws_in (by constructor<;>omega)]; omega
  have hw2':getI L (i:Int)=some ((k:Int),(u:Int),w):=hw2
  have hyl:y.length+1≤1099511627776:=by omega
  rw [if_pos (by omega),bindS (app_small (by simp; omega)),e7,bindS hw2',bindS (app_small (by simp; omega)),ret_some,vq_l]
  refine ⟨hkn,rfl,?_,by simp [e3],fun q hq=>?_⟩
  ·simp only
   rw [e2,coll,if_pos ⟨w,mem_get hw2⟩,List.append_assoc]
  simp only at hq
  rcases List.mem_append.1 hq with hq | hq
  ·exact e4 q hq
  simp only [List.mem_singleton] at hq
  have h9:=hE.f ((k:Int),(u:Int),w) (mem_get hw2)
  rw [hq]
  exact h9
 rw [if_neg (by omega),ret_some,vq_r]
 have hk2:R=k:=by omega
 rw [hk2]
 unfold pcol
 exact ⟨e2,e3,e4⟩
theorem pack_ok {R C:Nat} (hR:R≤200) (hC:C≤200) {L:List (Int×Int×Int)} (hL:L.length≤100000) (hE:En R C L):
  ∃ st ix vl,sparseref09_Pack (R:Int) (C:Int) L=some ((R:Int),(C:Int),st,ix,vl)∧Mv R C (packE R C L) st ix vl:=by
 have hm:R*C≤200*200:=Nat.mul_le_mul hR hC
 obtain ⟨T,f1,hT⟩:=fill_ok hR hC hL hE
 have hlo:Ret (loop (sparseref09_Pack_l10 (C:Int) (R:Int) T L) ([0],[],[],0)) (fun o=>Mv R C (packE R C L) o.1 o.2.1 o.2.2):=by
  refine ret_loop C (fun k (t:LI×LI×LI×Int)=>t.2.2.2=(k:Int)∧t.1.length=k+1∧(∀ j,j≤k→t.1[j]?=some (off (packE R C L) j:Int))∧t.2.1=((packE R C L).take k).flatten∧t.2.2.1.length=t.2.1.length∧∀ x,x∈t.2.2.1→matrix_Check_1 x=some false)
   ⟨rfl,rfl,fun j hj=>(by have h:j=0:=(by omega); subst h; simp [off]),by simp,rfl,fun x hx=>by simp at hx⟩ ?_
  rintro k ⟨st,ix,vl,t⟩ hk ⟨e1,e2,e3,e4,e5,e6⟩
  simp only at e1 e2 e3 e4 e5 e6
  subst e1
  unfold sparseref09_Pack_l10
  simp only
  have hfl:=flat_pack R L C
  have hot:=off_top (packE R C L) (j:=k)
  have hixl:ix.length=off (packE R C L) k:=by rw [e4]; rfl
  have hcr:C*R≤200*200:=by rw [Nat.mul_comm]; exact hm
  have hlen:(packE R C L).length=C:=by simp [packE]
  by_cases hkn:k < C
  ·have hw:wa .i64 (k:Int) 1=((k+1:Nat):Int):=wa1 (by omega)
   have hEk:(packE R C L)[k]?=some (pcol R L k):=by simp [packE,hkn]
   have hos:=off_succ hEk
   have hcle:=pcol_len R L k
   rw [if_pos (by omega),ret_bind]
   refine ret_call (pcol_ok hR hC hL hE hT hkn (by omega) e5 e6) ?_
   rintro ⟨ix',vl'⟩ ⟨p1,p2,p3⟩
   simp only at p1 p2 p3
   subst p1
   rw [bindS (app_small (by simp; omega)),hw,ret_some,vq_l]
   refine ⟨hkn,rfl,by simp [e2],fun j hj=>?_,?_,p2,p3⟩
   ·simp only
    by_cases hjk:j≤k
    ·rw [List.getElem?_append_left (by omega)]; exact e3 j hjk
    have:j=k+1:=by omega
    subst this
    rw [List.getElem?_append_right (by omega),e2,Nat.sub_self]
    simp only [List.getElem?_cons_zero,List.length_append]
    congr 1
    omega
   simp only
   rw [tks hEk,List.flatten_append,e4]
   simp
  rw [if_neg (by omega),ret_some,vq_r]
  have:k=C:=by omega
  subst this
  refine ⟨hlen,fun l hl=>?_,fun l hl i hi=>?_,?_,e2,e3,e5,e6⟩
  ·simp only [packE,List.mem_map] at hl
   obtain ⟨v,_,rfl⟩:=hl
   classical exact coll_asc _
  ·simp only [packE,List.mem_map] at hl
   obtain ⟨v,_,rfl⟩:=hl
   have:0≤i∧i.toNat < R∧_:=(by classical exact (coll_mem _).1 hi)
   omega
  simp only
  rw [e4,List.take_of_length_le (by omega)]
 obtain ⟨⟨st,ix,vl⟩,l1,l2⟩:=hlo
 refine ⟨st,ix,vl,?_,l2⟩
 have e2:wm .i64 (R:Int) (C:Int)=((R*C:Nat):Int):=by
  have:(R:Int)*(C:Int)=((R*C:Nat):Int):=by simp
  rw [wm_in (by rw [this]; constructor<;>omega),this]
 unfold sparseref09_Pack
 rw [e2,bindS (mkL_nat 0 (R*C) (by omega)),bindS f1,bindS l1]
end Km
/- DissectSmallest: the separator is a smallest cover of the cut. -/
namespace Km
open Pl Sx Go M Vc Pd
theorem rones_ok {adj:List LI} (hG:Gr adj) (hn:adj.length≤200):sparseref18_Ones adj=some (adj,List.replicate adj.length 1,onesE adj):=by
 have hrow:∀ k,∀ hk:k < adj.length,loop (sparseref18_Ones_l4 adj (k:Int)) ([],0)=some (List.replicate adj[k].length 1):=by
  intro k hk
  have hl:=hG.len (gEq hk)
  refine Ret.eq ?_
  refine ret_loop adj[k].length (fun m (t:LI×Int)=>t=(List.replicate m 1,(m:Int))) rfl ?_
  rintro m _ hm rfl
  unfold sparseref18_Ones_l4
  simp only
  rw [bindS (getI_lt hk)]
  by_cases hml:m < adj[k].length
  ·have hw:wa .i64 (m:Int) 1=((m+1:Nat):Int):=wa1 (by omega)
   rw [if_pos (by omega),bindS (app_small (by simp; omega)),hw,ret_some,vq_l]
   exact ⟨hml,by rw [← List.replicate_succ']⟩
  rw [if_neg (by omega),ret_some,vq_r,show m=adj[k].length by omega]
 have h1:loop (sparseref18_Ones_l3 adj) ([],[],0)=some (List.replicate adj.length 1,onesE adj):=by
  refine Ret.eq ?_
  refine ret_loop adj.length (fun k (t:LI×List LI×Int)=>t=(List.replicate k 1,(adj.take k).map (fun l=>List.replicate l.length 1),(k:Int))) (by simp) ?_
  rintro k _ hk rfl
  unfold sparseref18_Ones_l3
  simp only
  by_cases hkn:k < adj.length
  ·have hw:wa .i64 (k:Int) 1=((k+1:Nat):Int):=wa1 (by omega)
   rw [if_pos (by omega),bindS (hrow k hkn),bindS (app_small (by simp; omega)),bindS (app_small (by simp; omega)),hw,ret_some,vq_l]
   refine ⟨hkn,?_⟩
   rw [take_succ' hkn,List.map_append,← List.replicate_succ']
   rfl
  rw [if_neg (by omega),ret_some,vq_r,take_all (by omega),show k=adj.length by omega]
  rfl
 unfold sparseref18_Ones
 rw [bindS h1]
theorem twinI_ok {l:LI} (hl:l.length≤100000):sparsekit_TwinInts l=some l:=by
 unfold sparsekit_TwinInts
 have h1:loop (sparsekit_TwinInts_l1 l) ([],0)=some l:=by
  refine Ret.eq ?_
  refine ret_loop l.length (fun k (t:LI×Int)=>t=(l.take k,(k:Int))) (by simp) ?_
  rintro k _ hk rfl
  unfold sparsekit_TwinInts_l1
  simp only
  by_cases hkn:k < l.length
  ·have hw:wa .i64 (k:Int) 1=((k+1:Nat):Int):=wa1 (by omega)
   rw [if_pos (by omega),bindS (getI_lt hkn),bindS (app_small (by simp; omega)),hw,ret_some,vq_l]
   exact ⟨hkn,by rw [take_succ' hkn]⟩
  rw [if_neg (by omega),ret_some,vq_r,take_all (by omega)]
 rw [bindS h1]
section
variable {adj:List LI} {side:LI} {ch:BL}
end
theorem in_dec {l:LI} {v:Int} (hl:l.length < 1000000):sparsekit_In l v=some (decide (v∈l)):=by
 refine Ret.eq ?_
 rw [kin_ok hl]
theorem zero_fin:matrix_Check_1 0=some false:=by kernel_rfl
end Km
/- The paper's matching and what is reachable in it: as the program's. -/
namespace Km
open Pl Sx Go M Vc Pd
theorem ftry_succ (k:Nat):sparseref13_Search_Try (k+1)=sparseref13_Search_Try_body (sparseref13_Search_Try k):=by simp only [sparseref13_Search_Try]
section
variable {R C:Nat} {E:List LI} {st ix vl:LI}
theorem Mv.at_ (h:Mv R C E st ix vl) {j:Nat} {l:LI} (hl:E[j]?=some l) {k:Nat} (hk:k < l.length):ix[off E j+k]?=l[k]?:=by
 have h1:=slice_at hl
 have h2:=off_succ hl
 rw [h.ixe]
 have:l[k]?=((E.flatten.take (off E (j+1))).drop (off E j))[k]?:=by rw [h1]
 rw [this,List.getElem?_drop,List.getElem?_take]
 rw [if_pos (by omega)]
theorem Mv.start (h:Mv R C E st ix vl) {j:Nat} (hj:j≤C):getI st (j:Int)=some (off E j:Int):=h.ste j hj
theorem rtry_ok (hM:Mv R C E st ix vl) (hR:R≤100000) (hC:C≤100000) (hx:ix.length≤1000000):∀ (k:Nat) {a b:LI} {m:BL} {j:Nat} {x:Int},Cs R C E a b (-1)→m.length=R→j < C→a[j]?=some x→(x= -1∨mkd m x.toNat)→m.count false < k→
  ∀ o,matching_kuhn_try k E a b m (j:Int)=some o→sparseref13_Search_Try k (R:Int) (C:Int) st ix vl b a m (j:Int)=some (o.2.1,o.1,o.2.2.1,o.2.2.2):=by
 have hE:=hM.kb hR
 intro k
 induction k with
 | zero=>intros; omega
 | succ k ih=>
  intro a b m j x hCs hml hj hax hxm hk o ho
  rw [try_succ] at ho
  rw [ftry_succ]
  unfold matching_kuhn_try_body at ho
  unfold sparseref13_Search_Try_body
  obtain ⟨l,hl⟩:∃ l,E[j]?=some l:=⟨E[j]'(by rw [hE.len]; exact hj),by simp [hE.len,hj]⟩
  have hl0:getI E (j:Int)=some l:=hl
  have hlr:=hE.rng j l hl
  have hll:=hE.sz j l hl
  have hos:=off_succ hl
  have hot:=off_top E (j:=j+1)
  have hixe:=hM.ixe
  have hxl:off E (j+1)≤1000000:=by rw [← hixe] at hot; omega
  have hal:=hCs.al
  have hbl:=hCs.bl
  rw [bindS hl0] at ho
  obtain ⟨q,hq,ho⟩:=bs ho
  obtain ⟨q',hq',hqq⟩:=loop_simA (step1:=matching_kuhn_try_l9 (matching_kuhn_try k) l E (j:Int)) (step2:=sparseref13_Search_Try_l9 (sparseref13_Search_Try k) st (j:Int) ix (R:Int) (C:Int) vl)
   (fun (s:LI×LI×BL×Int) (t:LI×LI×BL×Int)=>∃ n:Nat,s.2.2.2=(n:Int)∧t.2.2.2=((off E j+n:Nat):Int)∧s.1=a∧s.2.1=b∧t.1=b∧t.2.1=a∧t.2.2.1=s.2.2.1∧n≤l.length∧s.2.2.1.length=R∧(∀ i,mkd m i→mkd s.2.2.1 i))
   (fun (u:(LI×LI×BL)⊕(LI×LI×BL)) u'=>(∃ p,u=.inl p∧u'=.inl (p.2.1,p.1,p.2.2))∨∃ p,u=.inr p∧u'=.inr (p.2.1,p.1,p.2.2))
   (s:=(a,b,m,0)) (t:=(b,a,m,(off E j:Int))) ⟨0,rfl,by simp,rfl,rfl,rfl,rfl,rfl,by omega,hml,fun _ h=>h⟩ (by
   rintro ⟨a1,b1,m',n'⟩ ⟨b2,a2,m2,t'⟩ r ⟨n,e1,e2,e3,e4,e5,e6,e7,hn,hm1,hm2⟩ hs
   simp only at e1 e2 e3 e4 e5 e6 e7 hm1 hm2
   subst e1; subst e2; subst e3; subst e4; subst e5; subst e6; subst e7
   unfold matching_kuhn_try_l9 matching_kuhn_try_j12 at hs
   unfold sparseref13_Search_Try_l9 sparseref13_Search_Try_j12
   simp only at hs ⊢
   have hwj:wa .i64 (j:Int) 1=((j+1:Nat):Int):=by
    have:j < E.length:=by rw [hE.len]; exact hj
    have:=hM.sl
    rw [wa_in (by constructor<;>omega)]; omega
   rw [hwj,bindS (hM.start (by omega))]
   by_cases htl:n < l.length
   ·have hw:wa .i64 (n:Int) 1=((n+1:Nat):Int):=wa1 (by omega)
    have hw2:wa .i64 ((off E j+n:Nat):Int) 1=((off E j+(n+1):Nat):Int):=by rw [wa1 (by omega)]; omega
    obtain ⟨i,hi⟩:∃ i:Nat,l[n]?=some (i:Int):=by
     have:=hlr _ (List.getElem_mem htl)
     exact ⟨l[n].toNat,by rw [gEq htl]; congr 1; omega⟩
    have hi0:getI l (n:Int)=some (i:Int):=hi
    have hi1:getI ix ((off E j+n:Nat):Int)=some (i:Int):=(hM.at_ hl htl).trans hi
    have hiR:i < R:=by have:=hlr _ (mem_get hi); omega
    rw [if_pos (by omega),bindS hi0,hw] at hs
    rw [if_pos (by omega),bindS hi1,hw2]
    obtain ⟨q,hq⟩:∃ q,m2[i]?=some q:=⟨m2[i]'(by omega),by simp [hm1,hiR]⟩
    have hq0:getI m2 (i:Int)=some q:=hq
    rw [bindS hq0] at hs
    rw [bindS hq0]
    cases q with
    | true=>
     rw [if_pos rfl] at hs ⊢
     obtain rfl:=sInj hs
     exact ⟨_,rfl,.inl ⟨_,_,rfl,rfl,n+1,rfl,rfl,rfl,rfl,rfl,rfl,rfl,htl,hm1,hm2⟩⟩
    | false=>
     obtain ⟨c,hc⟩:∃ c,b2[i]?=some c:=⟨b2[i]'(by omega),by simp [hbl,hiR]⟩
     have hc0:getI b2 (i:Int)=some c:=hc
     rw [if_neg (by simp),bindS (setI_lt (by omega)),bindS hc0] at hs
     rw [if_neg (by simp),bindS (setI_lt (by omega)),bindS hc0]
     have hms:∀ r,mkd (m2.set i true) r↔r=i∨mkd m2 r:=fun r=>mkd_set (by omega)
     have hcnt:=count_set hq
     have hcm:=count_mono (m:=m) (m':=m2) (by omega) hm2
     by_cases hf:c= -1
     ·subst hf
      rw [if_pos rfl,obs] at hs
      rw [if_pos (by omega),obs]
      simp only [if_true] at hs ⊢
      rw [bindS (setI_lt (by omega)),bindS (setI_lt (by omega))] at hs
      rw [bindS (setI_lt (by omega)),bindS (setI_lt (by omega))]
      obtain rfl:=sInj hs
      exact ⟨_,rfl,.inr ⟨_,_,rfl,rfl,.inr ⟨_,rfl,rfl⟩⟩⟩
     obtain ⟨hc1,hc2⟩:=hCs.cr i c hc hf
     obtain ⟨c,rfl⟩:∃ c':Nat,c=(c':Int):=⟨c.toNat,by omega⟩
     obtain ⟨hac,hice⟩:=hCs.col i c hc hf (by omega)
     simp only [Int.toNat_natCast] at hac hice
     rw [if_neg hf,bindS hc0] at hs
     rw [if_neg (by omega),bindS hc0]
     obtain ⟨w,hw3,hz⟩:=bs hs
     clear hs
     obtain ⟨r9,hr9,hw3⟩:=bs hw3
     obtain rfl:=sInj hw3
     have pre2:(m2.set i true).length=R:=by simp [hm1]
     have pre3:((i:Int)= -1∨mkd (m2.set i true) (i:Int).toNat):=.inr (by simpa using (hms i).2 (.inl rfl))
     have hrec:=ih (a:=a2) (b:=b2) (m:=m2.set i true) (j:=c) (x:=(i:Int)) hCs (by simp [hm1]) (by omega) hac pre3 (by omega) r9 hr9
     obtain ⟨o9,ho9,hO⟩:=try_ok hE k (a:=a2) (b:=b2) (m:=m2.set i true) (j:=c) (x:=(i:Int)) hCs (by simp [hm1]) (by omega) hac pre3 (by omega)
     rw [hr9] at ho9
     obtain rfl:=sInj ho9
     rw [bindS hrec,obs]
     obtain ⟨a3,b3,m3,ok⟩:=r9
     simp only at hz ⊢
     cases ok with
     | true=>
      have hT:=hO.t rfl
      have h2l:=hT.cs.al
      have h2b:=hT.cs.bl
      simp only at h2l h2b
      simp only [if_true] at hz ⊢
      rw [bindS (setI_lt (by omega)),bindS (setI_lt (by omega))] at hz
      rw [bindS (setI_lt (by omega)),bindS (setI_lt (by omega))]
      obtain rfl:=sInj hz
      exact ⟨_,rfl,.inr ⟨_,_,rfl,rfl,.inr ⟨_,rfl,rfl⟩⟩⟩
     | false=>
      obtain ⟨f1,f2,f3⟩:=hO.f rfl
      have o1:=hO.ml
      have o2:=hO.mono
      simp only at f1 f2 o1 o2
      subst f1; subst f2
      simp only [Bool.false_eq_true,if_false] at hz ⊢
      obtain rfl:=sInj hz
      exact ⟨_,rfl,.inl ⟨_,_,rfl,rfl,n+1,rfl,rfl,rfl,rfl,rfl,rfl,rfl,htl,o1,fun r hr=>o2 r ((hms r).2 (.inr (hm2 r hr)))⟩⟩
   rw [if_neg (by omega)] at hs
   rw [if_neg (by omega)]
   obtain rfl:=sInj hs
   exact ⟨_,rfl,.inr ⟨_,_,rfl,rfl,.inl ⟨_,rfl,rfl⟩⟩⟩) hq
  rw [bindS (hM.start (by omega)),bindS hq']
  rcases hqq with ⟨p,rfl,rfl⟩ | ⟨p,rfl,rfl⟩
  ·simp only at ho ⊢
   obtain rfl:=sInj ho
   rfl
  simp only at ho ⊢
  obtain rfl:=sInj ho
  rfl
theorem fnone_ok {n:Nat} (hn:n≤100000):sparseref13_none (n:Int)=some (List.replicate n (-1)):=by
 unfold sparseref13_none
 have h1:loop (sparseref13_none_l1 (n:Int)) ([],0)=some (List.replicate n (-1)):=by
  refine Ret.eq ?_
  refine ret_loop n (fun k (t:LI×Int)=>t=(List.replicate k (-1),(k:Int))) rfl ?_
  rintro k _ hk rfl
  unfold sparseref13_none_l1
  simp only
  by_cases hkn:k < n
  ·have hw:wa .i64 (k:Int) 1=((k+1:Nat):Int):=wa1 (by omega)
   rw [if_pos (by omega),bindS (app_small (by simp; omega)),hw,ret_some,vq_l]
   exact ⟨hkn,by rw [← List.replicate_succ']⟩
  rw [if_neg (by omega),ret_some,vq_r,show k=n by omega]
 rw [bindS h1]
theorem find_ok (hM:Mv R C E st ix vl) (hR:R≤100000) (hC:C≤100000) (hx:ix.length≤1000000) {a b:LI} {mm:BL} (h:matching_matched (R:Int) (C:Int) st ix vl=some (E,a,b,mm)):sparseref13_Find (R:Int) (C:Int) st ix vl=some (b,a,mm):=by
 have hE:=hM.kb hR
 obtain ⟨f,hf⟩:=fuel_big
 unfold matching_matched at h
 obtain ⟨E',hE',h⟩:=bs h
 rw [bindS (full_ok hC _),bindS (full_ok hR _)] at h
 obtain ⟨⟨a',b',m'⟩,hl,h⟩:=bs h
 simp only at h
 have h:=sInj h
 simp only [Prod.mk.injEq] at h
 obtain ⟨rfl,rfl,rfl,rfl⟩:=h
 obtain ⟨o',ho',he⟩:=loop_simA (step1:=matching_matched_l1 (C:Int) (R:Int) E') (step2:=sparseref13_Find_l1 (C:Int) (R:Int) st ix vl)
  (fun (s:LI×LI×BL×Int) (t:LI×LI×BL×Int)=>∃ (n:Nat) (D:Nat→Prop),t=(s.2.1,s.1,s.2.2.1,s.2.2.2)∧s.2.2.2=(n:Int)∧n≤C∧Mx R C E' n s.1 s.2.1 s.2.2.1 D)
  (fun (u:LI×LI×BL) u'=>u'=(u.2.1,u.1,u.2.2))
  (s:=(List.replicate C (-1),List.replicate R (-1),[],0)) (t:=(List.replicate R (-1),List.replicate C (-1),[],0)) ⟨0,_,rfl,rfl,by omega,round_0⟩ (by
  rintro ⟨a1,b1,m1,n1⟩ t r ⟨n,D,rfl,e1,hn,hX⟩ hs
  simp only at e1 hX
  subst e1
  unfold matching_matched_l1 at hs
  unfold sparseref13_Find_l1
  simp only at hs ⊢
  by_cases hnC:n < C
  ·have hw:wa .i64 (n:Int) 1=((n+1:Nat):Int):=wa1 (by omega)
   rw [if_pos (by omega),bindS (mkL_nat false R (by omega))] at hs
   rw [if_pos (by omega),bindS (mkL_nat false R (by omega))]
   obtain ⟨o,ho,hs⟩:=bs hs
   have hcnt:(List.replicate R false).count false < FUEL:=by rw [count_none]; omega
   have h1:=rtry_ok hM hR hC hx FUEL hX.cs (by simp) hnC (hX.td n (by omega) hnC) (.inl rfl) hcnt o ho
   obtain ⟨o9,ho9,hO⟩:=try_ok hE FUEL hX.cs (by simp) hnC (hX.td n (by omega) hnC) (.inl rfl) hcnt
   rw [ho] at ho9
   obtain rfl:=sInj ho9
   obtain ⟨D',hD'⟩:=round_next hX hnC hO
   rw [bindS h1]
   obtain rfl:=sInj hs
   exact ⟨_,rfl,.inl ⟨_,_,rfl,rfl,n+1,D',rfl,hw,hnC,hD'⟩⟩
  rw [if_neg (by omega)] at hs ⊢
  obtain rfl:=sInj hs
  exact ⟨_,rfl,.inr ⟨_,_,rfl,rfl,rfl⟩⟩) hl
 unfold sparseref13_Find
 rw [bindS (fnone_ok hR),bindS (fnone_ok hC),bindS ho',he]
theorem freach_in (hM:Mv R C E st ix vl) (hR:R≤100000) (hx:ix.length≤1000000) {a b:LI} (hCs:Cs R C E a b (-1)) (hC:C≤100000) {j:Nat} (hj:j < C) {l:LI} (hl:E[j]?=some l) {rows cols:BL} {todo:LI} {B:Nat} (hB:B≤1000000) (h:Ri R C E a b j [] rows cols todo B):
  Ret (loop (sparseref13_Reach_l24 st (j:Int) ix b) (rows,cols,todo,(off E j:Int))) (fun o=>Ri R C E a b j l o.1 o.2.1 o.2.2 B):=by
 have hE:=hM.kb hR
 have hll:=hE.sz j l hl
 have hos:=off_succ hl
 have hot:=off_top E (j:=j+1)
 have hxl:off E (j+1)≤1000000:=by rw [← hM.ixe] at hot; omega
 refine ret_loop l.length (fun k (t:BL×BL×LI×Int)=>t.2.2.2=((off E j+k:Nat):Int)∧Ri R C E a b j (l.take k) t.1 t.2.1 t.2.2.1 B) ⟨rfl,by simpa using h⟩ ?_
 rintro k ⟨r,c,q,t⟩ hk ⟨e1,hI⟩
 simp only at e1 hI
 subst e1
 unfold sparseref13_Reach_l24 sparseref13_Reach_j26
 simp only
 have hwj:wa .i64 (j:Int) 1=((j+1:Nat):Int):=wa1 (by omega)
 rw [hwj,bindS (hM.start (by omega))]
 by_cases hkl:k < l.length
 ·have hw:wa .i64 ((off E j+k:Nat):Int) 1=((off E j+(k+1):Nat):Int):=by rw [wa1 (by omega)]; omega
  obtain ⟨i,hi⟩:∃ i:Nat,l[k]?=some (i:Int):=by
   have:=hE.rng j l hl _ (List.getElem_mem hkl)
   exact ⟨l[k].toNat,by rw [gEq hkl]; congr 1; omega⟩
  have hi0:getI ix ((off E j+k:Nat):Int)=some (i:Int):=(hM.at_ hl hkl).trans hi
  have hiR:i < R:=by have:=hE.rng j l hl _ (mem_get hi); omega
  have hie:inE E j i:=⟨l,hl,mem_get hi⟩
  have hrl:=hI.rl
  have hcl:=hI.cl
  have hbl:=hCs.bl
  have hq:=hI.bd
  obtain ⟨d,hd⟩:∃ d,b[i]?=some d:=⟨b[i]'(by omega),by simp [hbl,hiR]⟩
  have hd0:getI b (i:Int)=some d:=hd
  obtain ⟨s1,s2⟩:=hI.step hCs hiR hie hd
  rw [← tks hi] at s1 s2
  rw [if_pos (by omega),bindS hi0,bindS (setI_lt (by omega)),bindS hd0,hw]
  by_cases hd1:d= -1
  ·rw [if_neg (by omega),obs,if_neg (by simp),ret_some,vq_l]
   exact ⟨hkl,rfl,s1 (.inl hd1)⟩
  obtain ⟨d1,d2⟩:=hCs.cr i d hd hd1
  obtain ⟨d,rfl⟩:∃ d':Nat,d=(d':Int):=⟨d.toNat,by omega⟩
  rw [if_pos (by omega)]
  obtain ⟨z,hz⟩:∃ z,c[d]?=some z:=⟨c[d]'(by omega),by simp [show d < c.length by omega]⟩
  have hz0:getI c (d:Int)=some z:=hz
  rw [bindS hz0,obs]
  cases z with
  | true=>
   rw [if_neg (by simp),ret_some,vq_l]
   exact ⟨hkl,rfl,s1 (.inr ⟨d,rfl,hz⟩)⟩
  | false=>
   have hc0:=count_set hz
   rw [if_pos (by simp),bindS (setI_lt (by omega)),bindS (app_small (by simp; omega)),ret_some,vq_l]
   exact ⟨hkl,rfl,s2 d rfl (by omega) hz _ (by simp) (fun x=>by simp)⟩
 rw [if_neg (by omega),ret_some,vq_r]
 rw [take_all (by omega)] at hI
 exact hI
theorem freach_out (hM:Mv R C E st ix vl) (hR:R≤100000) (hx:ix.length≤1000000) {a b:LI} (hCs:Cs R C E a b (-1)) (hC:C≤100000) {rows cols:BL} {todo:LI} (h:Rw R C E a b rows cols todo):
  Ret (loop (sparseref13_Reach_l19 st ix b) (rows,cols,todo)) (fun o=>Rch R C E a b o.1 o.2):=by
 have hE:=hM.kb hR
 refine ret_loop C (fun k (t:BL×BL×LI)=>Rw R C E a b t.1 t.2.1 t.2.2∧t.2.2.length+t.2.1.count false+k≤C) ⟨h,by have:=h.bd; simpa using this⟩ ?_
 rintro k ⟨r,c,q⟩ hk ⟨hI,hb⟩
 simp only at hI hb
 unfold sparseref13_Reach_l19
 simp only
 by_cases hq0:q=[]
 ·subst hq0
  rw [if_neg (by simp),ret_some,vq_r]
  exact hI.done
 have hql:0 < q.length:=List.length_pos_iff.2 hq0
 have hbl:=hI.bd
 have hws:ws .i64 (q.length:Int) 1=((q.length - 1:Nat):Int):=by rw [ws_in (by constructor<;>omega)]; omega
 have hgl:q[q.length - 1]?=some q[q.length - 1]:=gEq (by omega)
 have hxm:=List.getElem_mem (l:=q) (n:=q.length - 1) (by omega)
 have hxr:=hI.td _ hxm
 obtain ⟨j,hj⟩:∃ j:Nat,q[q.length - 1]=(j:Int):=⟨q[q.length - 1].toNat,by omega⟩
 have hg:getI q ((q.length - 1:Nat):Int)=some (j:Int):=by rw [← hj]; exact hgl
 have hsplit:q=q.take (q.length - 1)++[(j:Int)]:=by
  have:=tks hgl
  rw [show q.length - 1+1=q.length by omega,List.take_length] at this
  rw [← hj]; exact this
 have hsl:sli q 0 ((q.length - 1:Nat):Int)=some (q.take (q.length - 1)):=by
  unfold sli subL
  rw [if_pos (by omega)]
  simp
 have hjC:j < C:=by omega
 obtain ⟨l,hl⟩:∃ l,E[j]?=some l:=⟨E[j]'(by rw [hE.len]; omega),by simp [hE.len,hjC]⟩
 rw [if_pos (by omega),hws,bindS hg,bindS hsl,bindS (hM.start (by omega)),ret_bind]
 have hE1:=hI.enter (todo':=q.take (q.length - 1)) (j:=j) (by rw [← hj]; exact hxm) (fun x=>by rw [hsplit]; simp) (by simp; omega)
 have htl:(q.take (q.length - 1)).length=q.length - 1:=by simp
 have hE2:Ri R C E a b j [] r c (q.take (q.length - 1)) (C - 1 - k):=⟨hE1.rl,hE1.cl,hE1.td,hE1.s,hE1.r,hE1.rj,hE1.c,hE1.lst,hE1.tc,by omega,hE1.cj⟩
 refine ret_call (freach_in hM hR hx hCs hC hjC hl (by omega) hE2) ?_
 rintro ⟨r2,c2,q2⟩ h2
 simp only at h2
 rw [ret_some,vq_l]
 have:=h2.bd
 exact ⟨by omega,h2.leave hl (by omega),by simp only; omega⟩
theorem freach_start {a b:LI} (hCs:Cs R C E a b (-1)) (hC:C≤100000) {mm:BL} {o:BL×LI}
  (h:loop (matching_Reachable_l4 (E,a,b,mm)) (List.replicate C false,[],0)=some o):loop (sparseref13_Reach_l4 (C:Int) a) (List.replicate C false,[],0)=some o:=by
 have hal:=hCs.al
 obtain ⟨o',ho',rfl⟩:=loop_simA (step1:=matching_Reachable_l4 (E,a,b,mm)) (step2:=sparseref13_Reach_l4 (C:Int) a) (fun s t=>t=s) (fun u u'=>u'=u) (t:=(List.replicate C false,[],0)) rfl (by
  rintro ⟨c,q,i⟩ t r rfl hs
  unfold matching_Reachable_l4 matching_Reachable_j27 at hs
  unfold sparseref13_Reach_l4 sparseref13_Reach_j27
  simp only at hs ⊢
  by_cases hi:i < (a.length:Int)
  ·rw [if_pos hi] at hs
   rw [if_pos (by omega)]
   obtain ⟨x,hx,hs⟩:=bs hs
   rw [bindS hx]
   have hx2:x= -1∨0≤x:=by
    obtain ⟨i0,_,_⟩:=getI_nn hx
    by_cases h1:x= -1
    ·exact .inl h1
    obtain ⟨n,rfl⟩:=Int.eq_ofNat_of_zero_le i0
    exact .inr (hCs.row n x hx h1).1
   by_cases h1:x= -1
   ·rw [if_pos h1] at hs
    rw [if_pos (by omega)]
    obtain ⟨y,hy,hs⟩:=bs hs
    obtain ⟨z,hz,hs⟩:=bs hs
    rw [bindS hy,bindS hz]
    obtain rfl:=sInj hs
    exact ⟨_,rfl,.inl ⟨_,_,rfl,rfl,rfl⟩⟩
   rw [if_neg h1] at hs
   rw [if_neg (by omega)]
   obtain rfl:=sInj hs
   exact ⟨_,rfl,.inl ⟨_,_,rfl,rfl,rfl⟩⟩
  rw [if_neg hi] at hs
  rw [if_neg (by omega)]
  obtain rfl:=sInj hs
  exact ⟨_,rfl,.inr ⟨_,_,rfl,rfl,rfl⟩⟩) h
 exact ho'
theorem fchosen_ok {l:BL} {v:Bool} (hl:l.length≤100000):sparseref13_Chosen l v=some (coll (fun i=>l[i]?=some v) l.length):=list_b hl
theorem freach_ok (hM:Mv R C E st ix vl) (hR:R≤100000) (hC:C≤100000) (hx:ix.length≤1000000) {a b:LI} {mm:BL} {rows cols:BL} (hMat:Mat R C E a b rows cols):sparseref13_Reach (R:Int) (C:Int) st ix vl b a mm=some (rows,cols):=by
 have hCs:=hMat.cs
 obtain ⟨⟨c,q⟩,s1,s2⟩:=reach_start (mm:=mm) (E:=E) hCs hC
 have s3:=freach_start hCs hC s1
 obtain ⟨⟨r',c'⟩,t1,t2⟩:=freach_out hM hR hx hCs hC s2
 obtain ⟨e1,e2⟩:=hMat.rch.uniq t2
 unfold sparseref13_Reach
 rw [bindS (mkL_nat false R (by omega)),bindS (mkL_nat false C (by omega)),bindS s3]
 simp only at t1 ⊢
 rw [bindS t1,e1,e2]
end
end Km
/- The paper's check of a matrix and its cover: as the program's. -/
namespace Km
open Pl Sx Go M Vc Pd
def RF (vl:LI):Prop:=∀ v,v∈vl→sparseref03_IsFinite v=some true
theorem finite_ok {vl:LI} (h:RF vl) (hl:vl.length≤100000):sparseref06_Finite vl=some true:=by
 have h1:loop (sparseref06_Finite_l1 vl) 0=some (.inl ()):=by
  refine Ret.eq ?_
  refine ret_loop vl.length (fun k (t:Int)=>t=(k:Int)) rfl ?_
  rintro k _ hk rfl
  unfold sparseref06_Finite_l1
  by_cases hkn:k < vl.length
  ·have hw:wa .i64 (k:Int) 1=((k+1:Nat):Int):=wa1 (by omega)
   rw [if_pos (by omega),bindS (getI_lt hkn),bindS (h _ (List.getElem_mem hkn)),if_pos rfl,hw,ret_some,vq_l]
   exact ⟨hkn,rfl⟩
  rw [if_neg (by omega),ret_some,vq_r]
 unfold sparseref06_Finite
 rw [bindS h1]
section
variable {R C:Nat} {E:List LI} {st ix vl:LI}
theorem fcheck_col (h:Mv R C E st ix vl) (hR:R≤100000) (hx:ix.length≤100000) (hC:C≤100000) {j:Nat} (hj:j < C):loop (sparseref09_Check_l76 st (j:Int) ix (R:Int)) (off E j:Int)=some (.inl ()):=by
 have hl:E[j]?=some (E[j]'(by rw [h.len]; exact hj)):=gEq (by rw [h.len]; exact hj)
 generalize E[j]'(by rw [h.len]; exact hj)=l at hl
 have hos:=off_succ hl
 have hot:=off_top E (j:=j+1)
 have hxl:off E (j+1)≤100000:=by rw [← h.ixe] at hot; omega
 have hasc:=h.asc l (mem_get hl)
 have hrng:=h.rng l (mem_get hl)
 refine Ret.eq ?_
 refine ret_loop l.length (fun k (t:Int)=>t=((off E j+k:Nat):Int)) rfl ?_
 rintro k _ hk rfl
 unfold sparseref09_Check_l76
 have hwj:wa .i64 (j:Int) 1=((j+1:Nat):Int):=wa1 (by omega)
 rw [hwj,bindS (h.start (by omega))]
 by_cases hkl:k < l.length
 ·have hw:wa .i64 ((off E j+k:Nat):Int) 1=((off E j+(k+1):Nat):Int):=by rw [wa1 (by omega)]; omega
  have hg:getI ix ((off E j+k:Nat):Int)=some l[k]:=(h.at_ hl hkl).trans (gEq hkl)
  have hr:=hrng _ (List.getElem_mem hkl)
  rw [if_pos (by omega),bindS hg,if_neg (by omega),bindS hg,obs,decide_eq_false (by omega),if_neg (by simp),bindS (h.start (by omega))]
  by_cases hk0:k=0
  ·subst hk0
   rw [if_neg (by omega),obs,obs,if_neg (by simp),hw,ret_some,vq_l]
   exact ⟨hkl,rfl⟩
  have hws:ws .i64 ((off E j+k:Nat):Int) 1=((off E j+(k - 1):Nat):Int):=by rw [ws_in (by constructor<;>omega)]; omega
  have hg2:getI ix ((off E j+(k - 1):Nat):Int)=some (l[k - 1]'(by omega)):=(h.at_ hl (by omega)).trans (gEq (by omega))
  have hlt:=asc_get hasc (i:=k - 1) (j:=k) hkl (by omega)
  rw [if_pos (by omega),bindS hg,hws,bindS hg2,obs,decide_eq_false (by omega),obs,if_neg (by simp),hw,ret_some,vq_l]
  exact ⟨hkl,rfl⟩
 rw [if_neg (by omega),ret_some,vq_r]
theorem fcheck_ok (h:Mv R C E st ix vl) (hR:R≤200) (hC:C≤200) (hx:ix.length≤10000) (hf:RF vl):sparseref09_Check (R:Int) (C:Int) st ix vl=some 0:=by
 have hsl:=h.sl
 have hvl:=h.vle
 have g0:getI st 0=some 0:=h.ste 0 (by omega)
 have gC:getI st (C:Int)=some (ix.length:Int):=by
  have:=h.ste C (by omega)
  rw [← h.len,off_all,← h.ixe] at this
  rw [← h.len]
  exact this
 have hw:wa .i64 (C:Int) 1=((C+1:Nat):Int):=wa1 (by omega)
 have l1:loop (sparseref09_Check_l8 (C:Int) st) 0=some (.inl ()):=by
  refine Ret.eq ?_
  refine ret_loop C (fun k (t:Int)=>t=(k:Int)) rfl ?_
  rintro k _ hk rfl
  unfold sparseref09_Check_l8
  by_cases hkn:k < C
  ·have hwk:wa .i64 (k:Int) 1=((k+1:Nat):Int):=wa1 (by omega)
   have o1:=off_le (E:=E) (i:=k) (j:=k+1) (by omega)
   rw [if_pos (by omega),bindS (h.start (by omega)),hwk,bindS (h.start (by omega)),if_neg (by omega),ret_some,vq_l]
   exact ⟨hkn,rfl⟩
  rw [if_neg (by omega),ret_some,vq_r]
 have l2:loop (sparseref09_Check_l59 (C:Int) st ix (R:Int)) 0=some (.inl ()):=by
  refine Ret.eq ?_
  refine ret_loop C (fun k (t:Int)=>t=(k:Int)) rfl ?_
  rintro k _ hk rfl
  unfold sparseref09_Check_l59
  by_cases hkn:k < C
  ·have hwk:wa .i64 (k:Int) 1=((k+1:Nat):Int):=wa1 (by omega)
   rw [if_pos (by omega),bindS (h.start (by omega)),bindS (fcheck_col h (by omega) (by omega) (by omega) hkn),hwk,ret_some,vq_l]
   exact ⟨hkn,rfl⟩
  rw [if_neg (by omega),ret_some,vq_r]
 unfold sparseref09_Check
 rw [if_neg (by simp only [Bool.or_eq_true,decide_eq_true_eq]; omega),hw,if_neg (by simp only [Bool.or_eq_true,Bool.not_eq_true',decide_eq_false_iff_not]; omega),bindS g0,obs]
 simp only [decide_true,Bool.not_true]
 rw [if_neg (by simp),bindS gC,obs]
 simp only [decide_true,Bool.not_true]
 rw [if_neg (by simp),bindS l1]
 simp only
 rw [bindS l2]
 simp only
 rw [bindS (finite_ok hf (by omega)),if_pos rfl]
theorem fcover_ok (h:Mv R C E st ix vl) (hR:R≤200) (hC:C≤200) (hx:ix.length≤10000) (hf:RF vl) {a b:LI} {mm:BL} {rows cols:BL} (hm:matching_matched (R:Int) (C:Int) st ix vl=some (E,a,b,mm)) (hMat:Mat R C E a b rows cols):
  sparseref13_Cover (R:Int) (C:Int) st ix vl=some (coll (fun i=>rows[i]?=some true) rows.length,coll (fun i=>cols[i]?=some false) cols.length,0):=by
 have hrl:=hMat.rch.rl
 have hcl:=hMat.rch.cl
 unfold sparseref13_Cover
 rw [bindS (fcheck_ok h hR hC hx hf),if_pos rfl,bindS (find_ok h (by omega) (by omega) (by omega) hm)]
 simp only
 rw [bindS (freach_ok h (by omega) (by omega) (by omega) hMat)]
 simp only
 rw [bindS (fchosen_ok (by omega)),bindS (fchosen_ok (by omega))]
end
end Km
/- The paper's separator: as the program's. -/
namespace Km
open Pl Sx Go M Vc Pd Pu
theorem fin_rf {x:Int} (h:matrix_Check_1 x=some false):sparseref03_IsFinite x=some true:=by
 unfold sparseref03_IsFinite
 by_cases hc:wand .u64 (wsrc .u64 x 52) 2047=2047
 ·exfalso
  unfold matrix_Check_1 float_IsFinite float_parts at h
  rw [obs,obs] at h
  simp only [hc] at h
  exact absurd h (by decide)
 rw [decide_eq_false hc]; rfl
theorem Mv.rf {R C:Nat} {E:List LI} {st ix vl:LI} (h:Mv R C E st ix vl):RF vl:=fun v hv=>fin_rf (h.fin v hv)
open Classical in
theorem rborder_ok {adj:List LI} (hG:Gr adj) (hn:adj.length≤200) {side:LI} (hs:side.length=adj.length) (s:Int):sparseref18_border adj side s=some (bor adj side s):=by
 unfold sparseref18_border
 have h1:loop (sparseref18_border_l11 side adj s) ([],0)=some (bor adj side s):=by
  refine Ret.eq ?_
  refine ret_loop adj.length (fun k (t:LI×Int)=>t=(coll (fun v=>Bd adj side s v) k,(k:Int))) rfl ?_
  rintro k _ hk rfl
  unfold sparseref18_border_l11 sparseref18_border_j15
  simp only
  by_cases hkn:k < adj.length
  ·have hw:wa .i64 (k:Int) 1=((k+1:Nat):Int):=wa1 (by omega)
   have hl:adj[k]?=some adj[k]:=gEq hkn
   have hll:=hG.len hl
   have hsd:getI side (k:Int)=some (sd side k):=sd_at hs hkn
   have hcl:=coll_len (tm:=fun v=>Bd adj side s v) k
   have hin:Ret (loop (sparseref18_border_l13 adj (k:Int) side s) (false,0)) (fun b=>b=true↔∃ x,x∈adj[k]∧sd side x.toNat≠s):=by
    refine ret_loop adj[k].length (fun m (t:Bool×Int)=>t.2=(m:Int)∧(t.1=true↔∃ x,x∈adj[k].take m∧sd side x.toNat≠s)) ⟨rfl,by simp⟩ ?_
    rintro m ⟨b,t⟩ hm ⟨e1,e2⟩
    simp only at e1 e2
    subst e1
    unfold sparseref18_border_l13
    simp only
    rw [bindS (getI_lt hkn)]
    by_cases hml:m < adj[k].length
    ·have hw2:wa .i64 (m:Int) 1=((m+1:Nat):Int):=wa1 (by omega)
     have hx:=hG.rng k _ _ hl (List.getElem_mem hml)
     have hm2:adj[k][m]?=some adj[k][m]:=gEq hml
     have hsx:getI side adj[k][m]=some (sd side adj[k][m].toNat):=by
      have:=sd_at hs (v:=adj[k][m].toNat) (by omega)
      exact getI_of hx.1 this
     rw [if_pos (by omega),hw2]
     cases b with
     | true=>
      rw [if_pos rfl,obs,ret_some,vq_l]
      refine ⟨hml,rfl,?_⟩
      obtain ⟨x,x1,x2⟩:=e2.1 rfl
      simp only [true_iff]
      exact ⟨x,(mts hm2).2 (.inl x1),x2⟩
     | false=>
      rw [if_neg (by simp),bindS (getI_lt hkn),bindS (getI_lt hml),bindS hsx,obs,ret_some,vq_l]
      refine ⟨hml,rfl,?_⟩
      simp only [Bool.not_eq_true',decide_eq_false_iff_not]
      constructor
      ·intro h; exact ⟨_,(mts hm2).2 (.inr rfl),h⟩
      rintro ⟨x,x1,x2⟩
      rcases (mts hm2).1 x1 with x1 | rfl
      ·have:=e2.2 ⟨x,x1,x2⟩; cases this
      exact x2
    rw [if_neg (by omega),ret_some,vq_r]
    rw [take_all (by omega)] at e2
    exact e2
   obtain ⟨b,b1,b2⟩:=hin
   rw [if_pos (by omega),bindS b1,hw]
   have hb:∀ (c:Prop) [Decidable c],(c↔Bd adj side s k)→Ret (if c then (app (coll (fun v=>Bd adj side s v) k) [(k:Int)]).bind fun x70=>some (Sum.inl (x70,((k+1:Nat):Int))) else some (Sum.inl (coll (fun v=>Bd adj side s v) k,((k+1:Nat):Int)))) (VQ (fun t'=>k < adj.length∧t'=(coll (fun v=>Bd adj side s v) (k+1),((k+1:Nat):Int))) fun y=>y=bor adj side s):=by
    intro c _ hc
    by_cases h:c
    ·rw [if_pos h,bindS (app_small (by simp; omega)),ret_some,vq_l]
     refine ⟨hkn,?_⟩
     rw [coll,if_pos (hc.1 h)]
    rw [if_neg h,ret_some,vq_l]
    refine ⟨hkn,?_⟩
    rw [coll,if_neg (fun h'=>h (hc.2 h')),List.append_nil]
   have hbd:(∃ x,x∈adj[k]∧sd side x.toNat≠s)∧sd side k=s↔Bd adj side s k:=by
    constructor
    ·rintro ⟨⟨x,hx,h⟩,hsk⟩
     have:=hG.rng k _ x hl hx
     exact ⟨hsk,x.toNat,⟨_,hl,by rw [Int.toNat_of_nonneg this.1]; exact hx⟩,h⟩
    rintro ⟨hsk,u,⟨l,l1,l2⟩,h⟩
    rw [hl] at l1
    cases l1
    exact ⟨⟨u,l2,by simpa using h⟩,hsk⟩
   cases b with
   | true=>
    rw [if_pos rfl,bindS hsd,obs]
    refine hb _ ?_
    rw [decide_eq_true_eq,← hbd]
    exact ⟨fun h=>⟨b2.1 rfl,h⟩,fun h=>h.2⟩
   | false=>
    rw [if_neg (by simp),obs]
    refine hb (false=true) ?_
    rw [← hbd]
    exact ⟨fun h=>(by cases h),fun h=>b2.2 h.1⟩
  rw [if_neg (by omega),ret_some,vq_r,show k=adj.length by omega]
  rfl
 rw [bindS h1]
structure Le (adj:List LI) (rs cs:LI) (Q:Nat→Nat→Prop) (L:List (Int×Int×Int)):Prop where
 mem:∀ e,e∈L→∃ i j:Nat,e=((i:Int),(j:Int),0)∧i < rs.length∧j < cs.length
 has:∀ i j:Nat,i < rs.length→j < cs.length→(((i:Int),(j:Int),0)∈L↔Q i j∧∃ v u:Nat,rs[i]?=some (v:Int)∧cs[j]?=some (u:Int)∧nbp adj v u)
theorem ents_in {adj:List LI} (hG:Gr adj) (hn:adj.length≤30) {rs cs:LI} (hrl:rs.length≤30) (hcl:cs.length≤30) (hr:∀ x,x∈rs→0≤x∧x < (adj.length:Int)) (hc:∀ x,x∈cs→0≤x∧x < (adj.length:Int)) {k:Nat} (hk:k < rs.length) {L:List (Int×Int×Int)} (hL:L.length≤40*k) (h:Le adj rs cs (fun i _=>i < k) L):
  Ret (loop (sparseref18_Separate_l24 cs rs (k:Int) adj) (L,0)) (fun L'=>L'.length≤40*(k+1)∧Le adj rs cs (fun i _=>i < k+1) L'):=by
 refine ret_loop cs.length (fun m (t:List (Int×Int×Int)×Int)=>t.2=(m:Int)∧t.1.length≤40*k+m∧Le adj rs cs (fun i j=>i < k∨(i=k∧j < m)) t.1) ⟨rfl,by simpa using hL,h.mem,fun i j hi hj=>by rw [h.has i j hi hj]; simp⟩ ?_
 rintro m ⟨L1,t⟩ hm ⟨e1,e2,hI⟩
 simp only at e1 e2 hI
 subst e1
 unfold sparseref18_Separate_l24 sparseref18_Separate_j25
 simp only
 by_cases hmn:m < cs.length
 ·have hw:wa .i64 (m:Int) 1=((m+1:Nat):Int):=wa1 (by omega)
  have h1:=hr _ (List.getElem_mem hk)
  have h2:=hc _ (List.getElem_mem hmn)
  obtain ⟨v,hv⟩:∃ v:Nat,rs[k]=(v:Int):=⟨rs[k].toNat,by omega⟩
  obtain ⟨u,hu⟩:∃ u:Nat,cs[m]=(u:Int):=⟨cs[m].toNat,by omega⟩
  have hv1:rs[k]?=some (v:Int):=by rw [gEq hk,hv]
  have hu1:cs[m]?=some (u:Int):=by rw [gEq hmn,hu]
  obtain ⟨l,hl⟩:∃ l,adj[v]?=some l:=⟨adj[v]'(by omega),by simp [show v < adj.length by omega]⟩
  have hll:=hG.len hl
  have g1:getI rs (k:Int)=some (v:Int):=hv1
  have g2:getI adj (v:Int)=some l:=hl
  have g3:getI cs (m:Int)=some (u:Int):=hu1
  have hiff:(u:Int)∈l↔nbp adj v u:=⟨fun h=>⟨l,hl,h⟩,fun ⟨l',h1,h2⟩=>by rw [hl] at h1; cases h1; exact h2⟩
  rw [if_pos (by omega),bindS g1,bindS g2,bindS g3,bindS (in_dec (by omega)),hw]
  by_cases hq:(u:Int)∈l
  ·rw [decide_eq_true hq,if_pos rfl,bindS (app_small (by simp; omega)),ret_some,vq_l]
   refine ⟨hmn,rfl,by simp; omega,fun e he=>?_,fun i j hi hj=>?_⟩
   ·rcases List.mem_append.1 he with he | he
    ·exact hI.mem e he
    exact ⟨k,m,by simpa using he,hk,hmn⟩
   rw [List.mem_append,hI.has i j hi hj,List.mem_singleton]
   simp only [Prod.mk.injEq,and_true]
   constructor
   ·rintro (⟨h1,h2⟩ | ⟨h1,h2⟩)
    ·exact ⟨by omega,h2⟩
    have q1:i=k:=by omega
    have q2:j=m:=by omega
    subst q1; subst q2
    exact ⟨by omega,v,u,hv1,hu1,hiff.1 hq⟩
   rintro ⟨h1,h2⟩
   by_cases h3:i < k∨(i=k∧j < m)
   ·exact .inl ⟨h3,h2⟩
   exact .inr ⟨by omega,by omega⟩
  rw [decide_eq_false hq,if_neg (by simp),ret_some,vq_l]
  refine ⟨hmn,rfl,by simp only; omega,hI.mem,fun i j hi hj=>?_⟩
  simp only
  rw [hI.has i j hi hj]
  constructor
  ·rintro ⟨h1,h2⟩; exact ⟨by omega,h2⟩
  rintro ⟨h1,h7⟩
  refine ⟨?_,h7⟩
  by_cases h3:i < k∨(i=k∧j < m)
  ·exact h3
  have q1:i=k:=by omega
  have q2:j=m:=by omega
  subst q1; subst q2
  obtain ⟨v',u',a1,a2,a3⟩:=h7
  rw [hv1] at a1; rw [hu1] at a2
  have a1:=sInj a1
  have a2:=sInj a2
  have:v'=v:=by omega
  have:u'=u:=by omega
  subst_vars
  exact absurd (hiff.2 a3) hq
 rw [if_neg (by omega),ret_some,vq_r]
 refine ⟨by omega,hI.mem,fun i j hi hj=>?_⟩
 rw [hI.has i j hi hj]
 constructor
 ·rintro ⟨h1,h2⟩; exact ⟨by omega,h2⟩
 rintro ⟨h1,h2⟩; exact ⟨by omega,h2⟩
theorem ents_out {adj:List LI} (hG:Gr adj) (hn:adj.length≤30) {rs cs:LI} (hrl:rs.length≤30) (hcl:cs.length≤30) (hr:∀ x,x∈rs→0≤x∧x < (adj.length:Int)) (hc:∀ x,x∈cs→0≤x∧x < (adj.length:Int)):
  Ret (loop (sparseref18_Separate_l9 rs cs adj) ([],0)) (fun L=>L.length≤2000∧Le adj rs cs (fun _ _=>True) L):=by
 refine ret_loop rs.length (fun k (t:List (Int×Int×Int)×Int)=>t.2=(k:Int)∧t.1.length≤40*k∧Le adj rs cs (fun i _=>i < k) t.1) ⟨rfl,by simp,fun e he=>by simp at he,fun i j _ _=>by simp⟩ ?_
 rintro k ⟨L1,t⟩ hk ⟨e1,e2,hI⟩
 simp only at e1 e2 hI
 subst e1
 unfold sparseref18_Separate_l9
 simp only
 by_cases hkn:k < rs.length
 ·have hw:wa .i64 (k:Int) 1=((k+1:Nat):Int):=wa1 (by omega)
  rw [if_pos (by omega),ret_bind]
  refine ret_call (ents_in hG hn hrl hcl hr hc hkn e2 hI) ?_
  rintro L2 ⟨f1,f2⟩
  rw [hw,ret_some,vq_l]
  exact ⟨hkn,rfl,f1,f2⟩
 rw [if_neg (by omega),ret_some,vq_r]
 exact ⟨by omega,hI.mem,fun i j hi hj=>by rw [hI.has i j hi hj]; simp only [true_and]; exact ⟨fun h=>h.2,fun h=>⟨by omega,h⟩⟩⟩
theorem pack_tab {adj:List LI} (hG:Gr adj) {rs cs:LI} (hr:∀ x,x∈rs→0≤x∧x < (adj.length:Int)) (hc:∀ x,x∈cs→0≤x∧x < (adj.length:Int)) {L:List (Int×Int×Int)} (h:Le adj rs cs (fun _ _=>True) L):packE rs.length cs.length L=tabE adj rs cs:=by
 classical
 apply List.ext_getElem?
 intro j
 by_cases hj:j < cs.length
 ·have h2:=hc _ (List.getElem_mem hj)
  obtain ⟨u,hu⟩:∃ u:Nat,cs[j]=(u:Int):=⟨cs[j].toNat,by omega⟩
  have hu1:cs[j]?=some (u:Int):=by rw [gEq hj,hu]
  have e1:(packE rs.length cs.length L)[j]?=some (pcol rs.length L j):=by simp [packE,hj]
  have e2:(tabE adj rs cs)[j]?=some (colE adj rs (u:Int)):=by simp [tabE,hu1]
  rw [e1,e2]
  congr 1
  refine asc_unique (coll_asc _) (coll_asc _) fun x=>?_
  unfold pcol colE
  rw [coll_mem,coll_mem]
  constructor
  ·rintro ⟨h1,h3,y,hy⟩
   refine ⟨h1,h3,?_⟩
   obtain ⟨i',j',e,i1,j1⟩:=h.mem _ hy
   simp only [Prod.mk.injEq] at e
   obtain ⟨_,_,rfl⟩:=e
   obtain ⟨_,v,u',a1,a2,a3⟩:=(h.has x.toNat j h3 hj).1 hy
   rw [hu1] at a2
   have:=sInj a2
   have:u'=u:=by omega
   subst this
   exact ⟨v,a1,by simpa using nbp_sym hG a3⟩
  rintro ⟨h1,h3,v,a1,a3⟩
  refine ⟨h1,h3,0,?_⟩
  refine (h.has x.toNat j h3 hj).2 ⟨trivial,v,u,a1,hu1,nbp_sym hG (by simpa using a3)⟩
 rw [List.getElem?_eq_none (by simp [packE]; omega),List.getElem?_eq_none (by simp [tabE]; omega)]
theorem rseparate_ok {adj:List LI} (hG:Gr adj) (hn:adj.length≤30):∃ side ch,Sep adj side ch∧dissect_separate adj=some (lA adj.length ch side,lB adj.length ch side,lS adj.length ch)∧sparseref18_Separate adj=some (lA adj.length ch side,lB adj.length ch side,lS adj.length ch,0):=by
 classical
 obtain ⟨side,ch,hSep,hp⟩:=separate_ok hG hn
 refine ⟨side,ch,hSep,hp,?_⟩
 obtain ⟨side',b1,b2,b3,b4⟩:=side2_ok hG hn
 have:=hSep.bs
 rw [b1] at this
 have:=sInj this
 simp only [Prod.mk.injEq,and_true] at this
 subst this
 obtain ⟨_,hrc,hz⟩:∃ e,sparseref12_Check adj=some e∧e=0:=by
  obtain ⟨e,q1,q2⟩:=rcheck_p (by omega) (adj:=adj) ⟨by omega,fun l hl=>by obtain ⟨i,hi,rfl⟩:=List.getElem_of_mem hl; have:=hG.len (gEq hi); omega⟩
  rcases q2 with ⟨h1,_⟩ | ⟨_,h1⟩
  ·exact ⟨e,q1,h1⟩
  exact absurd hG h1
 subst hz
 have l1:=bor_len adj side' 0
 have l2:=bor_len adj side' 1
 have r1:∀ s x,x∈bor adj side' s→0≤x∧x < (adj.length:Int):=fun s x hx=>by have:=bor_mem.1 hx; omega
 obtain ⟨L,f1,f2,f3⟩:=ents_out hG (by omega) (rs:=bor adj side' 0) (cs:=bor adj side' 1) (by omega) (by omega) (r1 0) (r1 1)
 have hpt:=pack_tab hG (r1 0) (r1 1) f3
 have hEn:En (bor adj side' 0).length (bor adj side' 1).length L:=by
  refine ⟨fun e he=>?_,fun e he=>?_,fun e he=>?_⟩<;>obtain ⟨i,j,rfl,hi,hj⟩:=f3.mem e he
  ·exact ⟨by simp,by simp; omega⟩
  ·exact ⟨by simp,by simp; omega⟩
  exact zero_fin
 obtain ⟨st,ix,vl,k1,k2⟩:=pack_ok (by omega) (by omega) (by omega) hEn
 rw [hpt] at k2
 have hixl:ix.length≤10000:=by
  rw [k2.ixe]
  have h1:=flat_cols adj (bor adj side' 0) (bor adj side' 1)
  have h2:(bor adj side' 1).length*(bor adj side' 0).length≤100*100:=Nat.mul_le_mul (by omega) (by omega)
  omega
 obtain ⟨a,b,rows,cols,mm,c1,c2,c3⟩:=hSep.cv.mt
 have hcv:=fcover_ok k2 (by omega) (by omega) hixl k2.rf (c1 st ix vl k2 hixl) c2
 have hrl:=c2.rch.rl
 have hcl:=c2.rch.cl
 have q1:=coll_len (tm:=fun i=>rows[i]?=some true) rows.length
 have q2:=coll_len (tm:=fun i=>cols[i]?=some false) cols.length
 obtain ⟨ch1,p1,p2,p3⟩:=mark_rows (r:=(coll (fun i=>rows[i]?=some true) rows.length,coll (fun i=>cols[i]?=some false) cols.length,0)) (rs:=bor adj side' 0) (n:=adj.length) (by simp only; omega) (fun x hx=>by have:=(coll_mem _).1 hx; omega) (r1 0) (ch:=List.replicate adj.length false) (by simp)
 obtain ⟨ch2,s1,s2,s3⟩:=mark_cols (r:=(coll (fun i=>rows[i]?=some true) rows.length,coll (fun i=>cols[i]?=some false) cols.length,0)) (rs:=bor adj side' 1) (n:=adj.length) (by simp only; omega) (fun x hx=>by have:=(coll_mem _).1 hx; omega) (r1 1) (ch:=ch1) p2
 have hch:ch2=ch:=by
  refine tr_ext (s2.trans hSep.cv.len.symm) fun v=>?_
  rw [c3,s3,p3]
  constructor
  ·rintro ((h | ⟨i,i1,i2⟩) | ⟨j,j1,j2⟩)
   ·have:=List.eq_of_mem_replicate (mem_get h)
    cases this
   ·obtain ⟨h1,h2,h3⟩:=(coll_mem _).1 i1
    exact .inl ⟨i.toNat,h3,i2⟩
   obtain ⟨h1,h2,h3⟩:=(coll_mem _).1 j1
   exact .inr ⟨j.toNat,h3,j2⟩
  rintro (⟨i,i1,i2⟩ | ⟨j,j1,j2⟩)
  ·have:=(List.getElem?_eq_some_iff.1 i1).1
   exact .inl (.inr ⟨i,(coll_mem _).2 ⟨by omega,by simpa using this,i1⟩,by simpa using i2⟩)
  have:=(List.getElem?_eq_some_iff.1 j1).1
  exact .inr ⟨j,(coll_mem _).2 ⟨by omega,by simpa using this,j1⟩,by simpa using j2⟩
 subst hch
 have p1':loop (sparseref18_Separate_l10 (coll (fun i=>rows[i]?=some true) rows.length,coll (fun i=>cols[i]?=some false) cols.length,0) (bor adj side' 0)) (List.replicate adj.length false,0)=some ch1:=p1
 have s1':loop (sparseref18_Separate_l11 (coll (fun i=>rows[i]?=some true) rows.length,coll (fun i=>cols[i]?=some false) cols.length,0) (bor adj side' 1)) (ch1,0)=some ch2:=s1
 have hS:sparseref13_Chosen ch2 true=some (lS adj.length ch2):=by
  rw [fchosen_ok (by omega),s2]
  congr 1
  unfold lS
  refine asc_unique (coll_asc _) (coll_asc _) fun x=>?_
  rw [coll_mem,coll_mem]
  rfl
 have h1:loop (sparseref18_Separate_l18 (side',0) ch2) ([],[],0)=some (lA adj.length ch2 side',lB adj.length ch2 side'):=by
  refine Ret.eq ?_
  refine ret_loop adj.length (fun k (t:LI×LI×Int)=>t=(coll (isA ch2 side') k,coll (isB ch2 side') k,(k:Int))) rfl ?_
  rintro k _ hk rfl
  unfold sparseref18_Separate_l18 sparseref18_Separate_j21 sparseref18_Separate_j20
  simp only
  by_cases hkn:k < adj.length
  ·have hw:wa .i64 (k:Int) 1=((k+1:Nat):Int):=wa1 (by omega)
   have hsd:getI side' (k:Int)=some (sd side' k):=sd_at b3 hkn
   have ca:=coll_len (tm:=isA ch2 side') k
   have cb:=coll_len (tm:=isB ch2 side') k
   have ck:ch2[k]?=some ch2[k]:=gEq (by omega)
   rw [if_pos (by omega),bindS (getI_lt (by omega)),hw]
   by_cases hc:ch2[k]=true
   ·have ht:tr ch2 k:=by unfold tr; rw [ck,hc]
    rw [if_pos hc,ret_some,vq_l]
    refine ⟨hkn,?_⟩
    rw [coll_f (p:=isA ch2 side') (fun h=>h.1 ht),coll_f (p:=isB ch2 side') (fun h=>h.1 ht)]
   have ht:¬ tr ch2 k:=by unfold tr; rw [ck]; intro h; exact hc (sInj h)
   rw [if_neg hc,bindS hsd]
   by_cases h0:sd side' k=0
   ·rw [if_pos h0,bindS (app_small (by simp; omega)),ret_some,vq_l]
    refine ⟨hkn,?_⟩
    rw [coll_t (p:=isA ch2 side') ⟨ht,h0⟩,coll_f (p:=isB ch2 side') (fun h=>h.2 h0)]
   rw [if_neg h0,bindS (app_small (by simp; omega)),ret_some,vq_l]
   refine ⟨hkn,?_⟩
   rw [coll_f (p:=isA ch2 side') (fun h=>h0 h.2),coll_t (p:=isB ch2 side') ⟨ht,h0⟩]
  rw [if_neg (by omega),ret_some,vq_r,show k=adj.length by omega]
  rfl
 unfold sparseref18_Separate
 rw [bindS hrc,if_pos rfl,bindS (rones_ok hG (by omega))]
 simp only
 rw [bindS b2]
 simp only
 rw [bindS (rborder_ok hG (by omega) b3 0),bindS (rborder_ok hG (by omega) b3 1),bindS f1,bindS k1]
 simp only
 rw [bindS hcv,b3,bindS (mkL_nat false adj.length (by omega)),bindS p1',bindS s1',bindS hS,bindS h1]
end Km
/- The paper's minimum degree order: as the program's. -/
namespace Km
open Pl Sx Go M Vc Pd Pu
theorem rcheck_ok {adj:List LI} (hG:Gr adj) (hn:adj.length≤200):sparseref12_Check adj=some 0:=by
 obtain ⟨e,q1,q2⟩:=rcheck_p (by omega) (adj:=adj) ⟨by omega,fun l hl=>by obtain ⟨i,hi,rfl⟩:=List.getElem_of_mem hl; have:=hG.len (gEq hi); omega⟩
 rcases q2 with ⟨rfl,_⟩ | ⟨_,h1⟩
 ·exact q1
 exact absurd hG h1
def lv (R:Nat→Nat→Prop) (g:BL) (v w:Nat):Prop:=R v w∧gn_ g w=false
open Classical in
theorem rnb_ok {n:Nat} (hn:n≤200) {T:List BL} {R:Nat→Nat→Prop} (hT:Tr T n R) {g:BL} (hg:g.length=n) {v:Nat} (hv:v < n):sparseref16_Elimination_Neighbours T g (v:Int)=some (coll (lv R g v) n):=by
 have hTl:=hT.1
 obtain ⟨r,g1,g2,g3,g4⟩:=hT.row hv
 have h1:loop (sparseref16_Elimination_Neighbours_l5 T (v:Int) g) ([],0)=some (coll (lv R g v) n):=by
  refine Ret.eq ?_
  refine ret_loop n (fun k (t:LI×Int)=>t=(coll (lv R g v) k,(k:Int))) rfl ?_
  rintro k _ hk rfl
  unfold sparseref16_Elimination_Neighbours_l5 sparseref16_Elimination_Neighbours_j7
  simp only
  by_cases hkn:k < n
  ·have hw:wa .i64 (k:Int) 1=((k+1:Nat):Int):=wa1 (by omega)
   obtain ⟨b,b1,b2⟩:=g4 k hkn
   have b1':getI r (k:Int)=some b:=b1
   have hgk:g[k]?=some g[k]:=gEq (by omega)
   have hgn:gn_ g k=g[k]:=by unfold gn_; rw [hgk]; rfl
   have hcl:=coll_len (tm:=lv R g v) k
   rw [if_pos (by omega),bindS g1,bindS b1',hw]
   cases b with
   | true=>
    rw [if_pos rfl,bindS (getI_lt (by omega)),obs]
    by_cases hc:g[k]=false
    ·rw [if_pos (by simp [hc]),bindS (app_small (by simp; omega)),ret_some,vq_l]
     refine ⟨hkn,?_⟩
     rw [coll_t (p:=lv R g v) ⟨b2.1 rfl,by rw [hgn,hc]⟩]
    rw [if_neg (by simpa using hc),ret_some,vq_l]
    refine ⟨hkn,?_⟩
    rw [coll_f (p:=lv R g v) (fun h=>hc (by rw [← hgn]; exact h.2))]
   | false=>
    rw [if_neg (by simp),obs,if_neg (by simp),ret_some,vq_l]
    refine ⟨hkn,?_⟩
    rw [coll_f (p:=lv R g v) (fun h=>by have:=b2.2 h.1; cases this)]
  rw [if_neg (by omega),ret_some,vq_r,show k=n by omega]
 unfold sparseref16_Elimination_Neighbours
 rw [bindS h1]
theorem rjoins_ok {n:Nat} (hn:n≤200) {T:List BL} {R:Nat→Nat→Prop} (hT:Tr T n R) {l:LI} (hl:l.length≤n) (hr:∀ x,x∈l→0≤x∧x < (n:Int)) {k:Nat} (hk:k < l.length) (hd:l.Nodup):
  Ret (loop (sparseref16_Elimination_Eliminate_l12 l (k:Int)) (T,0)) (fun T'=>Tr T' n (fun a c=>R a c∨((a:Int)=l[k]∧(c:Int)∈l∧(c:Int)≠l[k]))):=by
 refine ret_loop l.length (fun m (t:List BL×Int)=>t.2=(m:Int)∧Tr t.1 n (fun a c=>R a c∨((a:Int)=l[k]∧(c:Int)∈l.take m∧(c:Int)≠l[k]))) ⟨rfl,Tr.congr (fun a c _ _=>by simp) hT⟩ ?_
 rintro m ⟨U,t⟩ hm ⟨e1,hU⟩
 simp only at e1 hU
 subst e1
 unfold sparseref16_Elimination_Eliminate_l12 sparseref16_Elimination_Eliminate_j13
 simp only
 have hi:=hr _ (List.getElem_mem hk)
 obtain ⟨i,hie⟩:∃ i:Nat,l[k]=(i:Int):=⟨l[k].toNat,by omega⟩
 by_cases hml:m < l.length
 ·have hw2:wa .i64 (m:Int) 1=((m+1:Nat):Int):=wa1 (by omega)
  have hx:=hr _ (List.getElem_mem hml)
  obtain ⟨u,hu⟩:∃ u:Nat,l[m]=(u:Int):=⟨l[m].toNat,by omega⟩
  have hmu:l[m]?=some (u:Int):=by rw [gEq hml,hu]
  rw [if_pos (by omega),hw2]
  by_cases hkm:k=m
  ·subst hkm
   rw [if_pos rfl,ret_some,vq_l]
   refine ⟨hml,rfl,Tr.congr (fun a c _ _=>?_) hU⟩
   rw [mts hmu,hie]
   have hiu:i=u:=by omega
   constructor
   ·rintro (h | ⟨h1,h2,h3⟩)
    ·exact .inl h
    exact .inr ⟨h1,.inl h2,h3⟩
   rintro (h | ⟨h1,h2 | h2,h3⟩)
   ·exact .inl h
   ·exact .inr ⟨h1,h2,h3⟩
   omega
  have hne:i≠u:=by
   rintro rfl
   exact hkm (nodup_inj hd (hie.trans hu.symm))
  obtain ⟨r,a1,a2,a3,_⟩:=hU.row (i:=i) (by omega)
  have hV:=hU.put (j:=u) (by omega) a2 (z:=true) (p:=True) (by simp)
  have hUl:=hU.1
  rw [if_neg (by omega),bindS (getI_lt hk),hie,bindS a1,bindS (getI_lt hml),hu,bindS (setI_lt (by omega)),bindS (setI_lt (by omega)),ret_some,vq_l]
  refine ⟨hml,rfl,Tr.congr (fun a c ha hc=>?_) hV⟩
  rw [mts hmu,hie]
  by_cases hac:a=i∧c=u
  ·obtain ⟨rfl,rfl⟩:=hac
   simp only [mem_get hmu,true_and,not_true_eq_false,false_and,or_false,true_iff]
   exact .inr ⟨.inr trivial,by omega⟩
  have h5:¬ ((a:Int)=(i:Int)∧(c:Int)=(u:Int)):=fun h=>hac ⟨by omega,by omega⟩
  constructor
  ·rintro (⟨h1,h2,_⟩ | ⟨_,h | ⟨h1,h2,h3⟩⟩)
   ·exact absurd ⟨h1,h2⟩ hac
   ·exact .inl h
   exact .inr ⟨h1,.inl h2,h3⟩
  rintro (h | ⟨h1,h2 | h2,h3⟩)
  ·exact .inr ⟨hac,.inl h⟩
  ·exact .inr ⟨hac,.inr ⟨h1,h2,h3⟩⟩
  exact absurd ⟨h1,h2⟩ h5
 rw [if_neg (by omega),ret_some,vq_r]
 rw [take_all (by omega)] at hU
 exact hU
open Classical in
theorem reliminate_ok {n:Nat} (hn:n≤200) {T:List BL} {R:Nat→Nat→Prop} (hT:Tr T n R) {g:BL} (hg:g.length=n) {v:Nat} (hv:v < n):
  ∃ T',sparseref16_Elimination_Eliminate T g (v:Int)=some (T',g.set v true)∧Tr T' n (fun a c=>R a c∨(a≠c∧lv R g v a∧lv R g v c)):=by
 have hnb:=rnb_ok hn hT hg hv
 have hm:∀ u:Nat,(u:Int)∈coll (lv R g v) n↔u < n∧lv R g v u:=fun u=>by rw [coll_mem]; simp
 have hlr:∀ x,x∈coll (lv R g v) n→0≤x∧x < (n:Int):=fun x hx=>by have:=(coll_mem _).1 hx; omega
 have hln:=coll_len (tm:=lv R g v) n
 have hnd:(coll (lv R g v) n).Nodup:=asc_nodup (coll_asc _)
 generalize coll (lv R g v) n=l at hnb hm hlr hln hnd
 have h1:Ret (loop (sparseref16_Elimination_Eliminate_l9 l) (T,0)) (fun T'=>Tr T' n (fun a c=>R a c∨(a≠c∧lv R g v a∧lv R g v c))):=by
  refine ret_loop l.length (fun k (t:List BL×Int)=>t.2=(k:Int)∧Tr t.1 n (fun a c=>R a c∨(a≠c∧(a:Int)∈l.take k∧(c:Int)∈l))) ⟨rfl,Tr.congr (fun a c _ _=>by simp) hT⟩ ?_
  rintro k ⟨U,t⟩ hk ⟨e1,hU⟩
  simp only at e1 hU
  subst e1
  unfold sparseref16_Elimination_Eliminate_l9
  simp only
  by_cases hkl:k < l.length
  ·have hw:wa .i64 (k:Int) 1=((k+1:Nat):Int):=wa1 (by omega)
   rw [if_pos (by omega),ret_bind]
   refine ret_call (rjoins_ok hn hU hln hlr hkl hnd) ?_
   intro V hV
   rw [hw,ret_some,vq_l]
   refine ⟨hkl,rfl,Tr.congr (fun a c _ _=>?_) hV⟩
   rw [mts (gEq hkl)]
   constructor
   ·rintro ((h | ⟨h1,h2,h3⟩) | ⟨h1,h2,h3⟩)
    ·exact .inl h
    ·exact .inr ⟨h1,.inl h2,h3⟩
    exact .inr ⟨by rintro rfl; exact h3 h1,.inr h1,h2⟩
   rintro (h | ⟨h1,h2 | h2,h3⟩)
   ·exact .inl (.inl h)
   ·exact .inl (.inr ⟨h1,h2,h3⟩)
   exact .inr ⟨h2,h3,by omega⟩
  rw [if_neg (by omega),ret_some,vq_r]
  rw [take_all (by omega)] at hU
  refine Tr.congr (fun a c ha hc=>?_) hU
  rw [hm,hm]
  exact ⟨fun h=>h.imp id fun ⟨h1,h2,h3⟩=>⟨h1,h2.2,h3.2⟩,fun h=>h.imp id fun ⟨h1,h2,h3⟩=>⟨h1,⟨ha,h2⟩,hc,h3⟩⟩
 obtain ⟨T',t1,t2⟩:=h1
 refine ⟨T',?_,t2⟩
 unfold sparseref16_Elimination_Eliminate
 rw [bindS hnb,bindS t1,bindS (setI_lt (by omega))]
structure Rxo (adj:List LI) (k:Nat) (T:List BL) (g:BL) (out:LI) (R R':Nat→Nat→Prop):Prop where
 t:Tr T adj.length R'
 s:Sy adj.length R
 gl:g.length=adj.length
 ol:out.length=k
 nd:out.Nodup
 rg:∀ x,x∈out→0≤x∧x < (adj.length:Int)
 go:∀ v,v < adj.length→(gn_ g v=true↔(v:Int)∈out)
 rr:∀ a c,a < adj.length→c < adj.length→(R a c↔R' a c∧gn_ g a=false∧gn_ g c=false)
 eq:mdo adj=out++mdg adj.length (adj.length - k) (R,gn_ g)
open Classical in
theorem rbest_ok {adj:List LI} {n:Nat} (hl:adj.length=n) (hn:n≤200) {T:List BL} {R R':Nat→Nat→Prop} (hT:Tr T n R') {g:BL} (hg:g.length=n) (hr:∀ a c,a < n→c < n→(R a c↔R' a c∧gn_ g a=false∧gn_ g c=false)):
  loop (sparseref16_Exact_l36 adj T g) (-1,0,0)=some (pick n R (gn_ g) n).1:=by
 refine Ret.eq ?_
 refine ret_loop n (fun k (t:Int×Int×Int)=>t=((pick n R (gn_ g) k).1,(pick n R (gn_ g) k).2,(k:Int))) rfl ?_
 rintro k _ hk rfl
 unfold sparseref16_Exact_l36 sparseref16_Exact_j40
 simp only
 by_cases hkn:k < n
 ·have hw:wa .i64 (k:Int) 1=((k+1:Nat):Int):=wa1 (by omega)
  have hgk:g[k]?=some g[k]:=gEq (by omega)
  have hgn:gn_ g k=g[k]:=by unfold gn_; rw [hgk]; rfl
  rw [if_pos (by omega),bindS (rnb_ok hn hT hg hkn),bindS (getI_lt (by omega)),hw]
  by_cases hc:gn_ g k=false
  ·have hd:coll (lv R' g k) n=coll (fun w=>R k w) n:=by
    refine asc_unique (coll_asc _) (coll_asc _) fun x=>?_
    rw [coll_mem,coll_mem]
    constructor
    ·rintro ⟨h1,h2,h3,h4⟩; exact ⟨h1,h2,(hr k _ hkn h2).2 ⟨h3,hc,h4⟩⟩
    rintro ⟨h1,h2,h3⟩
    have:=(hr k _ hkn h2).1 h3
    exact ⟨h1,h2,this.1,this.2.2⟩
   rw [hd]
   have hd2:((coll (fun w=>R k w) n).length:Int)=(deg n R k:Int):=rfl
   rw [hd2]
   by_cases hc2:(pick n R (gn_ g) k).1 < 0∨(deg n R k:Int) < (pick n R (gn_ g) k).2
   ·rw [if_pos (by rw [hgn] at hc; simpa [hc] using hc2),ret_some,vq_l]
    refine ⟨hkn,?_⟩
    rw [pick,if_pos ⟨hc,hc2⟩]
   rw [if_neg (by rw [hgn] at hc; simpa [hc] using hc2),ret_some,vq_l]
   refine ⟨hkn,?_⟩
   rw [pick,if_neg (fun h=>hc2 h.2)]
  rw [if_neg (by rw [hgn] at hc; simp [hc]),ret_some,vq_l]
  refine ⟨hkn,?_⟩
  rw [pick,if_neg (fun h=>hc h.1)]
 rw [if_neg (by omega),ret_some,vq_r,show k=n by omega]
theorem rexact_ok {adj:List LI} (hG:Gr adj) (hn:adj.length≤200):sparseref16_Exact adj=some (mdo adj,0):=by
 obtain ⟨T,t1,t2⟩:=rtable_ok hG (by omega)
 have hS:Sy adj.length (nbp adj):=⟨fun i j _ _ h=>nbp_sym hG h,fun i hi ⟨l,l1,l2⟩=>(hG.rng i l i l1 l2).2.2 rfl⟩
 have hg0:∀ v,v < adj.length→gn_ (List.replicate adj.length false) v=false:=fun v hv=>by simp [gn_,hv]
 have h1:loop (sparseref16_Exact_l27 adj) (T,List.replicate adj.length false,[])=some (mdo adj):=by
  refine Ret.eq ?_
  refine ret_loop adj.length (fun k (t:List BL×BL×LI)=>∃ R R',Rxo adj k t.1 t.2.1 t.2.2 R R') ⟨_,_,t2,hS,by simp,rfl,by simp,fun x hx=>by simp at hx,fun v hv=>by simp [hg0 v hv],fun a c ha hc=>by simp [hg0 a ha,hg0 c hc],rfl⟩ ?_
  rintro k ⟨U,g,out⟩ hk ⟨R,R',hX⟩
  simp only at hX
  unfold sparseref16_Exact_l27
  simp only
  have hgl:=hX.gl
  have hol:=hX.ol
  by_cases hkn:k < adj.length
  ·obtain ⟨u,hu1,hu2⟩:∃ u,u < adj.length∧(u:Int)∉out:=by
    refine Classical.byContradiction fun hno=>?_
    have:=nodup_full hX.nd hX.rg (fun v hv=>Classical.byContradiction fun h=>hno ⟨v,hv,h⟩)
    omega
   have hgu:gn_ g u=false:=by
    cases h:gn_ g u with
    | false=>rfl
    | true=>exact absurd ((hX.go u hu1).1 h) hu2
   have hp:=pick_some (n:=adj.length) (R:=R) (gone:=gn_ g) adj.length u hu1 hgu
   rcases pick_rng (n:=adj.length) (R:=R) (gone:=gn_ g) adj.length with h | ⟨v,p1,p2,p3⟩
   ·omega
   have hvo:(v:Int)∉out:=fun h=>by have:=(hX.go v p2).2 h; rw [p3] at this; cases this
   obtain ⟨T',q1,q2⟩:=reliminate_ok hn hX.t hgl p2
   have hgs:=gn_set (g:=g) (v:=v) (by omega)
   rw [if_pos (by omega),bindS (rbest_ok rfl hn hX.t hgl hX.rr),p1,bindS q1,bindS (app_small (by simp; omega)),ret_some,vq_l]
   refine ⟨hkn,elim R v,_,q2,hX.s.elim,by simp [hgl],by simp [hol],?_,fun x hx=>?_,fun w hw=>?_,fun a c ha hc=>?_,?_⟩
   ·rw [List.nodup_append]
    exact ⟨hX.nd,by simp,fun x hx y hy e=>by simp at hy; subst hy; subst e; exact hvo hx⟩
   ·rcases List.mem_append.1 hx with hx | hx
    ·exact hX.rg x hx
    simp at hx; omega
   ·have:=hX.go w hw
    simp only
    rw [List.mem_append,← this,List.mem_singleton,hgs]
    simp only [Bool.or_eq_true,beq_iff_eq]
    constructor
    ·rintro (h | h)
     ·exact .inr (by omega)
     exact .inl h
    rintro (h | h)
    ·exact .inr h
    exact .inl (by omega)
   ·simp only
    rw [hgs]
    have r1:=hX.rr a c ha hc
    have r2:=hX.rr v a p2 ha
    have r3:=hX.rr v c p2 hc
    unfold elim lv
    simp only [Bool.or_eq_false_iff,beq_eq_false_iff_ne,ne_eq]
    rw [r1,r2,r3]
    simp only [p3,true_and]
    constructor
    ·rintro ⟨h1,h2,⟨h3,h4,h5⟩ | ⟨h3,⟨h4,h5⟩,h6,h7⟩⟩
     ·exact ⟨.inl h3,⟨h1,h4⟩,h2,h5⟩
     exact ⟨.inr ⟨h3,⟨h4,h5⟩,h6,h7⟩,⟨h1,h5⟩,h2,h7⟩
    rintro ⟨h3 | ⟨h3,⟨h4,h5⟩,h6,h7⟩,⟨h1,h8⟩,h2,h9⟩
    ·exact ⟨h1,h2,.inl ⟨h3,h8,h9⟩⟩
    exact ⟨h1,h2,.inr ⟨h3,⟨h4,h5⟩,h6,h7⟩⟩
   simp only
   rw [hX.eq,show adj.length - k=(adj.length - (k+1))+1 by omega,mdg,p1,hgs,List.append_assoc]
   rfl
  rw [if_neg (by omega),ret_some,vq_r,hX.eq,show adj.length - k=0 by omega,mdg,List.append_nil]
 unfold sparseref16_Exact sparseref16_Begin
 rw [bindS (rcheck_ok hG hn),if_pos rfl,bindS t1,bindS (mkL_nat false adj.length (by omega)),obs]
 simp only
 rw [bindS h1]
end Km
/- The checks of a separator: the program's and the paper's. -/
namespace Km
open Pl Sx Go M Vc Pd Pu
theorem search_loop {step:Int→Option (Int⊕(Unit⊕Unit))} (n:Nat) (hn:n≤1000000) (P:Nat→Prop) (h:∀ k:Nat,k < n→Ret (step (k:Int)) (fun o=>(o=.inl ((k+1:Nat):Int)∧¬ P k)∨(o=.inr (.inr ())∧P k))) (he:step (n:Int)=some (.inr (.inl ()))):
  Ret (loop step 0) (fun o=>(o=.inl ()∧∀ k,k < n→¬ P k)∨(o=.inr ()∧∃ k,k < n∧P k)):=by
 refine ret_loop n (fun k (t:Int)=>t=(k:Int)∧∀ i,i < k→¬ P i) ⟨rfl,fun i hi=>by omega⟩ ?_
 rintro k _ hk ⟨rfl,hp⟩
 by_cases hkn:k < n
 ·refine (h k hkn).mono ?_
  rintro o (⟨rfl,h1⟩ | ⟨rfl,h1⟩)
  ·refine ⟨hkn,rfl,fun i hi=>?_⟩
   by_cases hik:i=k
   ·subst hik; exact h1
   exact hp i (by omega)
  exact .inr ⟨rfl,k,hkn,h1⟩
 have:k=n:=by omega
 subst this
 rw [he,ret_some,vq_r]
 exact .inl ⟨rfl,hp⟩
structure Pt (n:Nat) (L:List LI) (out:LI):Prop where
 len:out.length=n
 at_:∀ v,v < n→∃ x,out[v]?=some x∧((x= -1∧∀ l,l∈L→(v:Int)∉l)∨∃ (i:Nat) (l:LI),x=(i:Int)∧L[i]?=some l∧(v:Int)∈l)
def PP (n:Nat) (L:List LI):Prop:=(∀ l,l∈L→Asn l n)∧L.flatten.Nodup
theorem PP.snoc {n:Nat} {L:List LI} {l:LI}:PP n (L++[l])↔PP n L∧Asn l n∧∀ y,y∈l→y∉L.flatten:=by
 unfold PP
 rw [List.flatten_append,List.nodup_append]
 simp only [List.mem_append,List.mem_singleton,List.flatten_cons,List.flatten_nil,List.append_nil]
 constructor
 ·rintro ⟨h1,h2,h3,h4⟩
  exact ⟨⟨fun m hm=>h1 m (.inl hm),h2⟩,h1 l (.inr rfl),fun y hy h5=>h4 y h5 y hy rfl⟩
 rintro ⟨⟨h1,h2⟩,h3,h4⟩
 refine ⟨fun m hm=>?_,h2,asc_nodup h3.1,fun x hx y hy e=>?_⟩
 ·rcases hm with hm | rfl
  ·exact h1 m hm
  exact h3
 subst e; exact h4 x hy hx
theorem parts_in {n:Nat} (hn:n≤1000) {L:List LI} {out:LI} (hP:Pt n L out) {l:LI} (hl:l.length≤1000) {c:Int} (hc:0≤c∧c≤100000):
  Ret (loop (dissect_parts_l20 l (n:Int) (L.length:Int)) (out,c,-1,0)) (fun o=>(o=.inr ()∧¬ (Asn l n∧∀ y,y∈l→y∉L.flatten))∨(∃ out',o=.inl (out',c+l.length)∧Asn l n∧(∀ y,y∈l→y∉L.flatten)∧Pt n (L++[l]) out')):=by
 have hol:=hP.len
 refine ret_loop l.length (fun k (t:LI×Int×Int×Int)=>t.2.2.2=(k:Int)∧t.2.1=c+k∧t.1.length=n∧Asn (l.take k) n∧(∀ y,y∈l.take k→y∉L.flatten)∧(∀ y,y∈l.take k→y≤t.2.2.1)∧(t.2.2.1= -1∨t.2.2.1∈l.take k)∧∀ v,v < n→∃ x,t.1[v]?=some x∧((x= -1∧(∀ m,m∈L→(v:Int)∉m)∧(v:Int)∉l.take k)∨(∃ (i:Nat) (m:LI),x=(i:Int)∧L[i]?=some m∧(v:Int)∈m)∨(x=(L.length:Int)∧(v:Int)∈l.take k)))
  ⟨rfl,by simp,hol,⟨by simp,by simp⟩,by simp,by simp,.inl rfl,fun v hv=>?_⟩ ?_
 ·obtain ⟨x,x1,x2⟩:=hP.at_ v hv
  refine ⟨x,x1,?_⟩
  rcases x2 with ⟨h1,h2⟩ | h2
  ·exact .inl ⟨h1,h2,by simp⟩
  exact .inr (.inl h2)
 rintro k ⟨o,c',la,t⟩ hk ⟨e1,e2,e3,e4,e5,e6,e7,e8⟩
 simp only at e1 e2 e3 e4 e5 e6 e7 e8
 subst e1; subst e2
 unfold dissect_parts_l20
 simp only
 by_cases hkl:k < l.length
 ·have hw:wa .i64 (k:Int) 1=((k+1:Nat):Int):=wa1 (by omega)
  have hw2:wa .i64 (c+k) 1=c+((k+1:Nat):Int):=by rw [wa_in (by constructor<;>omega)]; omega
  have hg:l[k]?=some l[k]:=gEq hkl
  rw [if_pos (by omega),bindS (getI_lt hkl)]
  by_cases hb:l[k]≤la∨(n:Int)≤l[k]
  ·rw [if_pos (by simpa using hb),obs,if_pos rfl,ret_some,vq_r]
   refine .inl ⟨rfl,fun hA=>?_⟩
   have h1:=hA.1.2 _ (List.getElem_mem hkl)
   rcases hb with hb | hb
   ·rcases e7 with rfl | h7
    ·omega
    have:=(Asn.snoc.1 (tks hg▸hA.1.take (k+1))).2.1 _ h7
    omega
   omega
  simp only [not_or,Int.not_le] at hb
  have hla: -1≤la:=by
   rcases e7 with rfl | h7
   ·omega
   have:=e4.2 _ h7; omega
  obtain ⟨v,hv⟩:∃ v:Nat,l[k]=(v:Int):=⟨l[k].toNat,by omega⟩
  obtain ⟨x,x1,x2⟩:=e8 v (by omega)
  have x1':getI o (v:Int)=some x:=x1
  have hvt:(v:Int)∉l.take k:=fun h=>by have:=e6 _ h; omega
  rw [if_neg (by simp; omega),hv,bindS x1',obs]
  by_cases hx:x= -1
  ·subst hx
   rw [decide_eq_true rfl,if_neg (by simp),bindS (setI_lt (by omega)),hw,hw2,ret_some,vq_l]
   have hnL:∀ m,m∈L→(v:Int)∉m:=by
    rcases x2 with ⟨_,h2,_⟩ | ⟨i,m,h1,_⟩ | ⟨h1,_⟩
    ·exact h2
    ·omega
    omega
   rw [hv] at hg
   refine ⟨hkl,rfl,rfl,by simp [e3],?_,fun y hy=>?_,fun y hy=>?_,.inr ((mts hg).2 (.inr rfl)),fun u hu=>?_⟩
   ·rw [tks hg]
    exact Asn.snoc.2 ⟨e4,fun y hy=>by have:=e6 y hy; omega,by omega,by omega⟩
   ·rcases (mts hg).1 hy with hy | rfl
    ·exact e5 y hy
    intro h
    obtain ⟨m,m1,m2⟩:=List.mem_flatten.1 h
    exact hnL m m1 m2
   ·rcases (mts hg).1 hy with hy | rfl
    ·have:=e6 y hy; simp only; omega
    exact Int.le_refl _
   simp only
   rw [List.getElem?_set]
   by_cases hvu:v=u
   ·subst hvu
    rw [if_pos rfl,if_pos (by omega)]
    exact ⟨_,rfl,.inr (.inr ⟨rfl,(mts hg).2 (.inr rfl)⟩)⟩
   rw [if_neg hvu]
   obtain ⟨z,z1,z2⟩:=e8 u hu
   refine ⟨z,z1,?_⟩
   rw [mts hg]
   rcases z2 with ⟨h1,h2,h3⟩ | h2 | ⟨h1,h2⟩
   ·exact .inl ⟨h1,h2,by rintro (h | h); exact h3 h; omega⟩
   ·exact .inr (.inl h2)
   exact .inr (.inr ⟨h1,.inl h2⟩)
  rw [decide_eq_false hx,if_pos (by rfl),ret_some,vq_r]
  refine .inl ⟨rfl,fun hA=>?_⟩
  rcases x2 with ⟨h1,_⟩ | ⟨i,m,h1,h2,h3⟩ | ⟨_,h1⟩
  ·exact hx h1
  ·exact hA.2 (v:Int) (hv▸List.getElem_mem hkl) (List.mem_flatten.2 ⟨m,List.mem_of_getElem? h2,h3⟩)
  exact hvt h1
 rw [if_neg (by omega),ret_some,vq_r]
 rw [take_all (by omega)] at e4 e5 e8
 have hkl2:k=l.length:=by omega
 subst hkl2
 refine .inr ⟨o,rfl,e4,e5,e3,fun v hv=>?_⟩
 obtain ⟨x,x1,x2⟩:=e8 v hv
 refine ⟨x,x1,?_⟩
 rcases x2 with ⟨h1,h2,h3⟩ | ⟨i,m,h1,h2,h3⟩ | ⟨h1,h2⟩
 ·refine .inl ⟨h1,fun m hm=>?_⟩
  rcases List.mem_append.1 hm with hm | hm
  ·exact h2 m hm
  simp at hm; subst hm; exact h3
 ·refine .inr ⟨i,m,h1,?_,h3⟩
  rw [List.getElem?_append_left (List.getElem?_eq_some_iff.1 h2).1]
  exact h2
 exact .inr ⟨L.length,l,h1,by simp,h2⟩
theorem parts_out {n:Nat} (hn:n≤1000) {L:List LI} (hL:L.length≤10) (hs:∀ l,l∈L→l.length≤1000):
  Ret (dissect_parts (n:Int) L) (fun r=>(r.2=false∧¬ PP n L)∨(PP n L∧r.2=decide (L.flatten.length=n)∧Pt n L r.1)):=by
 have hfl:∀ k,(L.take k).flatten.length≤1000*k:=by
  intro k
  induction k with
  | zero=>simp
  | succ k ih=>
   by_cases hk:k < L.length
   ·have e:(L.take (k+1)).flatten=(L.take k).flatten++L[k]:=by rw [tks (gEq hk),List.flatten_append]; simp only [List.flatten_cons,List.flatten_nil,List.append_nil]
    have:=hs _ (List.getElem_mem hk)
    have e2:(L.take (k+1)).flatten.length=(L.take k).flatten.length+L[k].length:=by rw [e,List.length_append]
    rw [e2]
    omega
   rw [take_all (by omega)]
   rw [take_all (by omega)] at ih
   omega
 have h1:Ret (loop (dissect_parts_l15 L (n:Int)) (List.replicate n (-1),0,0)) (fun o=>(o=.inr ()∧¬ PP n L)∨(∃ out,o=.inl (out,(L.flatten.length:Int))∧PP n L∧Pt n L out)):=by
  refine ret_loop L.length (fun k (t:LI×Int×Int)=>t.2.2=(k:Int)∧t.2.1=((L.take k).flatten.length:Int)∧PP n (L.take k)∧Pt n (L.take k) t.1) ⟨rfl,by simp,⟨by simp,by simp⟩,by simp,fun v hv=>⟨-1,by simp [hv],.inl ⟨rfl,by simp⟩⟩⟩ ?_
  rintro k ⟨o,c,t⟩ hk ⟨e1,e2,e3,e4⟩
  simp only at e1 e2 e3 e4
  subst e1; subst e2
  unfold dissect_parts_l15
  simp only
  by_cases hkl:k < L.length
  ·have hw:wa .i64 (k:Int) 1=((k+1:Nat):Int):=wa1 (by omega)
   have hg:L[k]?=some L[k]:=gEq hkl
   have hk2:=hfl k
   rw [if_pos (by omega),bindS (getI_lt hkl),ret_bind]
   have hin:=parts_in hn e4 (hs _ (List.getElem_mem hkl)) (c:=((L.take k).flatten.length:Int)) (by constructor<;>omega)
   rw [show (L.take k).length=k by rw [List.length_take]; omega] at hin
   refine ret_call hin ?_
   rintro r (⟨rfl,h1⟩ | ⟨out',rfl,h1,h2,h3⟩)
   ·simp only
    rw [ret_some,vq_r]
    refine .inl ⟨rfl,fun hP=>h1 ?_⟩
    have:PP n (L.take (k+1)):=by
     refine ⟨fun l hl=>hP.1 l (List.mem_of_mem_take hl),?_⟩
     have:=hP.2
     rw [← List.take_append_drop (k+1) L,List.flatten_append,List.nodup_append] at this
     exact this.1
    rw [tks hg] at this
    exact (PP.snoc.1 this).2
   simp only
   rw [hw,ret_some,vq_l]
   rw [← tks hg] at h3
   refine ⟨hkl,rfl,?_,?_,h3⟩
   ·simp only
    rw [tks hg,List.flatten_append,List.length_append]
    simp
   rw [tks hg]
   exact PP.snoc.2 ⟨e3,h1,h2⟩
  rw [if_neg (by omega),ret_some,vq_r]
  rw [take_all (by omega)] at e3 e4 ⊢
  exact .inr ⟨o,rfl,e3,e4⟩
 unfold dissect_parts
 rw [bindS (repeat_ok (by omega) _),ret_bind]
 refine ret_call h1 ?_
 rintro r (⟨rfl,h2⟩ | ⟨out,rfl,h2,h3⟩)
 ·simp only
  rw [ret_some]
  exact .inl ⟨rfl,h2⟩
 simp only
 rw [ret_some]
 refine .inr ⟨h2,?_,h3⟩
 simp only [decide_eq_decide]
 omega
def Good (adj:List LI) (A B S:LI):Prop:=PP adj.length [A,B,S]∧[A,B,S].flatten.length=adj.length∧¬ ∃ v u:Nat,nbp adj v u∧(v:Int)∈A∧(u:Int)∈B
theorem Pt.zero {n:Nat} {A B S out:LI} (hP:PP n [A,B,S]) (h:Pt n [A,B,S] out) {v:Nat} (hv:v < n):∃ x,out[v]?=some x∧(x=0↔(v:Int)∈A)∧(x=1↔(v:Int)∈B):=by
 have hd:=hP.2
 simp only [List.flatten_cons,List.flatten_nil,List.append_nil] at hd
 rw [List.nodup_append] at hd
 obtain ⟨_,hd2,hd3⟩:=hd
 rw [List.nodup_append] at hd2
 obtain ⟨_,_,hd4⟩:=hd2
 obtain ⟨x,x1,x2⟩:=h.at_ v hv
 refine ⟨x,x1,?_⟩
 rcases x2 with ⟨rfl,h2⟩ | ⟨i,l,rfl,h2,h3⟩
 ·exact ⟨⟨fun h=>by omega,fun h=>absurd h (h2 A (by simp))⟩,⟨fun h=>by omega,fun h=>absurd h (h2 B (by simp))⟩⟩
 rcases i with _ | _ | _ | i
 ·simp at h2; subst h2
  exact ⟨⟨fun _=>h3,fun _=>rfl⟩,⟨fun h=>by omega,fun h=>absurd rfl (hd3 _ h3 _ (List.mem_append.2 (.inl h)))⟩⟩
 ·simp at h2; subst h2
  exact ⟨⟨fun h=>by omega,fun h=>absurd rfl (hd3 _ h _ (List.mem_append.2 (.inl h3)))⟩,⟨fun _=>h3,fun _=>rfl⟩⟩
 ·simp at h2; subst h2
  exact ⟨⟨fun h=>by omega,fun h=>absurd rfl (hd3 _ h _ (List.mem_append.2 (.inr h3)))⟩,⟨fun h=>by omega,fun h=>absurd rfl (hd4 _ h _ h3)⟩⟩
 simp at h2
theorem dcheck_p {adj:List LI} (hG:Gr adj) (hn:adj.length≤200) {A B S:LI} (ha:A.length≤1000) (hb:B.length≤1000) (hs:S.length≤1000):Ret (dissect_Check adj A B S) (fun e=>(e=0∧Good adj A B S)∨(e=180∧¬ Good adj A B S)):=by
 unfold dissect_Check
 rw [bindS (graphCheck_ok hG hn),if_pos rfl,ret_bind]
 refine ret_call (parts_out (by omega) (by simp) (fun l hl=>by simp at hl; rcases hl with rfl | rfl | rfl<;>omega)) ?_
 rintro ⟨out,b⟩ (⟨h1,h2⟩ | ⟨h1,h2,h3⟩)
 ·simp only at h1
  subst h1
  simp only
  rw [if_neg (by simp),ret_some]
  exact .inr ⟨rfl,fun h=>h2 h.1⟩
 simp only at h2 h3
 simp only
 by_cases hle:[A,B,S].flatten.length=adj.length
 ·rw [h2,decide_eq_true hle,if_pos rfl,ret_bind]
  refine ret_call (search_loop adj.length (by omega) (fun v=>∃ u:Nat,nbp adj v u∧(v:Int)∈A∧(u:Int)∈B) (fun v hv=>?_) ?_) ?_
  ·have hl:adj[v]?=some adj[v]:=gEq hv
   have hll:=hG.len hl
   have hw:wa .i64 (v:Int) 1=((v+1:Nat):Int):=wa1 (by omega)
   obtain ⟨x,x1,x2,_⟩:=h3.zero h1 hv
   have x1':getI out (v:Int)=some x:=x1
   unfold dissect_Check_l9
   rw [if_pos (by omega),bindS (getI_lt hv),ret_bind]
   refine ret_call (search_loop adj[v].length (by omega) (fun m=>(v:Int)∈A∧∃ y,adj[v][m]?=some y∧y∈B) (fun m hm=>?_) ?_) ?_
   ·have hwm:wa .i64 (m:Int) 1=((m+1:Nat):Int):=wa1 (by omega)
    have hx:=hG.rng v _ _ hl (List.getElem_mem hm)
    obtain ⟨u,hu⟩:∃ u:Nat,adj[v][m]=(u:Int):=⟨adj[v][m].toNat,by omega⟩
    have hmu:adj[v][m]?=some (u:Int):=by rw [gEq hm,hu]
    obtain ⟨z,z1,_,z2⟩:=h3.zero h1 (v:=u) (by omega)
    have z1':getI out (u:Int)=some z:=z1
    unfold dissect_Check_l12
    simp only
    rw [if_pos (by omega),bindS (getI_lt hm),hu,bindS x1',hwm]
    have hP:((v:Int)∈A∧∃ y,adj[v][m]?=some y∧y∈B)↔x=0∧z=1:=by
     rw [x2,z2,hmu]
     constructor
     ·rintro ⟨h5,y,y1,y2⟩; cases y1; exact ⟨h5,y2⟩
     rintro ⟨h5,h6⟩; exact ⟨h5,_,rfl,h6⟩
    rw [hP]
    by_cases hx0:x=0
    ·rw [if_pos hx0,bindS z1',obs]
     by_cases hz1:z=1
     ·rw [decide_eq_true hz1,if_pos rfl,ret_some]
      exact .inr ⟨rfl,hx0,hz1⟩
     rw [decide_eq_false hz1,if_neg (by simp),ret_some]
     exact .inl ⟨rfl,fun h=>hz1 h.2⟩
    rw [if_neg hx0,obs,if_neg (by simp),ret_some]
    exact .inl ⟨rfl,fun h=>hx0 h.1⟩
   ·unfold dissect_Check_l12
    rw [if_neg (by omega)]
   rintro o (⟨rfl,h5⟩ | ⟨rfl,m,m1,h5,y,y1,y2⟩)
   ·simp only
    rw [hw,ret_some]
    refine .inl ⟨rfl,?_⟩
    rintro ⟨u,⟨l,l1,l2⟩,h6,h7⟩
    rw [hl] at l1; obtain rfl:=sInj l1
    obtain ⟨m,m1,m2⟩:=List.getElem_of_mem l2
    exact h5 m m1 ⟨h6,_,by rw [gEq m1,m2],h7⟩
   simp only
   rw [ret_some]
   have hx:=hG.rng v _ _ hl (mem_get y1)
   exact .inr ⟨rfl,y.toNat,⟨_,hl,by rw [Int.toNat_of_nonneg hx.1]; exact mem_get y1⟩,h5,by rw [Int.toNat_of_nonneg hx.1]; exact y2⟩
  ·unfold dissect_Check_l9
   rw [if_neg (by omega)]
  rintro o (⟨rfl,h5⟩ | ⟨rfl,v,v1,u,h5,h6,h7⟩)
  ·simp only
   rw [ret_some]
   refine .inl ⟨rfl,h1,hle,?_⟩
   rintro ⟨v,u,h6,h7,h8⟩
   have hv:v < adj.length:=by obtain ⟨l,l1,_⟩:=h6; exact (List.getElem?_eq_some_iff.1 l1).1
   exact h5 v hv ⟨u,h6,h7,h8⟩
  simp only
  rw [ret_some]
  exact .inr ⟨rfl,fun h=>h.2.2 ⟨v,u,h5,h6,h7⟩⟩
 rw [h2,decide_eq_false hle,if_neg (by simp),ret_some]
 exact .inr ⟨rfl,fun h=>hle h.2.1⟩
theorem edges_p {adj:List LI} (hG:Gr adj) (hn:adj.length≤200) {A B:LI} (hA:∀ x,x∈A→0≤x∧x < (adj.length:Int)) (hB:∀ x,x∈B→0≤x∧x < (adj.length:Int)) (ha:A.length≤1000) (hb:B.length≤1000):
  Ret (loop (sparseref18_Check_l6 A B adj) 0) (fun o=>(o=.inl ()∧¬ ∃ v u:Nat,nbp adj v u∧(v:Int)∈A∧(u:Int)∈B)∨(o=.inr ()∧∃ v u:Nat,nbp adj v u∧(v:Int)∈A∧(u:Int)∈B)):=by
 refine (search_loop A.length (by omega) (fun i=>∃ v u:Nat,A[i]?=some (v:Int)∧nbp adj v u∧(u:Int)∈B) (fun i hi=>?_) ?_).mono ?_
 ·have hw:wa .i64 (i:Int) 1=((i+1:Nat):Int):=wa1 (by omega)
  have hx:=hA _ (List.getElem_mem hi)
  obtain ⟨v,hv⟩:∃ v:Nat,A[i]=(v:Int):=⟨A[i].toNat,by omega⟩
  have hvi:A[i]?=some (v:Int):=by rw [gEq hi,hv]
  have hvi':getI A (i:Int)=some (v:Int):=hvi
  obtain ⟨l,hl⟩:∃ l,adj[v]?=some l:=⟨adj[v]'(by omega),by simp [show v < adj.length by omega]⟩
  have hl':getI adj (v:Int)=some l:=hl
  have hll:=hG.len hl
  unfold sparseref18_Check_l6
  rw [if_pos (by omega),ret_bind]
  refine ret_call (search_loop B.length (by omega) (fun k=>∃ y,B[k]?=some y∧y∈l) (fun k hk=>?_) ?_) ?_
  ·have hwk:wa .i64 (k:Int) 1=((k+1:Nat):Int):=wa1 (by omega)
   unfold sparseref18_Check_l7
   rw [if_pos (by omega),bindS hvi',bindS hl',bindS (getI_lt hk),bindS (in_dec (by omega)),hwk]
   by_cases hm:B[k]∈l
   ·rw [decide_eq_true hm,if_pos rfl,ret_some]
    exact .inr ⟨rfl,_,gEq hk,hm⟩
   rw [decide_eq_false hm,if_neg (by simp),ret_some]
   refine .inl ⟨rfl,?_⟩
   rintro ⟨y,y1,y2⟩
   rw [gEq hk] at y1
   obtain rfl:=sInj y1
   exact hm y2
  ·unfold sparseref18_Check_l7
   rw [if_neg (by omega)]
  rintro o (⟨rfl,h5⟩ | ⟨rfl,m,m1,y,y1,y2⟩)
  ·simp only
   rw [hw,ret_some]
   refine .inl ⟨rfl,?_⟩
   rintro ⟨v',u,h6,⟨l',l1,l2⟩,h7⟩
   rw [hvi] at h6
   have:v'=v:=by have:=sInj h6; omega
   subst this
   rw [hl] at l1; obtain rfl:=sInj l1
   obtain ⟨m,m1,m2⟩:=List.getElem_of_mem h7
   exact h5 m m1 ⟨_,by rw [gEq m1,m2],l2⟩
  simp only
  rw [ret_some]
  have hy:=hB y (mem_get y1)
  refine .inr ⟨rfl,v,y.toNat,hvi,⟨l,hl,by rw [Int.toNat_of_nonneg hy.1]; exact y2⟩,by rw [Int.toNat_of_nonneg hy.1]; exact mem_get y1⟩
 ·unfold sparseref18_Check_l6
  rw [if_neg (by omega)]
 rintro o (⟨rfl,h5⟩ | ⟨rfl,m,m1,v,u,h6,h7,h8⟩)
 ·refine .inl ⟨rfl,?_⟩
  rintro ⟨v,u,h6,h7,h8⟩
  obtain ⟨m,m1,m2⟩:=List.getElem_of_mem h7
  exact h5 m m1 ⟨v,u,by rw [gEq m1,m2],h6,h8⟩
 exact .inr ⟨rfl,v,u,h7,mem_get h6,h8⟩
theorem rcheckS_p {adj:List LI} (hG:Gr adj) (hn:adj.length≤200) {A B S:LI} (ha:A.length≤1000) (hb:B.length≤1000) (hs:S.length≤1000):Ret (sparseref18_Check adj A B S) (fun e=>(e=0∧Good adj A B S)∨(e=180∧¬ Good adj A B S)):=by
 have hfl:[A,B,S].flatten=A++B++S:=by simp
 have hbad:∀ {P:Prop},(Good adj A B S→P)→¬ P→((180:Int)=0∧Good adj A B S)∨((180:Int)=180∧¬ Good adj A B S):=fun h h'=>.inr ⟨rfl,fun hg=>h' (h hg)⟩
 have hga:Good adj A B S→Asn A adj.length∧Asn B adj.length∧Asn S adj.length:=fun h=>⟨h.1.1 A (by simp),h.1.1 B (by simp),h.1.1 S (by simp)⟩
 obtain ⟨bA,hA1,hA2⟩:=rasc_p (l:=A) (by omega)
 obtain ⟨bB,hB1,hB2⟩:=rasc_p (l:=B) (by omega)
 obtain ⟨bS,hS1,hS2⟩:=rasc_p (l:=S) (by omega)
 unfold sparseref18_Check
 rw [bindS (rcheck_ok hG hn),if_pos rfl,bindS (twinI_ok (by omega)),bindS (app_small (by omega)),bindS (app_small (by simp; omega))]
 by_cases hle:(A++B++S).length=adj.length
 ·rw [ret_bind]
  refine ret_call (perm_p (by omega) hle) ?_
  rintro b (⟨rfl,h1,h2⟩ | ⟨rfl,h1⟩)
  ·rw [if_pos rfl,bindS hA1,obs]
   rcases hA2 with ⟨rfl,a⟩ | ⟨rfl,a⟩
   ·rw [if_neg (by simp),bindS hB1,obs]
    rcases hB2 with ⟨rfl,b⟩ | ⟨rfl,b⟩
    ·rw [if_neg (by simp),bindS hS1,obs]
     rcases hS2 with ⟨rfl,c⟩ | ⟨rfl,c⟩
     ·have rA:InR A adj.length:=fun x hx=>h1 x (by simp [hx])
      have rB:InR B adj.length:=fun x hx=>h1 x (by simp [hx])
      have rS:InR S adj.length:=fun x hx=>h1 x (by simp [hx])
      rw [if_neg (by simp),ret_bind]
      refine ret_call (edges_p hG hn rA rB ha hb) ?_
      rintro o (⟨rfl,h5⟩ | ⟨rfl,h5⟩)
      ·simp only
       rw [ret_some]
       refine .inl ⟨rfl,⟨fun l hl=>?_,by rw [hfl]; exact h2⟩,by rw [hfl]; exact hle,h5⟩
       simp at hl
       rcases hl with rfl | rfl | rfl
       ·exact ⟨a,rA⟩
       ·exact ⟨b,rB⟩
       exact ⟨c,rS⟩
      simp only
      rw [ret_some]
      exact hbad (fun h=>h.2.2) (fun h=>h h5)
     rw [if_pos (by rfl),ret_some]
     exact hbad (fun h=>(hga h).2.2.1) c
    rw [if_pos (by rfl),obs,if_pos (by rfl),ret_some]
    exact hbad (fun h=>(hga h).2.1.1) b
   rw [if_pos (by rfl),obs,if_pos (by rfl),obs,if_pos (by rfl),ret_some]
   exact hbad (fun h=>(hga h).1.1) a
  rw [if_neg (by simp),obs,if_pos (by rfl),obs,if_pos (by rfl),obs,if_pos (by rfl),ret_some]
  refine hbad (P:=InR (A++B++S) adj.length∧(A++B++S).Nodup) (fun h=>⟨fun x hx=>?_,by rw [← hfl]; exact h.1.2⟩) h1
  obtain ⟨g1,g2,g3⟩:=hga h
  rcases List.mem_append.1 hx with hx | hx
  ·rcases List.mem_append.1 hx with hx | hx
   ·exact g1.2 x hx
   exact g2.2 x hx
  exact g3.2 x hx
 have hp:sparsekit_Perm (A++B++S) (adj.length:Int)=some false:=by
  unfold sparsekit_Perm
  rw [if_neg (by omega)]
 rw [bindS hp,if_neg (by simp),obs,if_pos (by rfl),obs,if_pos (by rfl),obs,if_pos (by rfl),ret_some]
 exact hbad (fun h=>h.2.1) (by rw [hfl]; exact hle)
theorem checks_same {adj:List LI} (hG:Gr adj) (hn:adj.length≤200) {A B S:LI} (ha:A.length≤1000) (hb:B.length≤1000) (hs:S.length≤1000):∃ e,dissect_Check adj A B S=some e∧sparseref18_Check adj A B S=some e∧(Good adj A B S→e=0):=by
 obtain ⟨e,h1,h2⟩:=dcheck_p hG hn ha hb hs
 obtain ⟨e',h3,h4⟩:=rcheckS_p hG hn ha hb hs
 rcases h2 with ⟨rfl,h2⟩ | ⟨rfl,h2⟩<;>rcases h4 with ⟨rfl,h4⟩ | ⟨rfl,h4⟩
 ·exact ⟨_,h1,h3,fun _=>rfl⟩
 ·exact absurd h2 h4
 ·exact absurd h4 h2
 exact ⟨_,h1,h3,fun h=>absurd h h2⟩
end Km
/- The paper's nested dissection: as the program's. DissectOrders, DissectSeparates. -/
namespace Km
open Pl Sx Go M Vc Pd Pu
theorem rorder_succ (k:Nat):sparseref18_Order (k+1)=sparseref18_Order_body (sparseref18_Order k):=by simp only [sparseref18_Order]
theorem rpart_ok {adj:List LI} (hG:Gr adj) (hn:adj.length≤200) {l o:LI} (hl:Vl adj.length l) (ho:Pm o l.length) {leaf:Int} {k:Nat} (h:sparseref18_Order k (ind adj l) leaf=some (o,0)):sparseref18_part (sparseref18_Order k) adj l leaf=some (o.map (atL l)):=by
 have hI:sparseref12_Induced adj l=some (ind adj l,0):=rinduced_ok hG (by omega) (by have:=hl.len; omega) hl.rng (asc_nodup hl.asc)
 have hll:=hl.len
 have hol:=ho.len
 have hc:loop (sparseref18_part_l1 (o,0) l) ([],0)=some ([]++o.map (atL l)):=copy_ok (o:=o) (x:=[]) ho.rng (by omega) (by simp)
 unfold sparseref18_part
 rw [bindS hI]
 simp only
 rw [bindS h]
 rw [bindS hc,List.nil_append]
theorem orders_ok:∀ (n:Nat),n≤30→∀ {adj:List LI} (_:Gr adj) (_:adj.length=n) (leaf:Int) (_:1≤leaf) (_:leaf≤200),
  ∃ o,Pm o n∧(∀ k,n < k→dissect_dissected k adj leaf=some o)∧∀ k,n < k→sparseref18_Order k adj leaf=some (o,0):=by
 intro n
 induction n using Nat.strongRecOn with
 | ind n ih=>
 intro hn adj hG hl leaf hl1 hl2
 subst hl
 obtain ⟨e,e1,e2,e3⟩:=exact2_ok hG (by omega)
 have e4:=rexact_ok hG (by omega)
 rw [← e3] at e4
 obtain ⟨side,ch,_,s1,s2⟩:=rseparate_ok hG (by omega)
 have hP:=sep_parts adj.length ch side
 generalize lA adj.length ch side=A at s1 s2 hP
 generalize lB adj.length ch side=B at s1 s2 hP
 generalize lS adj.length ch=S at s1 s2 hP
 have hlen:=hP.len
 have hck:=rcheck_ok hG (by omega)
 have hlf:¬ ((decide (leaf < 1)) || (decide ((200:Int) < leaf)))=true:=by
  simp only [Bool.or_eq_true,decide_eq_true_eq]
  omega
 by_cases hdiv:leaf < (adj.length:Int)∧A≠[]∧B≠[]
 ·obtain ⟨d1,d2,d3⟩:=hdiv
  have ha:0 < A.length:=List.length_pos_iff.2 d2
  have hb:0 < B.length:=List.length_pos_iff.2 d3
  obtain ⟨oa,a1,a2,a3⟩:=ih A.length (by omega) (by omega) (ind_gr hG A) (ind_len _ _) leaf hl1 hl2
  obtain ⟨ob,b1,b2,b3⟩:=ih B.length (by omega) (by omega) (ind_gr hG B) (ind_len _ _) leaf hl1 hl2
  have hal:=a1.len
  have hbl:=b1.len
  refine ⟨oa.map (atL A)++ob.map (atL B)++S,join_perm hP a1 b1,fun k hk=>?_,fun k hk=>?_⟩
  ·obtain ⟨j,rfl⟩:∃ j,k=j+1:=⟨k - 1,by omega⟩
   rw [dis_succ]
   unfold dissect_dissected_body dissect_dissected_j1
   have hc:¬ ((decide ((A.length:Int)=0)) || (decide ((B.length:Int)=0)))=true:=by
    simp only [Bool.or_eq_true,decide_eq_true_eq]
    omega
   have hlo:loop (dissect_dissected_l5 (dissect_dissected j) A B adj leaf) ([],0)=some (oa.map (atL A)++ob.map (atL B)):=by
    refine Ret.eq ?_
    refine ret_loop 2 (fun k (t:LI×Int)=>(k=0∧t=([],0))∨(k=1∧t=(oa.map (atL A),1))∨(k=2∧t=(oa.map (atL A)++ob.map (atL B),2))) (.inl ⟨rfl,rfl⟩) ?_
    rintro k _ hk (⟨rfl,rfl⟩ | ⟨rfl,rfl⟩ | ⟨rfl,rfl⟩)
    ·unfold dissect_dissected_l5
     have g0:getI [A,B] 0=some A:=rfl
     have hw:wa .i64 0 1=1:=by rw [wa_in (by constructor<;>omega)]; rfl
     simp only
     rw [if_pos (by simp),bindS g0,bindS (pInduced_ok hG (by omega) hP.a)]
     simp only
     rw [bindS (a2 j (by omega)),bindS (copy_ok a1.rng (by omega) (by simp)),hw,ret_some,vq_l]
     exact ⟨by omega,.inr (.inl ⟨by simp,by simp⟩)⟩
    ·unfold dissect_dissected_l5
     have g0:getI [A,B] 1=some B:=rfl
     have hw:wa .i64 1 1=2:=by rw [wa_in (by constructor<;>omega)]; rfl
     simp only
     rw [if_pos (by simp),bindS g0,bindS (pInduced_ok hG (by omega) hP.b)]
     simp only
     rw [bindS (b2 j (by omega)),bindS (copy_ok b1.rng (by omega) (by simp; omega)),hw,ret_some,vq_l]
     exact ⟨by omega,.inr (.inr ⟨by simp,by simp⟩)⟩
    unfold dissect_dissected_l5
    simp only
    rw [if_neg (by simp),ret_some,vq_r]
   rw [if_pos d1,bindS s1]
   simp only
   rw [if_neg hc,bindS hlo,bindS (app_small (by simp; omega))]
  obtain ⟨j,rfl⟩:∃ j,k=j+1:=⟨k - 1,by omega⟩
  rw [rorder_succ]
  unfold sparseref18_Order_body
  have hc:¬ (((decide ((adj.length:Int)≤leaf)) || (decide ((A.length:Int)=0))) || (decide ((B.length:Int)=0)))=true:=by
   simp only [Bool.or_eq_true,decide_eq_true_eq]
   omega
  rw [bindS hck,if_pos rfl,if_neg hlf,bindS s2]
  simp only
  rw [if_neg hc,bindS (rpart_ok hG (by omega) hP.a a1 (a3 j (by omega))),bindS (rpart_ok hG (by omega) hP.b b1 (b3 j (by omega))),bindS (app_small (by simp; omega)),bindS (app_small (by simp; omega))]
 refine ⟨e,e2,fun k hk=>?_,fun k hk=>?_⟩
 ·obtain ⟨j,rfl⟩:∃ j,k=j+1:=⟨k - 1,by omega⟩
  rw [dis_succ]
  unfold dissect_dissected_body dissect_dissected_j1
  by_cases hlf:leaf < (adj.length:Int)
  ·have hc:((decide ((A.length:Int)=0)) || (decide ((B.length:Int)=0)))=true:=by
    simp only [Bool.or_eq_true,decide_eq_true_eq]
    refine Classical.byContradiction fun hno=>hdiv ⟨hlf,?_,?_⟩
    ·rintro rfl; exact hno (.inl rfl)
    rintro rfl; exact hno (.inr rfl)
   rw [if_pos hlf,bindS s1]
   simp only
   rw [if_pos hc,bindS e1]
  rw [if_neg hlf,if_pos (by rfl),bindS e1]
 obtain ⟨j,rfl⟩:∃ j,k=j+1:=⟨k - 1,by omega⟩
 rw [rorder_succ]
 unfold sparseref18_Order_body
 have hc:(((decide ((adj.length:Int)≤leaf)) || (decide ((A.length:Int)=0))) || (decide ((B.length:Int)=0)))=true:=by
  simp only [Bool.or_eq_true,decide_eq_true_eq]
  refine Classical.byContradiction fun hno=>hdiv ⟨by omega,?_,?_⟩
  ·rintro rfl; exact hno (.inl (.inr rfl))
  rintro rfl; exact hno (.inr rfl)
 rw [bindS hck,if_pos rfl,if_neg hlf,bindS s2]
 simp only
 rw [if_pos hc,bindS e4]
theorem split_same {A B S:LI} (ha:A.length≤100000) (hb:B.length≤100000) (hs:S.length≤100000):sparsekit_Split A B S A B S=some true:=by
 have h:∀ l:LI,l.length≤100000→sparsekit_Ints l l=some true:=fun l hl=>by rw [kints_ok hl,decide_eq_true rfl]
 unfold sparsekit_Split
 rw [bindS (h A ha),if_pos rfl,bindS (h B hb),obs,if_pos rfl,bindS (h S hs),obs]
theorem smallG_ok {adj:List LI}:Ret (sparselaw18_smallGraph adj 10) (fun b=>b=true→Sml adj∧(adj.length≤200→adj.length≤10)):=by
 unfold sparselaw18_smallGraph
 by_cases h:((decide ((10:Int) < (adj.length:Int)) && decide ((adj.length:Int)≤200)) || decide ((400:Int) < (adj.length:Int)))=true
 ·rw [if_pos h,ret_some]; exact fun h=>by cases h
 rw [if_neg h]
 simp only [Bool.or_eq_true,Bool.and_eq_true,decide_eq_true_eq,not_or,not_and] at h
 rw [ret_bind]
 refine ret_call (search_loop adj.length (by omega) (fun k=>∃ l,adj[k]?=some l∧20 < l.length) (fun k hk=>?_) ?_) ?_
 ·have hw:wa .i64 (k:Int) 1=((k+1:Nat):Int):=wa1 (by omega)
  unfold sparselaw18_smallGraph_l3
  rw [if_pos (by omega),bindS (getI_lt hk),hw]
  by_cases hc:(20:Int) < (adj[k].length:Int)
  ·rw [if_pos hc,ret_some]
   exact .inr ⟨rfl,_,gEq hk,by omega⟩
  rw [if_neg hc,ret_some]
  refine .inl ⟨rfl,?_⟩
  rintro ⟨l,l1,l2⟩
  rw [gEq hk] at l1
  obtain rfl:=sInj l1
  omega
 ·unfold sparselaw18_smallGraph_l3
  rw [if_neg (by omega)]
 rintro o (⟨rfl,h5⟩ | ⟨rfl,h5⟩)
 ·simp only
  rw [ret_some]
  refine fun _=>⟨⟨by omega,fun l hl=>?_⟩,fun h=>by omega⟩
  obtain ⟨i,hi,rfl⟩:=List.getElem_of_mem hl
  refine Classical.byContradiction fun h6=>h5 i hi ⟨_,gEq hi,by omega⟩
 simp only
 rw [ret_some]
 exact fun h=>by cases h
theorem dissectSeparates_true (x1:List LI) (x3 x5 x7:LI) (x9:Int):sparselaw18_DissectSeparates x1 x3 x5 x7 x9=some true:=by
 unfold sparselaw18_DissectSeparates
 obtain ⟨b,b1,b2⟩:=smallG_ok (adj:=x1)
 rw [bindS b1]
 by_cases hc:((((!b) || (decide ((20:Int) < (x3.length:Int)))) || (decide ((20:Int) < (x5.length:Int)))) || (decide ((20:Int) < (x7.length:Int))))=true
 ·rw [if_pos hc,awake18]; rfl
 rw [if_neg hc]
 simp only [Bool.or_eq_true,Bool.not_eq_true',decide_eq_true_eq,not_or,Bool.not_eq_false] at hc
 obtain ⟨⟨⟨hb,h3⟩,h5⟩,h7⟩:=hc
 obtain ⟨hs,hsz⟩:=b2 hb
 obtain ⟨e,g1,g2,g3⟩:=gchecks hs
 have hI:∀ l:LI,l.length≤100000→sparsekit_Ints l l=some true:=fun l hl=>by rw [kints_ok hl,decide_eq_true rfl]
 have hgs:sparsekit_Graph x1 x1=some true:=graph_same ⟨hs.1,hs.2⟩
 have fin:∀ (A B S o:LI) (e1 e2 c:Int),A.length≤100000→B.length≤100000→S.length≤100000→o.length≤100000→dissect_Separate x1=some (A,B,S,e1)→sparseref18_Separate x1=some (A,B,S,e1)→dissect_Order x1 x9=some (o,e2)→sparseref18_Order FUEL x1 x9=some (o,e2)→dissect_Check x1 x3 x5 x7=some c→sparseref18_Check x1 x3 x5 x7=some c→
   ((dissect_Separate x1).bind fun r24=>(sparseref18_Separate x1).bind fun r29=>(dissect_Order x1 x9).bind fun r34=>(sparseref18_Order FUEL x1 x9).bind fun r36=>(sparsekit_Split r24.1 r24.2.1 r24.2.2.1 r29.1 r29.2.1 r29.2.2.1).bind fun r38=>(if r38=true then some (decide (r24.2.2.2=r29.2.2.2)) else some false).bind fun r39=>(if r39=true then (dissect_Check x1 x3 x5 x7).bind fun r55=>(sparseref18_Check x1 x3 x5 x7).bind fun r56=>some (decide (r55=r56)) else some false).bind fun r40=>(if r40=true then (sparsekit_Ints r34.1 r36.1).bind fun r58=>some r58 else some false).bind fun r41=>(if r41=true then some (decide (r34.2=r36.2)) else some false).bind fun r42=>(if r42=true then (sparsekit_Graph x1 x1).bind fun r61=>some r61 else some false).bind fun r43=>(if r43=true then (sparselaw18_awake).bind fun r63=>some r63 else some false).bind fun r44=>some r44)=some true:=by
  intro A B S o e1 e2 c ha hb hs ho i1 i2 i3 i4 i5 i6
  rw [bindS i1,bindS i2,bindS i3,bindS i4]
  simp only [decide_true]
  rw [bindS (split_same ha hb hs),if_pos rfl,obs,if_pos rfl,bindS i5,bindS i6,obs,decide_eq_true rfl,if_pos rfl,bindS (hI o ho),obs,if_pos rfl,obs,if_pos rfl,bindS hgs,obs,if_pos rfl,awake18]
  rfl
 rw [bindS (twinGraph_ok hs)]
 obtain ⟨k,hk⟩:=fuel_succ'
 rcases g3 with ⟨rfl,hG,hn⟩ | he
 ·have hn2:=hsz hn
  obtain ⟨side,ch,hSep,s1,s2⟩:=rseparate_ok hG (by omega)
  have hP:=sep_parts x1.length ch side
  have hl3:=hP.len
  obtain ⟨c,c1,c2,_⟩:=checks_same hG (by omega) (A:=x3) (B:=x5) (S:=x7) (by omega) (by omega) (by omega)
  have hS:=pSeparate_ok hG (by omega) s1
  by_cases hlf:1≤x9∧x9≤200
  ·obtain ⟨o,o1,o2,o3⟩:=orders_ok x1.length (by omega) hG rfl x9 hlf.1 hlf.2
   have hol:=o1.len
   exact fin _ _ _ o _ _ c (by omega) (by omega) (by omega) (by omega) hS s2 (order_ok hG (by omega) hlf.1 hlf.2 o2) (o3 FUEL (by omega)) c1 c2
  have hlf2:((decide (x9 < 1)) || (decide ((200:Int) < x9)))=true:=by
   simp only [Bool.or_eq_true,decide_eq_true_eq]
   omega
  refine fin _ _ _ [] _ 1 c (by omega) (by omega) (by omega) (by simp) hS s2 ?_ ?_ c1 c2
  ·unfold dissect_Order
   rw [bindS g1,if_pos rfl,if_pos hlf2]
  rw [hk,rorder_succ]
  unfold sparseref18_Order_body
  rw [bindS g2,if_pos rfl,if_pos hlf2]
 refine fin [] [] [] [] e e e (by simp) (by simp) (by simp) (by simp) ?_ ?_ ?_ ?_ ?_ ?_
 ·unfold dissect_Separate
  rw [bindS g1,if_neg he]
 ·unfold sparseref18_Separate
  rw [bindS g2,if_neg he]
 ·unfold dissect_Order
  rw [bindS g1,if_neg he]
 ·rw [hk,rorder_succ]
  unfold sparseref18_Order_body
  rw [bindS g2,if_neg he]
 ·unfold dissect_Check
  rw [bindS g1,if_neg he]
 unfold sparseref18_Check
 rw [bindS g2,if_neg he]
end Km
