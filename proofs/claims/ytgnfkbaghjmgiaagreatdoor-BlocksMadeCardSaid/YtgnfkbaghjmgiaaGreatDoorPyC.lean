/- A valid matrix as the list of its columns' rows. -/
import Derived.Test.YtgnfkbaghjmgiaaGreatDoorPyB
import Derived.Test.YtgnfkbaghjmgiaaGreatDoorPyA
set_option linter.unusedVariables false
set_option linter.unusedSimpArgs false
set_option maxHeartbeats 4000000
namespace Km
open Pl Sx Go M Vc
def colsOf (s i:List Int) (n:Nat):List (List Int):=(List.range n).map fun j=>(i.take (s[j+1]?.getD 0).toNat).drop (s[j]?.getD 0).toNat
theorem colsOf_at {s i:List Int} {n j a b:Nat} (hj:j < n) (ha:s[j]?=some (a:Int)) (hb:s[j+1]?=some (b:Int)):(colsOf s i n)[j]?=some ((i.take b).drop a):=by
  unfold colsOf
  rw [List.getElem?_map,List.getElem?_range hj,Option.map_some,ha,hb]
  simp
section
variable {m n:Nat} {s i v:List Int}
theorem va_at (h:Pu.Va m n s i v) {j:Nat} (hj:j≤n):∃ a:Nat,s[j]?=some (a:Int)∧a≤i.length:=by
  have hls:=h.hd.ls
  obtain ⟨a,ha⟩:∃ a,s[j]?=some a:=⟨s[j]'(by omega),List.getElem?_eq_getElem (by omega)⟩
  have hsn:s[n]?=some (i.length:Int):=by simpa using h.hd.sn
  have h0:=Pu.mo_le h.mo (Nat.zero_le j) h.hd.s0 ha
  have h1:=Pu.mo_le h.mo hj ha hsn
  exact ⟨a.toNat,by rw [ha]; congr 1; omega,by omega⟩
theorem cols_take (h:Pu.Va m n s i v):∀ j:Nat,j≤n→∃ a:Nat,s[j]?=some (a:Int)∧a≤i.length∧((colsOf s i n).take j).flatten=i.take a
  | 0,_=>⟨0,h.hd.s0,by omega,by simp⟩
  | j+1,hj=>by
    obtain ⟨a,h1,h2,h3⟩:=cols_take h j (by omega)
    obtain ⟨b,hb,hbl⟩:=va_at h hj
    have hab:=h.mo j a b h1 hb
    refine ⟨b,hb,hbl,?_⟩
    have hg:(colsOf s i n)[j]?=some ((i.take b).drop a):=colsOf_at (by omega) h1 hb
    rw [tks hg,List.flatten_append,h3,List.flatten_singleton]
    have h4:i.take a=(i.take b).take a:=by rw [List.take_take,show min a b=a by omega]
    rw [h4,List.take_append_drop]
theorem colOk_asc {x:Int} {c:List Int} (h:Pu.ColOk x c):c.Pairwise (· < ·):=by
  have key:∀ (d p:Nat) (y z:Int),c[p]?=some y→c[p+d+1]?=some z→y < z:=by
    intro d
    induction d with
    | zero=>intro p y z hy hz; exact (h (p+1) z hz).2.2 (by omega) y hy
    | succ d ih=>
      intro p y z hy hz
      have hl:=(List.getElem?_eq_some_iff.1 hz).1
      have h1:c[p+d+1]?=some (c[p+d+1]'(by omega)):=List.getElem?_eq_getElem (by omega)
      have h2:=ih p y _ hy h1
      have h3:=(h (p+(d+1)+1) z hz).2.2 (by omega) _ h1
      omega
  rw [List.pairwise_iff_getElem]
  intro p q hp hq hpq
  refine key (q - p - 1) p _ _ (List.getElem?_eq_getElem hp) ?_
  rw [show p+(q - p - 1)+1=q by omega]
  exact List.getElem?_eq_getElem hq
theorem col_good (h:Pu.Va m n s i v) {l:List Int} (hl:l∈colsOf s i n):Pu.ColOk m l:=by
  obtain ⟨j,hj,rfl⟩:=List.mem_map.1 hl
  rw [List.mem_range] at hj
  obtain ⟨a,ha,ha2⟩:=va_at h (show j≤n by omega)
  obtain ⟨b,hb,hb2⟩:=va_at h (show j+1≤n by omega)
  have hab:=h.mo j a b ha hb
  rw [ha,hb]
  simp only [Option.getD_some,Int.toNat_natCast]
  exact (Pu.col_cut (by omega) hb2).2 fun k x h1 h2 h3=>h.cl j a b ha hb k x h1 h2 h3
theorem va_mv (h:Pu.Va m n s i v) (hF:Pu.Ff v):Mv m n (colsOf s i n) s i v:=by
  have hlen:(colsOf s i n).length=n:=by simp [colsOf]
  refine ⟨hlen,fun l hl=>colOk_asc (col_good h hl),fun l hl x hx=>?_,?_,by have:=h.hd.ls; omega,fun j hj=>?_,h.hd.lv,fun f hf=>?_⟩
  · obtain ⟨k,hk⟩:=List.mem_iff_getElem?.1 hx
    have:=col_good h hl k x hk
    exact ⟨this.1,this.2.1⟩
  · obtain ⟨a,h1,h2,h3⟩:=cols_take h n (Nat.le_refl n)
    have hsn:s[n]?=some (i.length:Int):=by simpa using h.hd.sn
    rw [hsn] at h1
    have h4:=Option.some.inj h1
    rw [List.take_of_length_le (by omega),List.take_of_length_le (by omega)] at h3
    exact h3.symm
  · obtain ⟨a,h1,h2,h3⟩:=cols_take h j hj
    rw [h1]
    unfold off
    rw [h3,List.length_take]
    congr 2
    omega
  · unfold matrix_Check_1
    rw [bindS (Pu.fin_p f),hF f hf]
    rfl
theorem sd_in (h:Pu.Va m n s i v) {r c:Nat} (hc:c < n):Px.Sd s i r c↔inE (colsOf s i n) c r:=by
  obtain ⟨a,ha,ha2⟩:=va_at h (show c≤n by omega)
  obtain ⟨b,hb,hb2⟩:=va_at h (show c+1≤n by omega)
  have hg:(colsOf s i n)[c]?=some ((i.take b).drop a):=colsOf_at hc ha hb
  constructor
  · rintro ⟨k,a',b',h1,h2,h3,h4,h5⟩
    rw [ha] at h1
    rw [hb] at h2
    obtain rfl:=Option.some.inj h1
    obtain rfl:=Option.some.inj h2
    refine ⟨_,hg,List.mem_iff_getElem?.2 ⟨k - a,?_⟩⟩
    rw [List.getElem?_drop,List.getElem?_take,if_pos (by omega),show a+(k - a)=k by omega]
    exact h5
  · rintro ⟨l,h1,h2⟩
    rw [hg] at h1
    obtain rfl:=Option.some.inj h1
    obtain ⟨k,hk⟩:=List.mem_iff_getElem?.1 h2
    rw [List.getElem?_drop,List.getElem?_take] at hk
    by_cases h3:a+k < b
    · rw [if_pos h3] at hk
      exact ⟨a+k,a,b,ha,hb,by omega,by omega,hk⟩
    · rw [if_neg h3] at hk
      cases hk
end
end Km
namespace Km
open Pl Sx Go M Vc
theorem en_in {m n:Nat} {s i v:List Int} {l:List Px.En3} (h:Px.Mat m n s i v l) {r c:Nat}:Pu.En l r c↔inE (colsOf s i n) c r:=by
  obtain ⟨hA,hl⟩:=Px.entries_at h.va h.ent
  by_cases hc:c < n
  · rw [← Px.sd_en h.va hA hl,sd_in h.va hc]
  · constructor
    · rintro ⟨e,he,h1,h2⟩
      have:=(h.bd e he).2
      omega
    · rintro ⟨l,h1,h2⟩
      have:=(List.getElem?_eq_some_iff.1 h1).1
      simp [colsOf] at this
      omega
theorem mat_mv {m n:Nat} {s i v:List Int} {l:List Px.En3} (h:Px.Mat m n s i v l):Mv m n (colsOf s i n) s i v:=va_mv h.va h.ff
structure Ar (n:Nat) (e:Nat→Nat→Prop) (A:List (List Int)):Prop where
  len:A.length=n
  get:∀ (j:Nat) l,A[j]?=some l→∀ x,x∈l↔∃ k:Nat,x=(k:Int)∧e j k
  sz:∀ l,l∈A→l.length≤1000
  lt:∀ j k,e j k→j < n∧k < n
theorem Ar.row {n:Nat} {e:Nat→Nat→Prop} {A:List (List Int)} (h:Ar n e A) {j:Nat} (hj:j < n):∃ l,A[j]?=some l∧l.length≤1000:=
  ⟨A[j]'(by rw [h.len]; exact hj),List.getElem?_eq_getElem _,h.sz _ (List.getElem_mem _)⟩
def rowF (a:List Int) (j:Nat):Nat:=(a[j]?.getD 0).toNat
theorem rowF_at {a:List Int} {j i:Nat} (h:a[j]?=some (i:Int)):rowF a j=i:=by unfold rowF; rw [h]; simp
theorem rows_loop {m n:Nat} {l:List Px.En3} (hl:l.length≤1000) (hB:∀ e,e∈l→Pu.Bd m n e):
    Ret (loop (blocks_arcs_l1 l) (List.replicate m [],0)) (fun o=>o.length=m∧∀ r,r < m→∃ x,o[r]?=some x∧x.length≤1000∧∀ z,z∈x↔∃ e,e∈l∧e.1=(r:Int)∧e.2.1=z):=by
  refine ret_loop l.length (fun k (t:List (List Int)×Int)=>t.2=(k:Int)∧t.1.length=m∧∀ r,r < m→∃ x,t.1[r]?=some x∧x.length≤k∧∀ z,z∈x↔∃ e,e∈l.take k∧e.1=(r:Int)∧e.2.1=z)
    ⟨rfl,by simp,fun r hr=>⟨[],by simp [hr],by simp,fun z=>by simp⟩⟩ ?_
  rintro k ⟨o,t⟩ hk ⟨e1,e2,e3⟩
  simp only at e1 e2 e3
  subst e1
  unfold blocks_arcs_l1
  simp only
  by_cases hkl:k < l.length
  · have he:l[k]?=some l[k]:=List.getElem?_eq_getElem hkl
    have hb:=hB _ (List.getElem_mem hkl)
    obtain ⟨r,hr⟩:=Int.eq_ofNat_of_zero_le hb.1.1
    obtain ⟨x,x1,x2,x3⟩:=e3 r (by have:=hb.1.2; omega)
    have g1:getI o (l[k].1)=some x:=by rw [hr]; exact x1
    have hw:wa .i64 (k:Int) 1=((k+1:Nat):Int):=wa1 (by omega)
    have hrm:r < m:=by have:=hb.1.2; omega
    rw [if_pos (by omega),bindS (getI_lt hkl),bindS g1,bindS (app_small (by simp; omega)),hr,bindS (setI_lt (by omega)),hw,ret_some,vq_l]
    refine ⟨hkl,rfl,by simp [e2],fun r' hr'=>?_⟩
    simp only
    by_cases hrr:r'=r
    · subst hrr
      refine ⟨_,List.getElem?_set_self (by omega),by simp; omega,fun z=>?_⟩
      rw [List.mem_append,x3,List.mem_singleton]
      constructor
      · rintro (⟨e,q1,q2,q3⟩ | rfl)
        · exact ⟨e,(mts he).2 (.inl q1),q2,q3⟩
        · exact ⟨_,(mts he).2 (.inr rfl),hr,rfl⟩
      · rintro ⟨e,q1,q2,q3⟩
        rcases (mts he).1 q1 with q1 | rfl
        · exact .inl ⟨e,q1,q2,q3⟩
        · exact .inr q3.symm
    · obtain ⟨y,y1,y2,y3⟩:=e3 r' hr'
      refine ⟨y,by rw [List.getElem?_set_ne (by omega),y1],by omega,fun z=>?_⟩
      rw [y3]
      constructor
      · rintro ⟨e,q1,q2,q3⟩
        exact ⟨e,(mts he).2 (.inl q1),q2,q3⟩
      · rintro ⟨e,q1,q2,q3⟩
        rcases (mts he).1 q1 with q1 | rfl
        · exact ⟨e,q1,q2,q3⟩
        · rw [hr] at q2; omega
  · rw [if_neg (by omega),ret_some,vq_r]
    refine ⟨e2,fun r hr=>?_⟩
    obtain ⟨x,x1,x2,x3⟩:=e3 r hr
    rw [take_all (by omega)] at x3
    exact ⟨x,x1,by omega,x3⟩
theorem out_loop {m n:Nat} {a:List Int} (hal:a.length=n) (hn:n≤1000) (ha:∀ j,j < n→∃ i:Nat,a[j]?=some (i:Int)∧i < m) {rows:List (List Int)} (hr:rows.length=m):
    Ret (loop (blocks_arcs_l2 a rows) (List.replicate n [],0)) (fun o=>o.length=n∧∀ j,j < n→o[j]?=rows[rowF a j]?):=by
  refine ret_loop n (fun k (t:List (List Int)×Int)=>t.2=(k:Int)∧t.1.length=n∧∀ j,j < k→t.1[j]?=rows[rowF a j]?) ⟨rfl,by simp,fun j hj=>by omega⟩ ?_
  rintro k ⟨o,t⟩ hk ⟨e1,e2,e3⟩
  simp only at e1 e2 e3
  subst e1
  unfold blocks_arcs_l2
  simp only
  by_cases hkn:k < n
  · obtain ⟨i,hi,him⟩:=ha k hkn
    have g1:getI a (k:Int)=some (i:Int):=hi
    rw [if_pos (by omega),bindS g1,bindS (getI_lt (by omega)),bindS (setI_lt (by omega)),wa1 (by omega),ret_some,vq_l]
    refine ⟨hkn,rfl,by simp [e2],fun j hj=>?_⟩
    simp only
    by_cases hjk:j=k
    · subst hjk
      rw [List.getElem?_set_self (by omega),rowF_at hi,List.getElem?_eq_getElem (by omega)]
    · rw [List.getElem?_set_ne (by omega),e3 j (by omega)]
  · rw [if_neg (by omega),ret_some,vq_r]
    exact ⟨e2,fun j hj=>e3 j (by omega)⟩
theorem arcs_ok {n:Nat} {s i v:List Int} {l:List Px.En3} (h:Px.Mat n n s i v l) (hn:n≤50) {a:List Int} (hal:a.length=n) (ha:∀ j,j < n→∃ i:Nat,a[j]?=some (i:Int)∧i < n):
    Ret (blocks_arcs (n:Int) (n:Int) s i v a) (fun A=>Ar n (arcF n (inE (colsOf s i n)) (rowF a)) A):=by
  unfold blocks_arcs
  have hll:=h.llen
  obtain ⟨rows,r1,r2,r3⟩:=rows_loop (m:=n) (n:=n) (by omega) h.bd
  obtain ⟨o,o1,o2,o3⟩:=out_loop hal (by omega) ha r2
  rw [bindS (mkL_nat _ n (by omega)),bindS (h.ents hn),bindS r1,bindS (mkL_nat _ n (by omega)),bindS o1,ret_some]
  refine ⟨o2,fun j x hx z=>?_,fun x hx=>?_,fun j k hjk=>⟨hjk.1,hjk.2.1⟩⟩
  · have hj:j < n:=by have:=(List.getElem?_eq_some_iff.1 hx).1; omega
    obtain ⟨i',hi,hin⟩:=ha j hj
    rw [o3 j hj,rowF_at hi] at hx
    obtain ⟨x',x1,x2,x3⟩:=r3 i' hin
    rw [x1] at hx
    obtain rfl:=Option.some.inj hx
    rw [x3]
    constructor
    · rintro ⟨e,e1,e2,e3⟩
      have hb:=h.bd e e1
      obtain ⟨c,hc⟩:=Int.eq_ofNat_of_zero_le hb.2.1
      refine ⟨c,by rw [← e3,hc],hj,by have:=hb.2.2; omega,?_⟩
      rw [rowF_at hi]
      exact (en_in h).1 ⟨e,e1,e2,hc⟩
    · rintro ⟨k,rfl,_,hk,he⟩
      rw [rowF_at hi] at he
      obtain ⟨e,e1,e2,e3⟩:=(en_in h).2 he
      exact ⟨e,e1,e2,e3⟩
  · obtain ⟨j,hj⟩:=List.mem_iff_getElem?.1 hx
    have hjn:j < n:=by have:=(List.getElem?_eq_some_iff.1 hj).1; omega
    obtain ⟨i',hi,hin⟩:=ha j hjn
    rw [o3 j hjn,rowF_at hi] at hj
    obtain ⟨x',x1,x2,x3⟩:=r3 i' hin
    rw [x1] at hj
    obtain rfl:=Option.some.inj hj
    exact x2
section
variable {n:Nat} {e:Nat→Nat→Prop} {A:List (List Int)} {j0:Nat}
structure Re (n:Nat) (e:Nat→Nat→Prop) (j0:Nat) (seen:List Bool) (todo:List Int):Prop where
  rl:seen.length=n
  td:∀ x,x∈todo→∃ k:Nat,x=(k:Int)∧tr seen k
  fr:tr seen j0
  snd:∀ k,tr seen k→RT e j0 k
  cl:∀ j k,tr seen j→(j:Int)∉todo→e j k→tr seen k
  bd:todo.length+seen.count false≤n
structure Rj (n:Nat) (e:Nat→Nat→Prop) (j0 j:Nat) (p:List Int) (seen:List Bool) (todo:List Int) (B:Nat):Prop where
  rl:seen.length=n
  td:∀ x,x∈todo→∃ k:Nat,x=(k:Int)∧tr seen k
  fr:tr seen j0
  snd:∀ k,tr seen k→RT e j0 k
  cl:∀ c k,tr seen c→(c:Int)∉todo→c≠j→e c k→tr seen k
  cj:∀ k:Nat,(k:Int)∈p→tr seen k
  jj:tr seen j
  bd:todo.length+seen.count false≤B
theorem tr_lt {l:List Bool} {k:Nat} (h:tr l k):k < l.length:=(List.getElem?_eq_some_iff.1 h).1
theorem reach_row (hA:Ar n e A) {j:Nat} {l:List Int} (hl:A[j]?=some l) {seen:List Bool} {todo:List Int} {B:Nat} (hB:B≤100000) (h:Rj n e j0 j [] seen todo B):
    Ret (loop (blocks_reach_l12 l) (seen,todo,0)) (fun o=>Rj n e j0 j l o.1 o.2 B):=by
  have hll:=hA.sz l (mem_get hl)
  refine ret_loop l.length (fun k (t:List Bool×List Int×Int)=>t.2.2=(k:Int)∧Rj n e j0 j (l.take k) t.1 t.2.1 B) ⟨rfl,by simpa using h⟩ ?_
  rintro k ⟨sn,td,t⟩ hk ⟨e1,hI⟩
  simp only at e1 hI
  subst e1
  unfold blocks_reach_l12 blocks_reach_j13
  simp only
  by_cases hkl:k < l.length
  · have hw:wa .i64 (k:Int) 1=((k+1:Nat):Int):=wa1 (by omega)
    have hlk:l[k]?=some l[k]:=List.getElem?_eq_getElem hkl
    obtain ⟨c,hc,hjc⟩:=(hA.get j l hl _).1 (List.getElem_mem hkl)
    have hcn:=(hA.lt j c hjc).2
    have hrl:=hI.rl
    have hbd:=hI.bd
    obtain ⟨z,hz⟩:∃ z,sn[c]?=some z:=⟨sn[c]'(by omega),List.getElem?_eq_getElem (by omega)⟩
    have g1:getI sn (c:Int)=some z:=hz
    rw [if_pos (by omega),bindS (getI_lt hkl),hc,bindS g1,hw]
    cases z with
    | true=>
      rw [if_pos rfl,ret_some,vq_l]
      refine ⟨hkl,rfl,hI.rl,hI.td,hI.fr,hI.snd,hI.cl,fun k' hk'=>?_,hI.jj,hI.bd⟩
      rcases (mts hlk).1 hk' with hk' | hk'
      · exact hI.cj k' hk'
      · have:k'=c:=by omega
        subst this; exact hz
    | false=>
      have hcnt:=count_set hz
      have hT:∀ k,tr (sn.set c true) k↔k=c∨tr sn k:=fun k=>tr_set (by omega)
      rw [if_neg (by simp),bindS (setI_lt (by omega)),bindS (app_small (by simp; omega)),ret_some,vq_l]
      refine ⟨hkl,rfl,by simp [hrl],fun x hx=>?_,(hT _).2 (.inr hI.fr),fun k' hk'=>?_,fun c' k' h1 h2 h3 h4=>(hT k').2 ?_,fun k' hk'=>(hT k').2 ?_,(hT _).2 (.inr hI.jj),by simp; omega⟩
      · rcases List.mem_append.1 hx with hx | hx
        · obtain ⟨k',h1,h2⟩:=hI.td x hx
          exact ⟨k',h1,(hT _).2 (.inr h2)⟩
        · simp at hx
          exact ⟨c,hx,(hT _).2 (.inl rfl)⟩
      · rcases (hT k').1 hk' with rfl | hk'
        · exact .tail (hI.snd j hI.jj) hjc
        · exact hI.snd k' hk'
      · have h5:c'≠c:=fun h5=>h2 (by simp [h5])
        rcases (hT c').1 h1 with h6 | h6
        · exact absurd h6 h5
        · exact .inr (hI.cl c' k' h6 (fun h7=>h2 (by simp [h7])) h3 h4)
      · rcases (mts hlk).1 hk' with hk' | hk'
        · exact .inr (hI.cj k' hk')
        · exact .inl (by omega)
  · rw [if_neg (by omega),ret_some,vq_r]
    rw [take_all (by omega)] at hI
    exact hI
theorem reach_all (hA:Ar n e A) (hn:n≤1000) {seen:List Bool} {todo:List Int} (h:Re n e j0 seen todo):
    Ret (loop (blocks_reach_l9 A) (seen,todo)) (fun o=>o.length=n∧∀ k,tr o k↔RT e j0 k):=by
  refine ret_loop n (fun k (t:List Bool×List Int)=>Re n e j0 t.1 t.2∧t.2.length+t.1.count false+k≤n) ⟨h,by have:=h.bd; simpa using this⟩ ?_
  rintro k ⟨sn,td⟩ hk ⟨hI,hb⟩
  simp only at hI hb
  unfold blocks_reach_l9
  simp only
  cases td with
  | nil=>
    rw [if_neg (by simp),ret_some,vq_r]
    refine ⟨hI.rl,fun k=>⟨hI.snd k,fun hr=>?_⟩⟩
    exact hr.fwd (X:=fun k=>tr sn k) (fun j k hjk hj=>hI.cl j k hj (by simp) hjk) hI.fr
  | cons x td=>
    obtain ⟨j,rfl,hjs⟩:=hI.td x (by simp)
    have hjn:j < n:=by have:=tr_lt hjs; have:=hI.rl; omega
    obtain ⟨l,hl,hll⟩:=hA.row hjn
    have hl0:getI A (j:Int)=some l:=hl
    have hbl:=hI.bd
    simp only [List.length_cons] at hb hbl
    have hsl:sli ((j:Int)::td) 1 ((((j:Int)::td).length:Nat):Int)=some td:=by
      unfold sli subL
      rw [if_pos (by simp; omega)]
      simp
    have hg:getI ((j:Int)::td) 0=some (j:Int):=rfl
    rw [if_pos (by simp),bindS hg,bindS hsl,bindS hl0,ret_bind]
    have hI2:Rj n e j0 j [] sn td (n - 1 - k):=⟨hI.rl,fun x hx=>hI.td x (by simp [hx]),hI.fr,hI.snd,fun c k' h1 h2 h3 h4=>hI.cl c k' h1 (fun h5=>by
      rcases List.mem_cons.1 h5 with h5 | h5
      · exact h3 (by omega)
      · exact h2 h5) h4,fun k' hk'=>by simp at hk',hjs,by omega⟩
    refine ret_call (reach_row hA hl (by omega) hI2) ?_
    rintro ⟨s2,t2⟩ h2
    simp only at h2
    rw [ret_some,vq_l]
    have h2b:=h2.bd
    refine ⟨by omega,⟨h2.rl,h2.td,h2.fr,h2.snd,fun c k' h3 h4 h5=>?_,by simp only; omega⟩,by simp only; omega⟩
    by_cases hcj:c=j
    · subst hcj
      exact h2.cj k' ((hA.get c l hl _).2 ⟨k',rfl,h5⟩)
    · exact h2.cl c k' h3 h4 hcj h5
theorem breach_ok (hA:Ar n e A) (hn:n≤1000) (hj:j0 < n):Ret (blocks_reach A (j0:Int)) (fun o=>o.length=n∧∀ k,tr o k↔RT e j0 k):=by
  unfold blocks_reach
  have hlen:=hA.len
  have hno:∀ k,¬ tr (List.replicate n false) k:=fun k h=>by
    have:=List.eq_of_mem_replicate (mem_get h)
    cases this
  have hT:∀ k,tr ((List.replicate n false).set j0 true) k↔k=j0:=fun k=>by
    rw [tr_set (by simpa using hj)]
    exact ⟨fun h=>h.elim id fun h=>absurd h (hno k),.inl⟩
  have hcnt:=count_set (m:=List.replicate n false) (i:=j0) (by simp [hj])
  rw [count_none] at hcnt
  have hI:Re n e j0 ((List.replicate n false).set j0 true) [(j0:Int)]:=⟨by simp,fun x hx=>⟨j0,by simpa using hx,(hT _).2 rfl⟩,(hT _).2 rfl,fun k hk=>by rw [(hT k).1 hk]; exact .refl _,fun j k h1 h2=>absurd ((hT j).1 h1) (fun h=>h2 (by simp [h])),by simp; omega⟩
  obtain ⟨o,o1,o2⟩:=reach_all hA hn hI
  rw [hlen,bindS (mkL_nat _ n (by omega)),bindS (setI_lt (by simpa using hj)),bindS o1,ret_some]
  exact o2
end
end Km
namespace Km
open Pl Sx Go M Vc
section
variable {n:Nat} {e:Nat→Nat→Prop} {A:List (List Int)}
theorem tr_iff {l:List Bool} {k:Nat} {b:Bool} (h:l[k]?=some b):b=true↔tr l k:=by
  unfold tr
  rw [h]
  simp
theorem reached_loop (hA:Ar n e A) (hn:n≤1000):Ret (loop (blocks_strong_l1 A) (List.replicate n [],0)) (fun T=>Pu.Tr T n (RT e)):=by
  have hlen:=hA.len
  refine ret_loop n (fun k (t:List (List Bool)×Int)=>t.2=(k:Int)∧t.1.length=n∧∀ j,j < k→∃ r,t.1[j]?=some r∧r.length=n∧∀ c,tr r c↔RT e j c) ⟨rfl,by simp,fun j hj=>by omega⟩ ?_
  rintro k ⟨T,t⟩ hk ⟨e1,e2,e3⟩
  simp only at e1 e2 e3
  subst e1
  unfold blocks_strong_l1
  simp only
  by_cases hkn:k < n
  · rw [if_pos (by omega),ret_bind]
    refine ret_call (breach_ok hA hn hkn) ?_
    rintro o ⟨o1,o2⟩
    rw [bindS (setI_lt (by omega)),wa1 (by omega),ret_some,vq_l]
    refine ⟨hkn,rfl,by simp [e2],fun j hj=>?_⟩
    simp only
    by_cases hjk:j=k
    · subst hjk
      exact ⟨o,List.getElem?_set_self (by omega),o1,o2⟩
    · obtain ⟨r,r1,r2,r3⟩:=e3 j (by omega)
      exact ⟨r,by rw [List.getElem?_set_ne (by omega),r1],r2,r3⟩
  · rw [if_neg (by omega),ret_some,vq_r]
    refine ⟨e2,fun j hj=>?_⟩
    obtain ⟨r,r1,r2,r3⟩:=e3 j (by omega)
    refine ⟨r,r1,r2,fun c hc=>⟨r[c]'(by omega),List.getElem?_eq_getElem (by omega),?_⟩⟩
    rw [tr_iff (List.getElem?_eq_getElem (by omega)),r3]
theorem first_loop {r:Nat→Nat→Prop} {T:List (List Bool)} (hT:Pu.Tr T n r) (hn:n≤1000) {j:Nat} (hj:j < n):
    Ret (loop (blocks_strong_l76 (j:Int) T) 0) (fun o=>∃ f:Nat,o=(f:Int)∧f≤j∧(∀ k,k < f→¬ sc r j k)∧(f < j→sc r j f)):=by
  refine ret_loop j (fun k (t:Int)=>t=(k:Int)∧∀ k',k' < k→¬ sc r j k') ⟨rfl,fun k hk=>by omega⟩ ?_
  rintro k _ hk ⟨rfl,hI⟩
  unfold blocks_strong_l76
  by_cases hkj:k < j
  · obtain ⟨x,x1,_,_,x3⟩:=hT.row hj
    obtain ⟨y,y1,_,_,y3⟩:=hT.row (show k < n by omega)
    obtain ⟨b,b1,b2⟩:=x3 k (by omega)
    obtain ⟨d,d1,d2⟩:=y3 j hj
    rw [if_pos (by omega),bindS x1,bindS b1,wa1 (by omega)]
    have hno:¬ sc r j k→Ret (some (Sum.inl (((k+1:Nat):Int))):Option (Int⊕Int)) (VQ (fun t'=>k < j∧t'=((k+1:Nat):Int)∧∀ k',k' < k+1→¬ sc r j k') (fun o=>∃ f:Nat,o=(f:Int)∧f≤j∧(∀ k,k < f→¬ sc r j k)∧(f < j→sc r j f))):=by
      intro h
      rw [ret_some,vq_l]
      refine ⟨hkj,rfl,fun k' hk'=>?_⟩
      by_cases h2:k'=k
      · rw [h2]; exact h
      · exact hI k' (by omega)
    cases b with
    | false=>
      rw [if_neg (by simp),obs,if_neg (by simp)]
      exact hno fun h=>by have:=b2.2 h.1; cases this
    | true=>
      rw [if_pos rfl,bindS y1,bindS d1,obs]
      cases d with
      | false=>
        rw [if_neg (by simp)]
        exact hno fun h=>by have:=d2.2 h.2; cases this
      | true=>
        rw [if_pos rfl,ret_some,vq_r]
        exact ⟨k,rfl,by omega,hI,fun _=>⟨b2.1 rfl,d2.1 rfl⟩⟩
  · rw [if_neg (by omega),ret_some,vq_r]
    have:k=j:=by omega
    subst this
    exact ⟨k,rfl,Nat.le_refl _,hI,fun h=>by omega⟩
theorem cls_le_n (k:Nat) (r:Nat→Nat→Prop) (m:Nat):(cls k r m).length≤k:=by classical exact coll_len _
theorem strong_ok (hA:Ar n e A) (hn:n≤1000):Ret (blocks_strong A) (fun o=>∃ F,Sg n (RT e) n F o.1 o.2):=by
  have hlen:=hA.len
  have hr:Pre (RT e):=⟨fun i=>.refl i,fun i j k h h'=>h.trans h'⟩
  unfold blocks_strong
  rw [hlen,bindS (mkL_nat _ n (by omega)),ret_bind]
  refine ret_call (reached_loop hA hn) ?_
  intro T hT
  rw [bindS (mkL_nat _ n (by omega)),ret_bind]
  refine ret_call (P:=fun o=>∃ F,Sg n (RT e) n F o.1 o.2) ?_ (fun o h=>by rw [ret_some]; exact h)
  refine ret_loop n (fun k (t:List Int×List (List Int)×Int)=>t.2.2=(k:Int)∧∃ F,Sg n (RT e) k F t.1 t.2.1) ⟨rfl,[],Sg.zero⟩ ?_
  rintro k ⟨of,bl,t⟩ hk ⟨e1,F,hS⟩
  simp only at e1 hS
  subst e1
  unfold blocks_strong_l52 blocks_strong_j69
  simp only
  by_cases hkn:k < n
  · have hw:wa .i64 (k:Int) 1=((k+1:Nat):Int):=wa1 (by omega)
    have hol:=hS.ol
    rw [if_pos (by omega),ret_bind]
    refine ret_call (first_loop hT hn hkn) ?_
    rintro o ⟨f,rfl,h1,h2,h3⟩
    have hbl:bl.length≤k:=by
      rw [hS.bl,List.length_map]
      have:=subG (a:=F) (b:=List.range k) (List.nodup_iff_pairwise_ne.2 (hS.fa.imp fun h=>by omega)) fun m hm=>List.mem_range.2 ((hS.fl m).1 hm).1
      simpa using this
    by_cases hfk:f=k
    · subst hfk
      rw [if_pos rfl,bindS (setI_lt (by omega)),bindS (app_small (by simp; omega)),hw,ret_some,vq_l]
      exact ⟨hkn,rfl,_,hS.new hr hkn h2⟩
    · have hs:=h3 (by omega)
      obtain ⟨b,m,b1,b2,b3⟩:=hS.num hr (show f < k by omega) hs
      have g1:getI of (f:Int)=some (b:Int):=b3
      have g2:getI (of.set k (b:Int)) (k:Int)=some (b:Int):=by
        rw [getI_lt (by simp; omega)]
        simp
      have g3:getI bl (b:Int)=some (cls k (RT e) m):=hS.at_ b1
      have hcl:=cls_le_n k (RT e) m
      have hb:b < bl.length:=by
        rw [hS.bl,List.length_map]
        exact (List.getElem?_eq_some_iff.1 b1).1
      rw [if_neg (by omega),bindS g1,bindS (setI_lt (by omega)),bindS g2,bindS g3,bindS (app_small (by simp; omega)),bindS (setI_lt hb),hw,ret_some,vq_l]
      exact ⟨hkn,rfl,F,hS.old hr hkn b1 b2⟩
  · rw [if_neg (by omega),ret_some,vq_r]
    have:k=n:=by omega
    subst this
    exact ⟨F,hS⟩
def Wt (of:List Int) (come:List Bool) (b:Nat) (j k:Nat):Prop:=of[j]?≠of[k]?∧of[k]?=some (b:Int)∧∃ c:Nat,of[j]?=some (c:Int)∧¬ come[c]?=some true
section
variable {F L:List Nat} {of out:List Int} {bl:List (List Int)} {come:List Bool}
theorem of_at (hS:Sg n (RT e) n F of bl) {j:Nat} (hj:j < n):∃ b:Nat,of[j]?=some (b:Int)∧b < bl.length:=by
  obtain ⟨b,m,h1,h2,h3⟩:=hS.og j hj
  refine ⟨b,h3,?_⟩
  rw [hS.bl,List.length_map]
  exact (List.getElem?_eq_some_iff.1 h1).1
theorem wait_row (hA:Ar n e A) (hS:Sg n (RT e) n F of bl) (hc:come.length=bl.length) {j:Nat} (hj:j < n) {l:List Int} (hl:A[j]?=some l) {w:List Bool} (hw:w.length=bl.length):
    Ret (loop (blocks_sequence_l141 l of (j:Int) come) (w,0)) (fun o=>o.length=bl.length∧∀ b,tr o b↔tr w b∨∃ k:Nat,e j k∧Wt of come b j k):=by
  have hll:=hA.sz l (mem_get hl)
  refine ret_loop l.length (fun q (t:List Bool×Int)=>t.2=(q:Int)∧t.1.length=bl.length∧∀ b,tr t.1 b↔tr w b∨∃ k:Nat,(k:Int)∈l.take q∧Wt of come b j k) ⟨rfl,hw,fun b=>by simp⟩ ?_
  rintro q ⟨o,t⟩ hq ⟨e1,e2,e3⟩
  simp only at e1 e2 e3
  subst e1
  unfold blocks_sequence_l141 blocks_sequence_j145
  simp only
  by_cases hql:q < l.length
  · have hlq:l[q]?=some l[q]:=List.getElem?_eq_getElem hql
    obtain ⟨k,hk,hjk⟩:=(hA.get j l hl _).1 (List.getElem_mem hql)
    have hkn:=(hA.lt j k hjk).2
    obtain ⟨b,b1,b2⟩:=of_at hS hj
    obtain ⟨d,d1,d2⟩:=of_at hS hkn
    have g1:getI of (j:Int)=some (b:Int):=b1
    have g2:getI of (k:Int)=some (d:Int):=d1
    rw [if_pos (by omega),bindS (getI_lt hql),hk,bindS g1,bindS g2,wa1 (by omega)]
    have hno:(∀ b',¬ Wt of come b' j k)→Ret (some (Sum.inl (o,((q+1:Nat):Int))):Option ((List Bool×Int)⊕List Bool)) (VQ (fun t'=>q < l.length∧t'.2=((q+1:Nat):Int)∧t'.1.length=bl.length∧∀ b,tr t'.1 b↔tr w b∨∃ k:Nat,(k:Int)∈l.take (q+1)∧Wt of come b j k) (fun o=>o.length=bl.length∧∀ b,tr o b↔tr w b∨∃ k:Nat,e j k∧Wt of come b j k)):=by
      intro h
      rw [ret_some,vq_l]
      refine ⟨hql,rfl,e2,fun b'=>?_⟩
      rw [e3]
      constructor
      · rintro (h1 | ⟨k',h1,h2⟩)
        · exact .inl h1
        · exact .inr ⟨k',(mts hlq).2 (.inl h1),h2⟩
      · rintro (h1 | ⟨k',h1,h2⟩)
        · exact .inl h1
        · rcases (mts hlq).1 h1 with h1 | h1
          · exact .inr ⟨k',h1,h2⟩
          · have:k'=k:=by omega
            subst this
            exact absurd h2 (h b')
    by_cases hbd:(b:Int)=(d:Int)
    · rw [if_pos hbd,obs,if_neg (by simp)]
      exact hno fun b' h=>h.1 (by rw [b1,d1,hbd])
    · have hcb:come[b]?=some (come[b]'(by omega)):=List.getElem?_eq_getElem (by omega)
      have g3:getI come (b:Int)=some (come[b]'(by omega)):=hcb
      rw [if_neg hbd,bindS g1,bindS g3,obs]
      cases hz:come[b]'(by omega) with
      | true=>
        rw [if_neg (by simp)]
        refine hno fun b' h=>?_
        obtain ⟨c,h1,h2⟩:=h.2.2
        rw [b1] at h1
        have:c=b:=by have:=Option.some.inj h1; omega
        subst this
        exact h2 (by rw [hcb,hz])
      | false=>
        rw [if_pos (by simp),bindS g2,bindS (setI_lt (by omega)),ret_some,vq_l]
        refine ⟨hql,rfl,by simp [e2],fun b'=>?_⟩
        simp only
        rw [tr_set (by omega),e3]
        have hW:Wt of come d j k:=⟨by rw [b1,d1]; intro h; exact hbd (Option.some.inj h),d1,b,b1,by rw [hcb,hz]; simp⟩
        constructor
        · rintro (rfl | h1 | ⟨k',h1,h2⟩)
          · exact .inr ⟨k,(mts hlq).2 (.inr hk.symm),hW⟩
          · exact .inl h1
          · exact .inr ⟨k',(mts hlq).2 (.inl h1),h2⟩
        · rintro (h1 | ⟨k',h1,h2⟩)
          · exact .inr (.inl h1)
          · rcases (mts hlq).1 h1 with h1 | h1
            · exact .inr (.inr ⟨k',h1,h2⟩)
            · have:k'=k:=by omega
              subst this
              have h3:=h2.2.1
              rw [d1] at h3
              exact .inl (by have:=Option.some.inj h3; omega)
  · rw [if_neg (by omega),ret_some,vq_r]
    refine ⟨e2,fun b=>?_⟩
    rw [e3,take_all (by omega)]
    constructor
    · rintro (h1 | ⟨k,h1,h2⟩)
      · exact .inl h1
      · obtain ⟨k',h3,h4⟩:=(hA.get j l hl _).1 h1
        have:k'=k:=by omega
        subst this
        exact .inr ⟨k',h4,h2⟩
    · rintro (h1 | ⟨k,h1,h2⟩)
      · exact .inl h1
      · exact .inr ⟨k,(hA.get j l hl _).2 ⟨k,rfl,h1⟩,h2⟩
theorem wait_all (hA:Ar n e A) (hn:n≤1000) (hS:Sg n (RT e) n F of bl) (hc:come.length=bl.length):
    Ret (loop (blocks_sequence_l124 A of come) (List.replicate bl.length false,0)) (fun o=>o.length=bl.length∧∀ b,tr o b↔∃ j k:Nat,e j k∧Wt of come b j k):=by
  have hlen:=hA.len
  have hno:∀ m k,¬ tr (List.replicate m false) k:=fun m k h=>by
    have:=List.eq_of_mem_replicate (mem_get h)
    cases this
  refine ret_loop n (fun q (t:List Bool×Int)=>t.2=(q:Int)∧t.1.length=bl.length∧∀ b,tr t.1 b↔∃ j k:Nat,j < q∧e j k∧Wt of come b j k) ⟨rfl,by simp,fun b=>⟨fun h=>absurd h (hno _ _),fun ⟨j,k,h,_⟩=>by omega⟩⟩ ?_
  rintro q ⟨o,t⟩ hq ⟨e1,e2,e3⟩
  simp only at e1 e2 e3
  subst e1
  unfold blocks_sequence_l124
  simp only
  by_cases hqn:q < n
  · obtain ⟨l,hl,hll⟩:=hA.row hqn
    have g1:getI A (q:Int)=some l:=hl
    rw [if_pos (by omega),bindS g1,ret_bind]
    refine ret_call (wait_row hA hS hc hqn hl e2) ?_
    rintro o' ⟨o1,o2⟩
    rw [wa1 (by omega),ret_some,vq_l]
    refine ⟨hqn,rfl,o1,fun b=>?_⟩
    simp only
    rw [o2,e3]
    constructor
    · rintro (⟨j,k,h1,h2⟩ | ⟨k,h1,h2⟩)
      · exact ⟨j,k,by omega,h2⟩
      · exact ⟨q,k,by omega,h1,h2⟩
    · rintro ⟨j,k,h1,h2,h3⟩
      by_cases hjq:j=q
      · subst hjq; exact .inr ⟨k,h2,h3⟩
      · exact .inl ⟨j,k,by omega,h2,h3⟩
  · rw [if_neg (by omega),ret_some,vq_r]
    refine ⟨e2,fun b=>?_⟩
    rw [e3]
    exact ⟨fun ⟨j,k,_,h⟩=>⟨j,k,h⟩,fun ⟨j,k,h⟩=>⟨j,k,by have:=(hA.lt j k h.1).1; omega,h⟩⟩
theorem seq_step (hA:Ar n e A) (hn:n≤1000) (hS:Sg n (RT e) n F of bl) (h:Sq n (RT e) F come out L) (hl:L.length < F.length) (hb1:bl.length≤1000):
    Ret (blocks_sequence_l97 bl A of (come,out)) (VQ (fun t=>∃ L',Sq n (RT e) F t.1 t.2 L'∧L'.length=L.length+1) (fun _=>False)):=by
  have hr:Pre (RT e):=⟨fun i=>.refl i,fun i j k h h'=>h.trans h'⟩
  have hol:=h.ol
  have hcl:=h.cl
  have hFb:bl.length=F.length:=by rw [hS.bl,List.length_map]
  unfold blocks_sequence_l97
  simp only
  rw [if_pos (by omega),bindS (mkL_nat _ bl.length (by omega)),ret_bind]
  refine ret_call (wait_all hA hn hS (by omega)) ?_
  rintro w ⟨w1,w2⟩
  have hfree:∀ b m:Nat,F[b]?=some m→(free n (RT e) (pl (RT e) L) m↔¬ tr come b∧¬ tr w b):=fun b m hb=>by
    rw [h.free_iff hS hr hA.lt hb,w2]
    rfl
  rw [ret_bind]
  obtain ⟨b0,m0,hb0,hf0⟩:=h.ex hS hr hl
  have hb0l:=(List.getElem?_eq_some_iff.1 hb0).1
  refine ret_call (P:=fun o=>∃ L',Sq n (RT e) F o.1 o.2 L'∧L'.length=L.length+1) ?_ (fun o ho=>by rw [ret_some,vq_l]; exact ho)
  refine ret_loop bl.length (fun k (t:Int)=>t=(k:Int)∧∀ b m:Nat,b < k→F[b]?=some m→¬ free n (RT e) (pl (RT e) L) m) ⟨rfl,fun b m hb=>by omega⟩ ?_
  rintro k _ hk ⟨rfl,hI⟩
  unfold blocks_sequence_l131
  by_cases hkb:k < bl.length
  · have hFk:F[k]?=some (F[k]'(by omega)):=List.getElem?_eq_getElem (by omega)
    have hck:come[k]?=some (come[k]'(by omega)):=List.getElem?_eq_getElem (by omega)
    have hwk:w[k]?=some (w[k]'(by omega)):=List.getElem?_eq_getElem (by omega)
    have g1:getI come (k:Int)=some (come[k]'(by omega)):=hck
    have g2:getI w (k:Int)=some (w[k]'(by omega)):=hwk
    have i1:=tr_iff hck
    have i2:=tr_iff hwk
    rw [if_pos (by omega),bindS g1,wa1 (by omega)]
    have hno:¬ free n (RT e) (pl (RT e) L) (F[k]'(by omega))→Ret (some (Sum.inl (((k+1:Nat):Int))):Option (Int⊕(List Bool×List Int))) (VQ (fun t'=>k < bl.length∧t'=((k+1:Nat):Int)∧∀ b m:Nat,b < k+1→F[b]?=some m→¬ free n (RT e) (pl (RT e) L) m) (fun o=>∃ L',Sq n (RT e) F o.1 o.2 L'∧L'.length=L.length+1)):=by
      intro hn
      rw [ret_some,vq_l]
      refine ⟨hkb,rfl,fun b m hb hm=>?_⟩
      by_cases hbk:b=k
      · subst hbk
        rw [hFk] at hm
        obtain rfl:=Option.some.inj hm
        exact hn
      · exact hI b m (by omega) hm
    cases hz:come[k]'(by omega) with
    | true=>
      rw [hz] at i1
      rw [if_pos rfl,obs,if_neg (by simp)]
      exact hno fun hf=>((hfree k _ hFk).1 hf).1 (i1.1 rfl)
    | false=>
      rw [hz] at i1
      rw [if_neg (by simp),bindS g2,obs]
      cases hz2:w[k]'(by omega) with
      | true=>
        rw [hz2] at i2
        rw [if_neg (by simp)]
        exact hno fun hf=>((hfree k _ hFk).1 hf).2 (i2.1 rfl)
      | false=>
        rw [hz2] at i2
        rw [if_pos (by simp),bindS (setI_lt (by omega)),bindS (app_small (by simp; omega)),ret_some,vq_r]
        have hf:=(hfree k _ hFk).2 ⟨fun hh=>absurd (i1.2 hh) (by simp),fun hh=>absurd (i2.2 hh) (by simp)⟩
        exact ⟨_,h.step hS hr hFk hf fun c x hc hx=>hI c x hc hx,by simp⟩
  · rw [if_neg (by omega),ret_some,vq_r]
    exact absurd hf0 (hI b0 m0 (by omega) hb0)
theorem sequence_ok (hA:Ar n e A) (hn:n≤1000) (hS:Sg n (RT e) n F of bl):Ret (blocks_sequence A of bl) (fun out=>∃ come L,Sq n (RT e) F come out L∧Full n (RT e) L):=by
  have hr:Pre (RT e):=⟨fun i=>.refl i,fun i j k h h'=>h.trans h'⟩
  have hFb:bl.length=F.length:=by rw [hS.bl,List.length_map]
  have hFn:F.length≤n:=by
    have:=subG (a:=F) (b:=List.range n) hS.fnd fun m hm=>List.mem_range.2 ((hS.fl m).1 hm).1
    simpa using this
  unfold blocks_sequence
  rw [bindS (mkL_nat _ bl.length (by omega)),ret_bind]
  refine ret_call (P:=fun out=>∃ come L,Sq n (RT e) F come out L∧Full n (RT e) L) ?_ (fun o ho=>by rw [ret_some]; exact ho)
  refine ret_loop bl.length (fun k (t:List Bool×List Int)=>∃ L,Sq n (RT e) F t.1 t.2 L∧L.length=k) ⟨[],by rw [hFb]; exact Sq.zero,rfl⟩ ?_
  rintro k ⟨come,out⟩ hk ⟨L,hL,hLk⟩
  simp only at hL
  have hol:=hL.ol
  by_cases hkb:k < bl.length
  · refine ret_call (seq_step hA hn hS hL (by omega) (by omega)) ?_
    rintro (t | o) ht
    · obtain ⟨L',h1,h2⟩:=ht
      exact ⟨hkb,L',h1,by omega⟩
    · exact absurd ht id
  · unfold blocks_sequence_l97
    simp only
    rw [if_neg (by omega),ret_some,vq_r]
    exact ⟨come,L,hL,hL.full hS hr (by omega)⟩
end
end
end Km
namespace Km
open Pl Sx Go M Vc
theorem contains_e {l:List Int} (hl:l.length≤100000) (x:Int):slices_Contains_int l x=some (decide (x∈l)):=by
  have h1:Ret (loop (slices_Index_int_l1 l x) 0) (fun o=>(o=.inl ()∧x∉l)∨∃ k:Nat,o=.inr (k:Int)∧x∈l):=by
    refine ret_loop l.length (fun k (t:Int)=>t=(k:Int)∧x∉l.take k) ⟨rfl,by simp⟩ ?_
    rintro k _ hk ⟨rfl,hI⟩
    unfold slices_Index_int_l1
    by_cases hkl:k < l.length
    · rw [if_pos (by omega),bindS (getI_lt hkl),wa1 (by omega)]
      by_cases hx:x=l[k]
      · rw [if_pos hx,ret_some,vq_r]
        exact .inr ⟨k,rfl,hx▸List.getElem_mem hkl⟩
      · rw [if_neg hx,ret_some,vq_l]
        refine ⟨hkl,rfl,fun h=>?_⟩
        rcases (mts (List.getElem?_eq_getElem hkl)).1 h with h | h
        · exact hI h
        · exact hx h
    · rw [if_neg (by omega),ret_some,vq_r]
      rw [take_all (by omega)] at hI
      exact .inl ⟨rfl,hI⟩
  unfold slices_Contains_int slices_Index_int
  obtain ⟨o,h2,⟨rfl,h3⟩ | ⟨k,rfl,h3⟩⟩:=h1
  · rw [bindS h2,obs,decide_eq_false h3]
    rfl
  · rw [bindS h2,obs,decide_eq_true h3,decide_eq_true (by omega)]
noncomputable def stsE (n:Nat) (r:Nat→Nat→Prop) (L:List Nat):List Int:=(List.range (L.length+1)).map fun b=>(off (clsE n r L) b:Int)
theorem asc_eq {a b:List Int} (ha:a.Pairwise (· < ·)) (hb:b.Pairwise (· < ·)) (h:∀ x,x∈a↔x∈b):a=b:=Px.asc_ext ha hb h
theorem asc_nd {m:List Int} (h1:m.Pairwise (·≤·)) (h2:m.Nodup):m.Pairwise (· < ·):=by
  have:=h1.and (List.nodup_iff_pairwise_ne.1 h2)
  exact this.imp fun h=>by omega
theorem img_mem {f:Nat→Nat} {l:List Int} {y:Int}:y∈img f l↔∃ x,x∈l∧y=(f x.toNat:Int):=by
  unfold img
  rw [List.mem_map]
  exact ⟨fun ⟨x,h1,h2⟩=>⟨x,h1,h2.symm⟩,fun ⟨x,h1,h2⟩=>⟨x,h1,h2.symm⟩⟩
section
variable {n:Nat} {E:List (List Int)} {a:List Int}
theorem tri_in {r13:List Int×Int} (hal:r13.1=a) (ha:∀ j,j < n→∃ i:Nat,a[j]?=some (i:Int)∧i < n) {l:List Int} (hll:l.length≤1000) (hr:∀ x,x∈l→0≤x∧x < (n:Int)):
    loop (blocks_Triangular_l4 l r13) ([],0)=some (img (rowF a) l):=by
  refine Ret.eq ?_
  refine ret_loop l.length (fun k (t:List Int×Int)=>t=(img (rowF a) (l.take k),(k:Int))) (by simp [img]) ?_
  rintro k _ hk rfl
  unfold blocks_Triangular_l4
  simp only
  by_cases hkl:k < l.length
  · have hx:=hr _ (List.getElem_mem hkl)
    obtain ⟨j,hj⟩:=Int.eq_ofNat_of_zero_le hx.1
    obtain ⟨i,hi,hin⟩:=ha j (by omega)
    have g1:getI r13.1 (j:Int)=some (i:Int):=by rw [hal]; exact hi
    have hlk:l[k]?=some (j:Int):=by rw [List.getElem?_eq_getElem hkl,hj]
    rw [if_pos (by omega),bindS (getI_lt hkl),hj,bindS g1,bindS (app_small (by rw [img_len]; simp; omega)),wa1 (by omega),ret_some,vq_l]
    refine ⟨hkl,?_⟩
    rw [tks hlk]
    unfold img
    rw [List.map_append,List.map_singleton,Int.toNat_natCast,rowF_at hi]
  · rw [if_neg (by omega),ret_some,vq_r,take_all (by omega)]
theorem tri_sorted {e:Nat→Nat→Prop} {r:Nat→Nat→Prop} {f:Nat→Nat} (hf:Pfm n e f) (hn:n≤12) (m:Nat):sortI (img f (cls n r m))=some (rws n r f m):=by
  have hcl:(cls n r m).length≤n:=by classical exact coll_len _
  obtain ⟨o,h1,h2,h3⟩:=sort_ok (l:=img f (cls n r m)) (by rw [img_len]; omega)
  rw [h1]
  congr 1
  have hnd:(img f (cls n r m)).Nodup:=hf.img_nd (cls_nd m) fun x hx=>by have:=cls_mem.1 hx; omega
  refine asc_eq (asc_nd h3 (h2.nodup_iff.2 hnd)) (rws_asc m) fun x=>?_
  rw [h2.mem_iff,img_mem,rws_mem]
  constructor
  · rintro ⟨c,hc,rfl⟩
    have:=cls_mem.1 hc
    exact ⟨by omega,by simpa using hf.lt _ this.2.1,c.toNat,this.2.1,this.2.2,by simp⟩
  · rintro ⟨h4,h5,k,h6,h7,h8⟩
    exact ⟨(k:Int),cls_mem.2 ⟨by omega,by simpa using h6,by simpa using h7⟩,by simp; omega⟩
theorem flat_le (L:List (List Int)) (k:Nat):(L.take k).flatten.length≤L.flatten.length:=off_top L (j:=k)
theorem flat_snoc {L:List (List Int)} {k:Nat} {x:List Int} (h:L[k]?=some x):(L.take (k+1)).flatten=(L.take k).flatten++x:=by
  rw [tks h,List.flatten_append,List.flatten_singleton]
theorem tri_out {r:Nat→Nat→Prop} {e:Nat→Nat→Prop} (hf:Pfm n e (rowF a)) (hn:n≤12) {F L:List Nat} {of out:List Int} {bl:List (List Int)} {come:List Bool} (hS:Sg n r n F of bl) (hQ:Sq n r F come out L) (hL:Full n r L)
    {r13:List Int×Int} (hal:r13.1=a) (ha:∀ j,j < n→∃ i:Nat,a[j]?=some (i:Int)∧i < n):
    loop (blocks_Triangular_l3 out (of,bl) r13) ([],[],[0],0)=some ((rwsE n r (rowF a) L).flatten,(clsE n r L).flatten,stsE n r L):=by
  have hol:=hQ.ol
  have hLn:=hL.o.len hL.p
  have hc1:=hL.cols_len
  have hr1:=hL.rows_len hf
  refine Ret.eq ?_
  refine ret_loop L.length (fun k (t:List Int×List Int×List Int×Int)=>t=(((rwsE n r (rowF a) L).take k).flatten,((clsE n r L).take k).flatten,(List.range (k+1)).map (fun b=>(off (clsE n r L) b:Int)),(k:Int))) (by simp [off]) ?_
  rintro k _ hk rfl
  unfold blocks_Triangular_l3
  simp only
  by_cases hkl:k < L.length
  · have hLk:L[k]?=some L[k]:=List.getElem?_eq_getElem hkl
    obtain ⟨b,b1,b2⟩:=hQ.ix k _ hLk
    have g1:getI out (k:Int)=some (b:Int):=b1
    have g2:getI bl (b:Int)=some (cls n r L[k]):=hS.at_ b2
    have hcl:(cls n r L[k]).length≤n:=by classical exact coll_len _
    have f1:=flat_le (rwsE n r (rowF a) L) k
    have f2:=flat_le (clsE n r L) k
    have f3:=blk_len hf (r:=r) L[k]
    have c1:=clsE_at (n:=n) (r:=r) hLk
    have c2:=rwsE_at (n:=n) (r:=r) (f:=rowF a) hLk
    rw [if_pos (by omega),bindS g1,bindS g2,bindS (tri_in hal ha (by omega) (fun x hx=>by have:=cls_mem.1 hx; omega)),bindS (tri_sorted hf hn _),bindS (app_small (by omega)),bindS g2,bindS (app_small (by omega)),bindS (app_small (by simp; omega)),wa1 (by omega),ret_some,vq_l]
    refine ⟨hkl,?_⟩
    rw [← flat_snoc c1,← flat_snoc c2,List.range_succ (n:=k+1),List.map_append,List.map_singleton]
    rfl
  · rw [if_neg (by omega),ret_some,vq_r]
    have:k=L.length:=by omega
    subst this
    rw [List.take_of_length_le (by simp [rwsE]),List.take_of_length_le (by simp [clsE])]
    rfl
end
theorem pfm_of {n:Nat} {E:List (List Int)} {a b:List Int} {hr hc:List Bool} (h:Mat n n E a b hr hc) (hK:KB n n E) (hno:(-1:Int)∉a):Pfm n (inE E) (rowF a)∧∀ j,j < n→∃ i:Nat,a[j]?=some (i:Int)∧i < n:=by
  obtain ⟨D,hF⟩:=h.fin
  have hCs:=hF.1
  have hal:=hCs.al
  have key:∀ j,j < n→∃ i:Nat,a[j]?=some (i:Int)∧i < n∧b[i]?=some (j:Int):=fun j hj=>by
    have h1:a[j]?=some (a[j]'(by omega)):=List.getElem?_eq_getElem (by omega)
    have h2:a[j]'(by omega)≠-1:=fun h2=>hno (h2▸List.getElem_mem _)
    obtain ⟨h3,h4,h5,_⟩:=hCs.row j _ h1 h2
    exact ⟨(a[j]'(by omega)).toNat,by rw [h1]; congr 1; omega,by omega,h5⟩
  refine ⟨⟨fun c hc=>?_,fun c hc=>?_,fun c d hc hd hcd=>?_,fun c i hci=>?_⟩,fun j hj=>?_⟩
  · obtain ⟨i,h1,h2,_⟩:=key c hc
    rw [rowF_at h1]; exact h2
  · obtain ⟨i,h1,h2,h3⟩:=key c hc
    rw [rowF_at h1]
    simpa using (hCs.col i _ h3 (by omega) (by omega)).2
  · obtain ⟨i,h1,h2,h3⟩:=key c hc
    obtain ⟨i',h1',h2',h3'⟩:=key d hd
    rw [rowF_at h1,rowF_at h1'] at hcd
    subst hcd
    rw [h3] at h3'
    have:=Option.some.inj h3'
    omega
  · exact inE_lt h hK hci
  · obtain ⟨i,h1,h2,_⟩:=key j hj
    exact ⟨i,h1,h2⟩
theorem square_ok {n:Nat} {s i v:List Int} (hk:matrix_Check (n:Int) (n:Int) s i v=some 0):blocks_square (n:Int) (n:Int) s i v=some 0:=by
  unfold blocks_square
  rw [bindS hk,if_neg (by simp)]
theorem tri_ok {n:Nat} {s i v:List Int} {l:List Px.En3} (h:Px.Mat n n s i v l) (hn:n≤12):
    ∃ a b mm hr hc,matching_matched (n:Int) (n:Int) s i v=some (colsOf s i n,a,b,mm)∧Mat n n (colsOf s i n) a b hr hc∧
      (((-1:Int)∈a∧blocks_Triangular (n:Int) (n:Int) s i v=some ([],[],[],9))∨((-1:Int)∉a∧Pfm n (inE (colsOf s i n)) (rowF a)∧∃ L,Full n (RT (arcF n (inE (colsOf s i n)) (rowF a))) L∧
        blocks_Triangular (n:Int) (n:Int) s i v=some ((rwsE n (RT (arcF n (inE (colsOf s i n)) (rowF a))) (rowF a) L).flatten,(clsE n (RT (arcF n (inE (colsOf s i n)) (rowF a))) L).flatten,stsE n (RT (arcF n (inE (colsOf s i n)) (rowF a))) L,0))):=by
  have hM:=mat_mv h
  have hK:=hM.kb (show n≤100000 by omega)
  have hlen:=h.len
  have hE:=edges_ok hM (by omega) (by omega) (n:Int)
  obtain ⟨⟨hr,hc⟩,q1,a,b,mm,q2,q3⟩:=reachable_of hK (by omega) (by omega) rfl rfl hE
  simp only at q3
  have hk:=h.check (by omega)
  refine ⟨a,b,mm,hr,hc,q2,q3,?_⟩
  obtain ⟨D,hF⟩:=q3.fin
  have hal:=hF.1.al
  have hmx:matching_Maximum (n:Int) (n:Int) s i v=some (a,0):=by
    unfold matching_Maximum
    rw [bindS hk,if_pos rfl,bindS q2]
  unfold blocks_Triangular
  rw [bindS (square_ok hk),if_pos rfl,bindS hmx]
  simp only
  rw [bindS (contains_e (by omega) (-1))]
  by_cases hno:(-1:Int)∈a
  · rw [if_pos (by simpa using hno)]
    exact .inl ⟨hno,rfl⟩
  · obtain ⟨hf,ha⟩:=pfm_of q3 hK hno
    rw [if_neg (by simpa using hno)]
    obtain ⟨A,a1,a2⟩:=arcs_ok h (by omega) hal ha
    obtain ⟨⟨of,bl⟩,s1,F,s2⟩:=strong_ok a2 (by omega)
    simp only at s2
    obtain ⟨out,o1,come,L,o2,o3⟩:=sequence_ok a2 (by omega) s2
    rw [bindS a1,bindS s1]
    simp only
    rw [bindS o1,bindS (tri_out hf hn s2 o2 o3 rfl ha)]
    exact .inr ⟨hno,hf,L,o3,rfl⟩
end Km
namespace Km
open Pl Sx Go M Vc
abbrev Pm:=Px.Pm
theorem get_take {l:List Int} {k q:Nat} {x:Int} (h:l[q]?=some x) (hq:q < k):x∈l.take k:=by
  refine List.mem_iff_getElem?.2 ⟨q,?_⟩
  rw [List.getElem?_take,if_pos hq,h]
theorem take_get {l:List Int} {k:Nat} {x:Int} (h:x∈l.take k):∃ q,q < k∧l[q]?=some x:=by
  obtain ⟨q,hq⟩:=List.mem_iff_getElem?.1 h
  rw [List.getElem?_take] at hq
  by_cases hk:q < k
  · rw [if_pos hk] at hq; exact ⟨q,hk,hq⟩
  · rw [if_neg hk] at hq; cases hq
theorem nd_take_succ {l:List Int} {k:Nat} {x:Int} (h:l[k]?=some x):(l.take (k+1)).Nodup↔(l.take k).Nodup∧x∉l.take k:=by
  rw [tks h,List.nodup_append]
  constructor
  · rintro ⟨h1,_,h2⟩
    exact ⟨h1,fun h3=>h2 x h3 x (by simp) rfl⟩
  · rintro ⟨h1,h2⟩
    exact ⟨h1,by simp,fun a ha b hb=>by simp at hb; subst hb; rintro rfl; exact h2 ha⟩
structure Inv (l:List Int) (n:Nat) (r:List Int):Prop where
  len:r.length=n
  at_:∀ (k:Nat) (x:Int),l[k]?=some x→r[x.toNat]?=some (k:Int)
theorem bplaces_ok {l:List Int} {n:Nat} (hn:n≤1000):∃ r,blocks_places l (n:Int)=some r∧((r.2=true∧Pm l n∧Inv l n r.1)∨(r.2=false∧¬ Pm l n)):=by
  unfold blocks_places
  rw [bindS (Pd.repeat_ok hn (-1))]
  by_cases hl:l.length=n
  · rw [if_pos (by omega)]
    have h1:Ret (loop (blocks_places_l5 l (n:Int)) (List.replicate n (-1),0)) (fun o=>(∃ r,o=.inl r∧Pm l n∧Inv l n r)∨(o=.inr ()∧¬ Pm l n)):=by
      refine ret_loop n (fun k (t:List Int×Int)=>t.2=(k:Int)∧t.1.length=n∧(∀ x,x∈l.take k→0≤x∧x < (n:Int))∧(l.take k).Nodup∧(∀ (q:Nat) x,q < k→l[q]?=some x→t.1[x.toNat]?=some (q:Int))∧∀ y:Nat,y < n→(y:Int)∉l.take k→t.1[y]?=some (-1))
        ⟨rfl,by simp,by simp,by simp,fun q x hq=>by omega,fun y hy _=>by simp [hy]⟩ ?_
      rintro k ⟨o,t⟩ hk ⟨e1,e2,e3,e4,e5,e6⟩
      simp only at e1 e2 e5 e6
      subst e1
      unfold blocks_places_l5
      simp only
      by_cases hkl:k < n
      · have hlk:l[k]?=some (l[k]'(by omega)):=List.getElem?_eq_getElem (by omega)
        rw [if_pos (by omega),bindS (getI_lt (by omega))]
        generalize l[k]'(by omega)=x at hlk
        have hxl:=mem_get hlk
        by_cases hx:0≤x∧x < (n:Int)
        · obtain ⟨y,rfl⟩:=Int.eq_ofNat_of_zero_le hx.1
          have hyn:y < n:=by omega
          have hoy:o[y]?=some (o[y]'(by omega)):=List.getElem?_eq_getElem (by omega)
          have g1:getI o (y:Int)=some (o[y]'(by omega)):=hoy
          rw [if_neg (by simp; omega)]
          rw [bindS g1,obs]
          by_cases hmem:(y:Int)∈l.take k
          · obtain ⟨q,q1,q2⟩:=take_get hmem
            have h7:=e5 q _ q1 q2
            simp only [Int.toNat_natCast] at h7
            rw [hoy] at h7
            have h8:=Option.some.inj h7
            rw [if_pos (by simp; omega),ret_some,vq_r]
            refine .inr ⟨rfl,fun hp=>?_⟩
            have:=hp.nd.sublist (List.take_sublist (k+1) l)
            exact ((nd_take_succ hlk).1 this).2 hmem
          · have h7:=e6 y hyn hmem
            rw [hoy] at h7
            have h8:=Option.some.inj h7
            rw [if_neg (by simp; omega),bindS (setI_lt (by omega)),wa1 (by omega),ret_some,vq_l]
            refine ⟨hkl,rfl,by simp [e2],fun x hx'=>?_,(nd_take_succ hlk).2 ⟨e4,hmem⟩,fun q x hq hqx=>?_,fun z hz hzn=>?_⟩
            · rcases (mts hlk).1 hx' with hx' | rfl
              · exact e3 x hx'
              · exact hx
            · simp only
              by_cases hqk:q=k
              · subst hqk
                rw [hlk] at hqx
                obtain rfl:=Option.some.inj hqx
                rw [Int.toNat_natCast,List.getElem?_set_self (by omega)]
              · have h9:=e5 q x (by omega) hqx
                have h10:x∈l.take k:=get_take hqx (by omega)
                have h11:=e3 x h10
                have h12:x.toNat≠y:=fun h=>hmem (by rw [show (y:Int)=x by omega]; exact h10)
                rw [List.getElem?_set_ne (by omega),h9]
            · simp only
              have h9:z≠y:=fun h=>hzn ((mts hlk).2 (.inr (by rw [h])))
              rw [List.getElem?_set_ne (by omega),e6 z hz fun h=>hzn ((mts hlk).2 (.inl h))]
        · rw [if_pos (by simp; omega),obs,if_pos rfl,ret_some,vq_r]
          exact .inr ⟨rfl,fun hp=>hx (hp.rng x hxl)⟩
      · rw [if_neg (by omega),ret_some,vq_r]
        have hlt:l.take k=l:=take_all (by omega)
        rw [hlt] at e3 e4
        exact .inl ⟨o,rfl,⟨hl,e4,e3⟩,e2,fun q x hq=>e5 q x (by have:=(List.getElem?_eq_some_iff.1 hq).1; omega) hq⟩
    obtain ⟨o,h2,⟨r,rfl,h3,h4⟩ | ⟨rfl,h3⟩⟩:=h1
    · rw [bindS h2]
      exact ⟨_,rfl,.inl ⟨rfl,h3,h4⟩⟩
    · rw [bindS h2]
      exact ⟨_,rfl,.inr ⟨rfl,h3⟩⟩
  · rw [if_neg (by omega)]
    exact ⟨_,rfl,.inr ⟨rfl,fun hp=>hl hp.len⟩⟩
theorem asc_of_step {st:List Int} (h:∀ (b:Nat) (x y:Int),st[b]?=some x→st[b+1]?=some y→x < y):st.Pairwise (· < ·):=by
  have key:∀ (d p:Nat) (y z:Int),st[p]?=some y→st[p+d+1]?=some z→y < z:=by
    intro d
    induction d with
    | zero=>intro p y z hy hz; exact h p y z hy hz
    | succ d ih=>
      intro p y z hy hz
      have hl:=(List.getElem?_eq_some_iff.1 hz).1
      have h1:st[p+d+1]?=some (st[p+d+1]'(by omega)):=List.getElem?_eq_getElem (by omega)
      have h2:=ih p y _ hy h1
      have h3:=h (p+d+1) _ z h1 hz
      omega
  rw [List.pairwise_iff_getElem]
  intro p q hp hq hpq
  refine key (q - p - 1) p _ _ (List.getElem?_eq_getElem hp) ?_
  rw [show p+(q - p - 1)+1=q by omega]
  exact List.getElem?_eq_getElem hq
theorem sts_step {st:List Int} {n:Nat} (h:Sts st n) {b:Nat} {x y:Int} (hx:st[b]?=some x) (hy:st[b+1]?=some y):x < y:=asc_lt h.asc (Nat.lt_succ_self b) hx hy
theorem sts_le {st:List Int} {n:Nat} (h:Sts st n) {b:Nat} {x:Int} (hx:st[b]?=some x):x≤(n:Int):=by
  have:=(List.getElem?_eq_some_iff.1 hx).1
  exact asc_le h.asc (i:=b) (j:=st.length - 1) (by omega) hx h.hl
theorem bblock_ok {st:List Int} {n:Nat} (hn:n≤1000) (hl:st.length≤1000):∃ r,blocks_blockOf st (n:Int)=some r∧((r.2=true∧Sts st n∧Bl st (st.length - 1) r.1)∨(r.2=false∧¬ Sts st n)):=by
  unfold blocks_blockOf
  by_cases h0:st.length=0
  · rw [if_pos (by omega),obs,if_pos rfl,obs,if_pos rfl]
    refine ⟨_,rfl,.inr ⟨rfl,fun h=>?_⟩⟩
    have:=(List.getElem?_eq_some_iff.1 h.h0).1
    omega
  · have e0:st[0]?=some (st[0]'(by omega)):=List.getElem?_eq_getElem (by omega)
    have g0:getI st 0=some (st[0]'(by omega)):=e0
    rw [if_neg (by omega),bindS g0,obs]
    by_cases h1:st[0]'(by omega)=0
    · have ew:ws .i64 (st.length:Int) 1=((st.length - 1:Nat):Int):=by rw [ws_in (by constructor<;>omega)]; omega
      have e1:st[st.length - 1]?=some (st[st.length - 1]'(by omega)):=List.getElem?_eq_getElem (by omega)
      have g1:getI st ((st.length - 1:Nat):Int)=some (st[st.length - 1]'(by omega)):=e1
      rw [if_neg (by simp [h1]),ew,bindS g1,obs]
      by_cases h2:st[st.length - 1]'(by omega)=(n:Int)
      · rw [if_neg (by simp [h2])]
        rw [h1] at e0
        rw [h2] at e1
        have hsl:sli st 1 (st.length:Int)=some (st.drop 1):=by
          unfold sli subL
          rw [if_pos (by omega)]
          simp
        rw [bindS hsl]
        have hlp:Ret (loop (blocks_blockOf_l5 (st.drop 1) st (n:Int)) ([],0)) (fun o=>(∃ r,o=.inl r∧Sts st n∧Bl st (st.length - 1) r)∨(o=.inr ()∧¬ Sts st n)):=by
          refine ret_loop (st.length - 1) (fun k (t:List Int×Int)=>t.2=(k:Int)∧(∃ x,st[k]?=some x∧(t.1.length:Int)=x∧x≤(n:Int))∧(∀ (b:Nat) (x y:Int),b < k→st[b]?=some x→st[b+1]?=some y→x < y)∧(Sts st n→Bl st k t.1))
            ⟨rfl,⟨0,e0,rfl,by omega⟩,fun b x y hb=>by omega,fun h=>Bl.zero h⟩ ?_
          rintro k ⟨o,t⟩ hk ⟨i1,⟨x,i2,i3,i4⟩,i5,i6⟩
          simp only at i1 i3 i6
          subst i1
          unfold blocks_blockOf_l5
          simp only
          by_cases hks:k < st.length - 1
          · have ey:st[k+1]?=some (st[k+1]'(by omega)):=List.getElem?_eq_getElem (by omega)
            have g2:getI (st.drop 1) (k:Int)=some (st[k+1]'(by omega)):=by
              rw [getI_cast,List.getElem?_drop,Nat.add_comm 1 k,ey]
            have g3:getI st (k:Int)=some x:=i2
            generalize st[k+1]'(by omega)=y at ey g2
            rw [if_pos (by rw [List.length_drop]; omega),bindS g2,bindS g3]
            by_cases hc:y≤x∨(n:Int) < y
            · rw [if_pos (by simpa using hc),ret_some,vq_r]
              refine .inr ⟨rfl,fun h=>?_⟩
              have:=sts_step h i2 ey
              have:=sts_le h ey
              omega
            · have hw:ws .i64 y x=(((y - x).toNat:Nat):Int):=by rw [ws_in (by constructor<;>omega)]; omega
              rw [if_neg (by simpa using hc),bindS g3,hw,bindS (Pd.repeat_ok (by omega) _),bindS (app_small (by simp; omega)),wa1 (by omega),ret_some,vq_l]
              refine ⟨hks,rfl,⟨y,ey,by simp; omega,by omega⟩,fun b u w hb hu hw'=>?_,fun h=>Bl.succ h (i6 h) i2 ey⟩
              by_cases hbk:b=k
              · subst hbk
                rw [i2] at hu
                rw [ey] at hw'
                have:=Option.some.inj hu
                have:=Option.some.inj hw'
                omega
              · exact i5 b u w (by omega) hu hw'
          · rw [if_neg (by rw [List.length_drop]; omega),ret_some,vq_r]
            have hkk:k=st.length - 1:=by omega
            have hS:Sts st n:=⟨e0,e1,asc_of_step fun b u w hu hw'=>i5 b u w (by have:=(List.getElem?_eq_some_iff.1 hw').1; omega) hu hw'⟩
            exact .inl ⟨o,rfl,hS,by rw [← hkk]; exact i6 hS⟩
        obtain ⟨o,p1,⟨r,rfl,p2,p3⟩ | ⟨rfl,p2⟩⟩:=hlp
        · rw [bindS p1]
          exact ⟨_,rfl,.inl ⟨rfl,p2,p3⟩⟩
        · rw [bindS p1]
          exact ⟨_,rfl,.inr ⟨rfl,p2⟩⟩
      · rw [if_pos (by simp [h2])]
        refine ⟨_,rfl,.inr ⟨rfl,fun h=>h2 ?_⟩⟩
        have:=h.hl
        rw [e1] at this
        exact Option.some.inj this
    · rw [if_pos (by simp [h1]),obs,if_pos rfl]
      refine ⟨_,rfl,.inr ⟨rfl,fun h=>h1 ?_⟩⟩
      have:=h.h0
      rw [e0] at this
      exact Option.some.inj this
def Up (st rows cols:List Int) (l:List Px.En3):Prop:=∀ e,e∈l→∀ p q b c:Nat,rows[p]?=some e.1→cols[q]?=some e.2.1→Bk st p b→Bk st q c→b≤c
def Ck (n:Nat) (rows cols st:List Int) (l:List Px.En3) (e:Int):Prop:=
  (e=90∧¬ (Pm rows n∧Pm cols n))∨(e=150∧(Pm rows n∧Pm cols n)∧¬ (Sts st n∧Up st rows cols l))∨(e=0∧(Pm rows n∧Pm cols n)∧Sts st n∧Up st rows cols l)
theorem Ck.uniq {n:Nat} {rows cols st:List Int} {l:List Px.En3} {e e':Int} (h:Ck n rows cols st l e) (h':Ck n rows cols st l e'):e=e':=by
  rcases h with ⟨rfl,h⟩ | ⟨rfl,h,h1⟩ | ⟨rfl,h,h1⟩<;>rcases h' with ⟨rfl,k⟩ | ⟨rfl,k,k1⟩ | ⟨rfl,k,k1⟩<;>
  first | rfl | exact absurd h k | exact absurd k h | exact absurd h1 k1 | exact absurd k1 h1
theorem upper_step {st rows cols:List Int} {n:Nat} {l:List Px.En3} {k:Nat} {e:Px.En3} (hS:Sts st n) (hr:Pm rows n) (hc:Pm cols n) (he:l[k]?=some e) (hI:Up st rows cols (l.take k)) {p q b c:Nat} (h1:rows[p]?=some e.1) (h2:cols[q]?=some e.2.1) (h3:Bk st p b) (h4:Bk st q c) (h5:b≤c):Up st rows cols (l.take (k+1)):=by
  intro e' he' p' q' b' c' g1 g2 g3 g4
  rcases (mts he).1 he' with he' | rfl
  · exact hI e' he' p' q' b' c' g1 g2 g3 g4
  · have hp:p'=p:=by
      exact (List.getElem?_inj (List.getElem?_eq_some_iff.1 g1).1 hr.nd).1 (g1.trans h1.symm)
    have hq:q'=q:=(List.getElem?_inj (List.getElem?_eq_some_iff.1 g2).1 hc.nd).1 (g2.trans h2.symm)
    subst hp hq
    have:=g3.uniq hS.asc h3
    have:=g4.uniq hS.asc h4
    omega
theorem bcheck_ok {n:Nat} {s i v:List Int} {l:List Px.En3} (h:Px.Mat n n s i v l) (hn:n≤50) {rows cols st:List Int} (hst:st.length≤1000):Ret (blocks_Check (n:Int) (n:Int) s i v rows cols st) (Ck n rows cols st l):=by
  have hll:=h.llen
  unfold blocks_Check
  rw [bindS (square_ok (h.check hn)),if_pos rfl]
  obtain ⟨r,r1,r2⟩:=bplaces_ok (l:=rows) (n:=n) (by omega)
  obtain ⟨c,c1,c2⟩:=bplaces_ok (l:=cols) (n:=n) (by omega)
  rw [bindS r1,bindS c1]
  rcases r2 with ⟨r2,r3,r4⟩ | ⟨r2,r3⟩
  · rcases c2 with ⟨c2,c3,c4⟩ | ⟨c2,c3⟩
    · rw [if_neg (by simp [r2,c2])]
      obtain ⟨b,b1,b2⟩:=bblock_ok (st:=st) (n:=n) (by omega) hst
      rw [bindS b1]
      rcases b2 with ⟨b2,b3,b4⟩ | ⟨b2,b3⟩
      · rw [if_pos b2,bindS (h.ents hn)]
        have hlp:Ret (loop (blocks_Check_l2 l r b c) 0) (fun o=>(o=.inl ()∧Up st rows cols l)∨(o=.inr ()∧¬ Up st rows cols l)):=by
          refine ret_loop l.length (fun k (t:Int)=>t=(k:Int)∧Up st rows cols (l.take k)) ⟨rfl,fun e he=>by simp at he⟩ ?_
          rintro k _ hk ⟨rfl,hI⟩
          unfold blocks_Check_l2
          by_cases hkl:k < l.length
          · have he:l[k]?=some l[k]:=List.getElem?_eq_getElem hkl
            have hb:=h.bd _ (List.getElem_mem hkl)
            rw [if_pos (by omega),bindS (getI_lt hkl)]
            generalize l[k]=e at he hb
            obtain ⟨x,hx⟩:=Int.eq_ofNat_of_zero_le hb.1.1
            obtain ⟨y,hy⟩:=Int.eq_ofNat_of_zero_le hb.2.1
            obtain ⟨p,hp⟩:=Px.pm_onto r3 (y:=x) (by have:=hb.1.2; omega)
            obtain ⟨q,hq⟩:=Px.pm_onto c3 (y:=y) (by have:=hb.2.2; omega)
            have hpn:p < n:=by have:=(List.getElem?_eq_some_iff.1 hp).1; have:=r3.len; omega
            have hqn:q < n:=by have:=(List.getElem?_eq_some_iff.1 hq).1; have:=c3.len; omega
            obtain ⟨u,hu⟩:=Bk.ex b3 hpn
            obtain ⟨w,hw⟩:=Bk.ex b3 hqn
            have hu2:u < st.length - 1:=by obtain ⟨_,_,_,h5,_⟩:=hu; have:=(List.getElem?_eq_some_iff.1 h5).1; omega
            have hw2:w < st.length - 1:=by obtain ⟨_,_,_,h5,_⟩:=hw; have:=(List.getElem?_eq_some_iff.1 h5).1; omega
            have g1:getI r.1 e.1=some (p:Int):=by rw [hx]; exact r4.at_ p _ hp
            have g2:getI b.1 (p:Int)=some (u:Int):=b4.get p u hu2 hu
            have g3:getI c.1 e.2.1=some (q:Int):=by rw [hy]; exact c4.at_ q _ hq
            have g4:getI b.1 (q:Int)=some (w:Int):=b4.get q w hw2 hw
            rw [bindS g1,bindS g2,bindS g3,bindS g4]
            have hp':rows[p]?=some e.1:=by rw [hx]; exact hp
            have hq':cols[q]?=some e.2.1:=by rw [hy]; exact hq
            by_cases hlt:(w:Int) < (u:Int)
            · rw [if_pos hlt,ret_some,vq_r]
              refine .inr ⟨rfl,fun hU=>?_⟩
              have:=hU e (mem_get he) p q u w hp' hq' hu hw
              omega
            · rw [if_neg hlt,wa1 (by omega),ret_some,vq_l]
              exact ⟨hkl,rfl,upper_step b3 r3 c3 he hI hp' hq' hu hw (by omega)⟩
          · rw [if_neg (by omega),ret_some,vq_r]
            rw [List.take_of_length_le (by omega)] at hI
            exact .inl ⟨rfl,hI⟩
        obtain ⟨o,p1,⟨rfl,p2⟩ | ⟨rfl,p2⟩⟩:=hlp
        · rw [bindS p1,ret_some]
          exact .inr (.inr ⟨rfl,⟨r3,c3⟩,b3,p2⟩)
        · rw [bindS p1,ret_some]
          exact .inr (.inl ⟨rfl,⟨r3,c3⟩,fun hh=>p2 hh.2⟩)
      · rw [if_neg (by simp [b2]),ret_some]
        exact .inr (.inl ⟨rfl,⟨r3,c3⟩,fun hh=>b3 hh.1⟩)
    · rw [if_pos (by simp [c2]),ret_some]
      exact .inl ⟨rfl,fun hh=>c3 hh.2⟩
  · rw [if_pos (by simp [r2]),ret_some]
    exact .inl ⟨rfl,fun hh=>r3 hh.1⟩
end Km
namespace Km
open Pl Sx Go M Vc
section
variable {n:Nat} {r:Nat→Nat→Prop} {L:List Nat} {e:Nat→Nat→Prop} {f:Nat→Nat}
theorem stsE_at {b:Nat} (hb:b≤L.length):(stsE n r L)[b]?=some (off (clsE n r L) b:Int):=by
  unfold stsE
  rw [List.getElem?_map,List.getElem?_range (by omega)]
  rfl
theorem stsE_len:(stsE n r L).length=L.length+1:=by simp [stsE]
theorem cls_pos (hp:Pre r) {m:Nat} (hm:m < n):0 < (cls n r m).length:=
  List.length_pos_iff.2 (List.ne_nil_of_mem ((cls_iff hm).2 ⟨hp.refl m,hp.refl m⟩))
theorem Full.sts (h:Full n r L):Sts (stsE n r L) n:=by
  refine ⟨?_,?_,asc_of_step fun b x y hx hy=>?_⟩
  · rw [stsE_at (by omega)]; simp [off]
  · have h1:=off_all (clsE n r L)
    rw [show (clsE n r L).length=L.length by simp [clsE],h.cols_len] at h1
    rw [stsE_len,Nat.add_sub_cancel,stsE_at (Nat.le_refl _),h1]
  · have hl:=(List.getElem?_eq_some_iff.1 hy).1
    rw [stsE_len] at hl
    rw [stsE_at (by omega)] at hx hy
    have hb:L[b]?=some (L[b]'(by omega)):=List.getElem?_eq_getElem (by omega)
    have h1:=off_succ (clsE_at (n:=n) (r:=r) hb)
    have h2:=cls_pos (n:=n) h.p (h.o.lt (mem_get_nat hb))
    have:=Option.some.inj hx
    have:=Option.some.inj hy
    omega
where mem_get_nat {α:Type} {l:List α} {k:Nat} {x:α} (h:l[k]?=some x):x∈l:=List.mem_of_getElem? h
theorem off_same (hf:Pfm n e f):∀ b:Nat,b≤L.length→off (rwsE n r f L) b=off (clsE n r L) b
  | 0,_=>by simp [off]
  | b+1,hb=>by
    have h0:L[b]?=some (L[b]'(by omega)):=List.getElem?_eq_getElem (by omega)
    rw [off_succ (clsE_at (n:=n) (r:=r) h0),off_succ (rwsE_at (n:=n) (r:=r) (f:=f) h0),off_same hf b (by omega),blk_len hf]
theorem at_block {E:List (List Int)} {b p:Nat} {l:List Int} {x:Int} (hb:E[b]?=some l) (h1:off E b≤p) (h2:p < off E (b+1)) (hx:E.flatten[p]?=some x):x∈l:=by
  have:=slice_at hb
  rw [← this]
  refine List.mem_iff_getElem?.2 ⟨p - off E b,?_⟩
  rw [List.getElem?_drop,List.getElem?_take,if_pos (by omega),show off E b+(p - off E b)=p by omega,hx]
theorem bk_off {p b:Nat} (h:Bk (stsE n r L) p b):b < L.length∧off (clsE n r L) b≤p∧p < off (clsE n r L) (b+1):=by
  obtain ⟨x,y,hx,hy,h1,h2⟩:=h
  have hl:=(List.getElem?_eq_some_iff.1 hy).1
  rw [stsE_len] at hl
  rw [stsE_at (by omega)] at hx hy
  have:=Option.some.inj hx
  have:=Option.some.inj hy
  exact ⟨by omega,by omega,by omega⟩
theorem Full.col_at (h:Full n r L) {p b m:Nat} {x:Int} (hB:Bk (stsE n r L) p b) (hm:L[b]?=some m) (hx:(clsE n r L).flatten[p]?=some x):x∈cls n r m:=by
  obtain ⟨h1,h2,h3⟩:=bk_off hB
  exact at_block (clsE_at hm) h2 h3 hx
theorem Full.row_at (h:Full n r L) (hf:Pfm n e f) {p b m:Nat} {x:Int} (hB:Bk (stsE n r L) p b) (hm:L[b]?=some m) (hx:(rwsE n r f L).flatten[p]?=some x):x∈rws n r f m:=by
  obtain ⟨h1,h2,h3⟩:=bk_off hB
  exact at_block (rwsE_at hm) (by rw [off_same hf b (by omega)]; exact h2) (by rw [off_same hf (b+1) (by omega)]; exact h3) hx
theorem Full.pm_cols (h:Full n r L):Pm (clsE n r L).flatten n:=⟨h.cols_len,h.cols_nd,fun x hx=>Full.cols_rng hx⟩
theorem Full.pm_rows (h:Full n r L) (hf:Pfm n e f):Pm (rwsE n r f L).flatten n:=⟨h.rows_len hf,h.rows_nd hf,fun x hx=>Full.rows_rng hx⟩
end
theorem Full.ck {n:Nat} {s i v:List Int} {l:List Px.En3} {f:Nat→Nat} {L:List Nat} (hm:Px.Mat n n s i v l) (hf:Pfm n (inE (colsOf s i n)) f) (h:Full n (RT (arcF n (inE (colsOf s i n)) f)) L):
    Ck n (rwsE n (RT (arcF n (inE (colsOf s i n)) f)) f L).flatten (clsE n (RT (arcF n (inE (colsOf s i n)) f)) L).flatten (stsE n (RT (arcF n (inE (colsOf s i n)) f)) L) l 0:=by
  refine .inr (.inr ⟨rfl,⟨h.pm_rows hf,h.pm_cols⟩,h.sts,fun e he p q b c h1 h2 h3 h4=>?_⟩)
  obtain ⟨k1,k2,k3⟩:=bk_off h3
  obtain ⟨k4,k5,k6⟩:=bk_off h4
  have hb:L[b]?=some (L[b]'(by omega)):=List.getElem?_eq_getElem (by omega)
  have hc:L[c]?=some (L[c]'(by omega)):=List.getElem?_eq_getElem (by omega)
  have hr:=h.row_at hf h3 hb h1
  have hcl:=h.col_at h4 hc h2
  have hbd:=hm.bd e he
  have hb1:=hbd.1.1
  have hb2:=hbd.2.1
  have hin:inE (colsOf s i n) e.2.1.toNat e.1.toNat:=(en_in hm).1 ⟨e,he,by omega,by omega⟩
  refine h.upper hf hin hb ?_ hc ?_
  · rw [Int.toNat_of_nonneg hbd.1.1]; exact hr
  · rw [Int.toNat_of_nonneg hbd.2.1]; exact hcl
theorem perfect_ok {R C:Nat} {E:List (List Int)} {st ix vl:List Int} (hM:Mv R C E st ix vl) (hR:R≤100000) (hC:C≤1000) (hx:ix.length≤1000000) {a b:List Int} {mm:List Bool} {hr hc:List Bool} (hm:matching_matched (R:Int) (C:Int) st ix vl=some (E,a,b,mm)) (hMat:Mat R C E a b hr hc):
    sparseref15_Perfect (R:Int) (C:Int) st ix vl=some (if (-1:Int)∈a then ([],false) else (a,true)):=by
  have hf:=find_ok hM hR (by omega) hx hm
  obtain ⟨D,hF⟩:=hMat.fin
  have hal:=hF.1.al
  have h1:Ret (loop (sparseref15_Perfect_l1 (b,a,mm)) 0) (fun o=>(o=.inl ()∧(-1:Int)∉a)∨(o=.inr ()∧(-1:Int)∈a)):=by
    refine ret_loop C (fun k (t:Int)=>t=(k:Int)∧(-1:Int)∉a.take k) ⟨rfl,by simp⟩ ?_
    rintro k _ hk ⟨rfl,hI⟩
    unfold sparseref15_Perfect_l1
    simp only
    by_cases hkl:k < C
    · have hak:a[k]?=some (a[k]'(by omega)):=List.getElem?_eq_getElem (by omega)
      have g0:getI a (k:Int)=some (a[k]'(by omega)):=hak
      rw [if_pos (by omega),bindS g0]
      generalize a[k]'(by omega)=x at hak
      by_cases hx:x < 0
      · rw [if_pos hx,ret_some,vq_r]
        refine .inr ⟨rfl,?_⟩
        have:x= -1:=Classical.byContradiction fun h=>by have:=hF.1.row k x hak h; omega
        exact this▸mem_get hak
      · rw [if_neg hx,wa1 (by omega),ret_some,vq_l]
        refine ⟨hkl,rfl,fun h=>?_⟩
        rcases (mts hak).1 h with h | h
        · exact hI h
        · omega
    · rw [if_neg (by omega),ret_some,vq_r]
      rw [take_all (by omega)] at hI
      exact .inl ⟨rfl,hI⟩
  unfold sparseref15_Perfect
  rw [bindS hf]
  obtain ⟨o,h2,⟨rfl,h3⟩ | ⟨rfl,h3⟩⟩:=h1
  · rw [bindS h2,if_neg h3]
  · rw [bindS h2,if_pos h3]
theorem made_ok {m n:Nat} (hm:m≤8) (hn:n≤8) {x:List Int} (hx:x.length≤90):∃ s i v l,sparsemake_Matrix (m:Int) (n:Int) x=some ((m:Int),(n:Int),s,i,v)∧Px.Mat m n s i v l:=by
  obtain ⟨s,i,v,h1,h2,h3,h4,h5⟩:=Pw.matrix_ok (m:=m) (n:=n) (by omega) (by omega) x (by omega)
  have:m*n≤8*8:=Nat.mul_le_mul hm hn
  obtain ⟨l,hl⟩:=Px.mat_of h2 h3 (by omega) h5 (by omega)
  exact ⟨s,i,v,l,h1,hl⟩
theorem awake15:sparselaw15_awake=some true:=by kernel_rfl
end Km
namespace Px
open Pu Pl Sx Go M Vc
def sw (e:En3):En3:=(e.2.1,e.1,e.2.2)
theorem sw_loop {l:List En3} (hl:l.length≤1000):loop (matrix_Transpose_l1 l) (l,0)=some (l.map sw):=by
  refine Ret.eq ?_
  refine ret_loop l.length (fun k (t:List En3×Int)=>t.2=k∧t.1=(l.take k).map sw++l.drop k) ⟨rfl,by simp⟩ ?_
  rintro k ⟨t,i⟩ hk ⟨rfl,rfl⟩
  unfold matrix_Transpose_l1
  by_cases hkl:k < l.length
  · obtain ⟨e,he⟩:∃ e,l[k]?=some e:=⟨l[k],by simp [hkl]⟩
    have e5:(k:Int) < (l.length:Int):=by omega
    have hw:wa .i64 (k:Int) 1=((k+1:Nat):Int):=wa1 (by omega)
    have hd:l.drop k=e::l.drop (k+1):=by
      rw [List.drop_eq_getElem_cons hkl]
      congr 1
      have:=(List.getElem?_eq_some_iff.1 he).2
      exact this
    generalize hA:(l.take k).map sw=A
    have hAl:A.length=k:=by rw [← hA]; simp; omega
    have e1:getI (A++l.drop k) (k:Int)=some e:=by
      rw [getI_cast,List.getElem?_append_right (by omega),hAl,hd]; simp
    have s1:∀ z z':En3,setI (A++z::l.drop (k+1)) (k:Int) z'=some (A++z'::l.drop (k+1)):=by
      intro z z'
      rw [setI_lt (by simp; omega)]
      congr 1
      rw [List.set_append_right _ _ (by omega),hAl]
      simp
    have g1:∀ z:En3,getI (A++z::l.drop (k+1)) (k:Int)=some z:=by
      intro z
      rw [getI_cast,List.getElem?_append_right (by omega),hAl]; simp
    rw [hd]
    simp only [ret_bind,ret_if,e5,ret_of (g1 _),ret_of (s1 _ _),hw,ret_some,vq_l,vq_r,true_implies,not_true_eq_false,false_implies,and_true]
    refine ⟨by omega,trivial,?_⟩
    rw [tks he,List.map_append,hA]
    show A++(e.2.1,e.1,e.2.2)::l.drop (k+1)=A++[sw e]++l.drop (k+1)
    rw [List.append_assoc]; rfl
  · have e5:¬ (k:Int) < (l.length:Int):=by omega
    have:k=l.length:=by omega
    subst this
    simp only [vcD,implies_true,Bool.false_eq_true,reduceCtorEq,e5]
    simp
theorem transpose_ok {m n:Nat} {s i v:List Int} {l:List En3} (hm:m≤50) (hn:n≤50) (h:Mat m n s i v l):
    ∃ s' i' v' o,matrix_Transpose (m:Int) (n:Int) s i v=some ((n:Int),(m:Int),s',i',v',0)∧Mat n m s' i' v' o∧o.Perm (l.map sw):=by
  have hll:=h.llen
  obtain ⟨s',i',v',o,p1,p2,p3⟩:=build_mat (l:=l.map sw) (m:=n) (n:=m) hn hm (by simpa using hll) (fun e he=>by
    obtain ⟨e',he',rfl⟩:=List.mem_map.1 he
    exact ⟨(h.bd e' he').2,(h.bd e' he').1⟩) (fun e he=>by
    obtain ⟨e',he',rfl⟩:=List.mem_map.1 he
    show Fn e'.2.2=true
    exact h.fin he') (by
    unfold Apart
    rw [List.pairwise_map]
    exact (lt_apart h.lt).imp fun {a b} hne hh=>hne ⟨hh.2,hh.1⟩)
  refine ⟨s',i',v',o,?_,p2,p3⟩
  unfold matrix_Transpose
  rw [bindS (h.check hn),if_pos rfl,bindS h.ent,bindS (sw_loop (by omega)),bindS p1]
theorem en_sw {l:List En3} {x y:Nat}:En (l.map sw) x y↔En l y x:=by
  unfold En
  constructor
  · rintro ⟨e,he,h1,h2⟩
    obtain ⟨e',he',rfl⟩:=List.mem_map.1 he
    exact ⟨e',he',h2,h1⟩
  · rintro ⟨e,he,h1,h2⟩
    exact ⟨sw e,List.mem_map.2 ⟨e,he,rfl⟩,h2,h1⟩
theorem rsw_loop {l:List En3} (hl:l.length≤1000):loop sparseref09_Transpose_l1 (l,0)=some (l.map sw):=by
  refine Ret.eq ?_
  refine ret_loop l.length (fun k (t:List En3×Int)=>t.2=k∧t.1=(l.take k).map sw++l.drop k) ⟨rfl,by simp⟩ ?_
  rintro k ⟨t,i⟩ hk ⟨rfl,rfl⟩
  unfold sparseref09_Transpose_l1
  have htl:((l.take k).map sw++l.drop k).length=l.length:=by simp; omega
  by_cases hkl:k < l.length
  · have he:l[k]?=some l[k]:=List.getElem?_eq_getElem hkl
    have hd:l.drop k=l[k]::l.drop (k+1):=List.drop_eq_getElem_cons hkl
    generalize l[k]=e at he hd
    have hAl:((l.take k).map sw).length=k:=by simp; omega
    rw [hd]
    have g1:∀ z:En3,getI ((l.take k).map sw++z::l.drop (k+1)) (k:Int)=some z:=fun z=>gm rfl hAl.symm
    have s1:∀ z z':En3,setI ((l.take k).map sw++z::l.drop (k+1)) (k:Int) z'=some ((l.take k).map sw++z'::l.drop (k+1)):=fun z z'=>sm rfl hAl.symm
    rw [hd] at htl
    simp only
    rw [if_pos (by omega),bindS (g1 _),bindS (g1 _),bindS (g1 _),bindS (g1 _),bindS (s1 _ _),bindS (g1 _),bindS (g1 _),bindS (s1 _ _),wa1 (by omega),ret_some,vq_l]
    refine ⟨hkl,rfl,?_⟩
    rw [tks he,List.map_append]
    simp [sw]
  · simp only
    have:k=l.length:=by omega
    subst this
    rw [if_neg (by omega),ret_some,vq_r]
    simp
end Px
namespace Km
open Pl Sx Go M Vc
theorem Mv.ext {R C:Nat} {E E':List (List Int)} {st ix vl:List Int} (h:Mv R C E st ix vl) (h':Mv R C E' st ix vl):E=E':=by
  refine List.ext_getElem? fun j=>?_
  by_cases hj:j < C
  · have h1:E[j]?=some (E[j]'(by rw [h.len]; exact hj)):=List.getElem?_eq_getElem _
    have h2:E'[j]?=some (E'[j]'(by rw [h'.len]; exact hj)):=List.getElem?_eq_getElem _
    generalize E[j]'(by rw [h.len]; exact hj)=l at h1
    generalize E'[j]'(by rw [h'.len]; exact hj)=l' at h2
    have o1:=h.ste j (by omega)
    have o2:=h'.ste j (by omega)
    have o3:=h.ste (j+1) hj
    have o4:=h'.ste (j+1) hj
    rw [o1] at o2
    rw [o3] at o4
    have p1:=Option.some.inj o2
    have p2:=Option.some.inj o4
    have q1:=slice_at h1
    have q2:=slice_at h2
    rw [← h.ixe] at q1
    rw [← h'.ixe,← show off E j=off E' j by omega,← show off E (j+1)=off E' (j+1) by omega,q1] at q2
    rw [h1,h2,q2]
  · rw [List.getElem?_eq_none (by rw [h.len]; omega),List.getElem?_eq_none (by rw [h'.len]; omega)]
theorem cols_ext {R C:Nat} {E E':List (List Int)} {st ix vl st' ix' vl':List Int} (h:Mv R C E st ix vl) (h':Mv R C E' st' ix' vl') (he:∀ c i,inE E c i↔inE E' c i):E=E':=by
  refine List.ext_getElem? fun j=>?_
  by_cases hj:j < C
  · have h1:E[j]?=some (E[j]'(by rw [h.len]; exact hj)):=List.getElem?_eq_getElem _
    have h2:E'[j]?=some (E'[j]'(by rw [h'.len]; exact hj)):=List.getElem?_eq_getElem _
    generalize E[j]'(by rw [h.len]; exact hj)=l at h1
    generalize E'[j]'(by rw [h'.len]; exact hj)=l' at h2
    rw [h1,h2]
    congr 1
    refine asc_eq (h.asc _ (mem_get h1)) (h'.asc _ (mem_get h2)) fun x=>?_
    constructor
    · intro hx
      have:=h.rng _ (mem_get h1) x hx
      obtain ⟨m,g1,g2⟩:=(he j x.toNat).1 ⟨l,h1,by rw [Int.toNat_of_nonneg this.1]; exact hx⟩
      rw [h2] at g1
      obtain rfl:=Option.some.inj g1
      rw [Int.toNat_of_nonneg this.1] at g2
      exact g2
    · intro hx
      have:=h'.rng _ (mem_get h2) x hx
      obtain ⟨m,g1,g2⟩:=(he j x.toNat).2 ⟨l',h2,by rw [Int.toNat_of_nonneg this.1]; exact hx⟩
      rw [h1] at g1
      obtain rfl:=Option.some.inj g1
      rw [Int.toNat_of_nonneg this.1] at g2
      exact g2
  · rw [List.getElem?_eq_none (by rw [h.len]; omega),List.getElem?_eq_none (by rw [h'.len]; omega)]
theorem matched_any {R C:Nat} {E:List (List Int)} {st ix vl st' ix' vl':List Int} (h:Mv R C E st ix vl) (h':Mv R C E st' ix' vl') (hC:C≤100000) (hx:ix.length≤10000) (hx':ix'.length≤10000):matching_matched (R:Int) (C:Int) st ix vl=matching_matched (R:Int) (C:Int) st' ix' vl':=by
  unfold matching_matched
  rw [edges_ok h hC (by omega),edges_ok h' hC (by omega)]
theorem rcheck_ok {m n:Nat} {s i v:List Int} {l:List Px.En3} (h:Px.Mat m n s i v l) (hn:n≤50):sparseref09_Check (m:Int) (n:Int) s i v=some 0:=by
  obtain ⟨e,h1,h2,_⟩:=Pu.checks (x1:=m) (x2:=n) (x3:=s) (x5:=i) (x7:=v) (by have:=h.sl; omega) (by have:=h.len; omega) (by have:=h.va.hd.lv; have:=h.len; omega)
  rw [h.check hn] at h1
  obtain rfl:=Option.some.inj h1
  exact h2
theorem rents_ok {m n:Nat} {s i v:List Int} {l:List Px.En3} (h:Px.Mat m n s i v l) (hn:n≤50):sparseref09_Entries (m:Int) (n:Int) s i v=some l:=by
  obtain ⟨l',h1,h2,_⟩:=Pu.ents h.va (by have:=h.len; omega) (h.check hn) (rcheck_ok h hn)
  rw [h.ents hn] at h1
  obtain rfl:=Option.some.inj h1
  exact h2
theorem fn_chk {f:Int} (h:Pu.Fn f=true):matrix_Check_1 f=some false:=by
  unfold matrix_Check_1
  rw [bindS (Pu.fin_p f),h]
  rfl
theorem rtranspose_ok {m n:Nat} {s i v:List Int} {l:List Px.En3} (h:Px.Mat m n s i v l) (hm:m≤50) (hn:n≤50):
    ∃ s' i' v' E',sparseref09_Transpose (m:Int) (n:Int) s i v=some ((n:Int),(m:Int),s',i',v',0)∧Mv n m E' s' i' v'∧∀ c r,inE (colsOf s i n) c r↔inE E' r c:=by
  have hll:=h.llen
  have hEn:En n m (l.map Px.sw):=⟨fun e he=>(by
    obtain ⟨e',he',rfl⟩:=List.mem_map.1 he
    exact (h.bd e' he').2),fun e he=>(by
    obtain ⟨e',he',rfl⟩:=List.mem_map.1 he
    exact (h.bd e' he').1),fun e he=>(by
    obtain ⟨e',he',rfl⟩:=List.mem_map.1 he
    show matrix_Check_1 e'.2.2=some false
    exact fn_chk (h.fin he'))⟩
  obtain ⟨st,ix,vl,p1,p2⟩:=pack_ok (R:=n) (C:=m) (by omega) (by omega) (L:=l.map Px.sw) (by simp; omega) hEn
  refine ⟨st,ix,vl,_,?_,p2,fun c r=>?_⟩
  · unfold sparseref09_Transpose
    rw [bindS (rcheck_ok h hn),if_pos rfl,bindS (rents_ok h hn),bindS (Px.rsw_loop (by omega)),bindS p1]
  · rw [packE_in,← en_in h]
    constructor
    · rintro ⟨e,he,h1,h2⟩
      have hb:=h.bd e he
      refine ⟨by have:=hb.1.2; omega,by have:=hb.2.2; omega,e.2.2,List.mem_map.2 ⟨e,he,?_⟩⟩
      simp only [Px.sw]
      rw [h1,h2]
    · rintro ⟨_,_,x,hx⟩
      obtain ⟨e,he,h3⟩:=List.mem_map.1 hx
      simp only [Px.sw,Prod.mk.injEq] at h3
      exact ⟨e,he,h3.2.1,h3.1⟩
theorem list_rows {l:List Bool} (hl:l.length≤100000):matching_List l true=some (rowsL l):=by
  rw [list_b hl]
  unfold rowsL tr
  congr
theorem chosen_rows {l:List Bool} (hl:l.length≤100000):sparseref13_Chosen l true=some (rowsL l):=by
  rw [fchosen_ok hl]
  unfold rowsL tr
  congr
theorem ntr {l:List Bool} {k:Nat} {b:Bool} (h:l[k]?=some b):b=false↔¬ tr l k:=by
  rw [← tr_iff h]
  cases b<;>simp
theorem rest_ok {a b:List Bool} {n:Nat} (ha:a.length=n) (hb:b.length=n) (hn:n≤100000):blocks_rest a b=some (sqL a b n):=by
  classical
  unfold blocks_rest
  have h1:loop (blocks_rest_l5 a b) ([],0)=some (sqL a b n):=by
    refine Ret.eq ?_
    refine ret_loop n (fun k (t:List Int×Int)=>t=(coll (fun i=>¬ tr a i∧¬ tr b i) k,(k:Int))) (by simp [coll]) ?_
    rintro k _ hk rfl
    unfold blocks_rest_l5 blocks_rest_j7
    simp only
    have hcl:=coll_len (tm:=fun i=>¬ tr a i∧¬ tr b i) k
    by_cases hkn:k < n
    · have ha1:a[k]?=some (a[k]'(by omega)):=List.getElem?_eq_getElem (by omega)
      have hb1:b[k]?=some (b[k]'(by omega)):=List.getElem?_eq_getElem (by omega)
      have g1:getI a (k:Int)=some (a[k]'(by omega)):=ha1
      have g2:getI b (k:Int)=some (b[k]'(by omega)):=hb1
      have i1:=ntr ha1
      have i2:=ntr hb1
      have j1:=tr_iff ha1
      have j2:=tr_iff hb1
      rw [if_pos (by omega),bindS g1,wa1 (by omega)]
      cases hx:a[k]'(by omega) with
      | true=>
        rw [hx] at j1
        rw [if_pos rfl,obs,if_neg (by simp),ret_some,vq_l]
        refine ⟨hkn,?_⟩
        rw [coll,if_neg (fun h=>h.1 (j1.1 rfl)),List.append_nil]
      | false=>
        rw [hx] at i1
        rw [if_neg (by simp),bindS g2,obs]
        cases hy:b[k]'(by omega) with
        | true=>
          rw [hy] at j2
          rw [if_neg (by simp),ret_some,vq_l]
          refine ⟨hkn,?_⟩
          rw [coll,if_neg (fun h=>h.2 (j2.1 rfl)),List.append_nil]
        | false=>
          rw [hy] at i2
          rw [if_pos (by simp),bindS (app_small (by simp; omega)),ret_some,vq_l]
          refine ⟨hkn,?_⟩
          rw [coll,if_pos ⟨i1.1 rfl,i2.1 rfl⟩]
    · rw [if_neg (by omega),ret_some,vq_r]
      have:k=n:=by omega
      subst this
      unfold sqL
      congr
  rw [bindS h1]
structure Co (m n:Nat) (E E':List (List Int)) (a b a' b':List Int) (hr hc vc vr:List Bool) (s i v:List Int):Prop where
  d:Dm m n E E' a b a' b' hr hc vc vr
  mt:∃ mm,matching_matched (m:Int) (n:Int) s i v=some (E,a,b,mm)
  mt':∀ s' i' v',Mv n m E' s' i' v'→i'.length≤10000→∃ mm,matching_matched (n:Int) (m:Int) s' i' v'=some (E',a',b',mm)
theorem coarse_ok {m n:Nat} {s i v:List Int} {l:List Px.En3} (h:Px.Mat m n s i v l) (hm:m≤50) (hn:n≤50):
    ∃ E' a b a' b' hr hc vc vr,Co m n (colsOf s i n) E' a b a' b' hr hc vc vr s i v∧blocks_Coarse (m:Int) (n:Int) s i v=some (rowsL hr,rowsL hc,sqL hr vr m,sqL hc vc n,rowsL vr,rowsL vc,0)∧∃ s' i' v',Mv n m E' s' i' v':=by
  obtain ⟨s',i',v',o,t1,t2,t3⟩:=Px.transpose_ok hm hn h
  have hM:=mat_mv h
  have hM':=mat_mv t2
  have hK:=hM.kb (show m≤100000 by omega)
  have hK':=hM'.kb (show n≤100000 by omega)
  have hlen:=h.len
  have hlen':=t2.len
  have hE:=edges_ok hM (by omega) (by omega) (m:Int)
  have hE':=edges_ok hM' (by omega) (by omega) (n:Int)
  obtain ⟨⟨hr,hc⟩,q1,a,b,mm,q2,q3⟩:=reachable_of hK (by omega) (by omega) rfl rfl hE
  obtain ⟨⟨vc,vr⟩,q1',a',b',mm',q2',q3'⟩:=reachable_of hK' (by omega) (by omega) rfl rfl hE'
  simp only at q3 q3'
  have hrl:=q3.rch.rl
  have hcl:=q3.rch.cl
  have vrl:=q3'.rch.rl
  have vcl:=q3'.rch.cl
  refine ⟨_,a,b,a',b',hr,hc,vc,vr,⟨⟨q3,q3',hK,hK',fun c r=>?_⟩,⟨mm,q2⟩,fun s2 i2 v2 h2 h2l=>⟨mm',by rw [← q2']; exact matched_any h2 hM' (by omega) h2l (by omega)⟩⟩,?_,s',i',v',hM'⟩
  · rw [← en_in h,← en_in t2,Px.en_perm t3,Px.en_sw]
  · unfold blocks_Coarse
    rw [bindS t1]
    simp only [if_true]
    rw [bindS q1,bindS q1']
    simp only
    rw [bindS (list_rows (by omega)),bindS (list_rows (by omega)),bindS (rest_ok hrl vcl (by omega)),bindS (rest_ok hcl vrl (by omega)),bindS (list_rows (by omega)),bindS (list_rows (by omega))]
theorem rsq_rows {m:Nat} {hr hc vc vr:List Bool} (h1:hr.length=m) (h2:vr.length=m) (hm:m≤100000):loop (sparseref15_Coarse_l5 (m:Int) (hr,hc) (vc,vr)) ([],0)=some (sqL hr vr m):=by
  classical
  refine Ret.eq ?_
  refine ret_loop m (fun k (t:List Int×Int)=>t=(coll (fun i=>¬ tr hr i∧¬ tr vr i) k,(k:Int))) (by simp [coll]) ?_
  rintro k _ hk rfl
  unfold sparseref15_Coarse_l5 sparseref15_Coarse_j14
  simp only
  have hcl:=coll_len (tm:=fun i=>¬ tr hr i∧¬ tr vr i) k
  by_cases hkn:k < m
  · have ha1:hr[k]?=some (hr[k]'(by omega)):=List.getElem?_eq_getElem (by omega)
    have hb1:vr[k]?=some (vr[k]'(by omega)):=List.getElem?_eq_getElem (by omega)
    have g1:getI hr (k:Int)=some (hr[k]'(by omega)):=ha1
    have g2:getI vr (k:Int)=some (vr[k]'(by omega)):=hb1
    have i1:=ntr ha1
    have i2:=ntr hb1
    have j1:=tr_iff ha1
    have j2:=tr_iff hb1
    rw [if_pos (by omega),bindS g1,wa1 (by omega)]
    cases hx:hr[k]'(by omega) with
    | true=>
      rw [hx] at j1
      rw [if_pos rfl,obs,if_neg (by simp),ret_some,vq_l]
      refine ⟨hkn,?_⟩
      rw [coll,if_neg (fun h=>h.1 (j1.1 rfl)),List.append_nil]
    | false=>
      rw [hx] at i1
      rw [if_neg (by simp),bindS g2,obs]
      cases hy:vr[k]'(by omega) with
      | true=>
        rw [hy] at j2
        rw [if_neg (by simp),ret_some,vq_l]
        refine ⟨hkn,?_⟩
        rw [coll,if_neg (fun h=>h.2 (j2.1 rfl)),List.append_nil]
      | false=>
        rw [hy] at i2
        rw [if_pos (by simp),bindS (app_small (by simp; omega)),ret_some,vq_l]
        refine ⟨hkn,?_⟩
        rw [coll,if_pos ⟨i1.1 rfl,i2.1 rfl⟩]
  · rw [if_neg (by omega),ret_some,vq_r]
    have:k=m:=by omega
    subst this
    unfold sqL
    congr
theorem rsq_cols {n:Nat} {hr hc vc vr:List Bool} (h1:hc.length=n) (h2:vc.length=n) (hn:n≤100000):loop (sparseref15_Coarse_l10 (n:Int) (hr,hc) (vc,vr)) ([],0)=some (sqL hc vc n):=
  rsq_rows (hr:=hc) (hc:=hr) (vc:=vr) (vr:=vc) h1 h2 hn
theorem rcoarse_ok {m n:Nat} {s i v:List Int} {l:List Px.En3} (h:Px.Mat m n s i v l) (hm:m≤50) (hn:n≤50) {E':List (List Int)} {a b a' b':List Int} {hr hc vc vr:List Bool} (hC:Co m n (colsOf s i n) E' a b a' b' hr hc vc vr s i v) {s0 i0 v0:List Int} (h0:Mv n m E' s0 i0 v0):
    sparseref15_Coarse (m:Int) (n:Int) s i v=some (rowsL hr,rowsL hc,sqL hr vr m,sqL hc vc n,rowsL vr,rowsL vc,0):=by
  obtain ⟨s',i',v',E2,t1,t2,t3⟩:=rtranspose_ok h hm hn
  obtain rfl:E2=E':=cols_ext t2 h0 fun c r=>by rw [← t3,hC.d.t]
  have hM:=mat_mv h
  have hlen:=h.len
  have hil:i'.length≤10000:=by
    have h1:=t2.ixe
    have h2:∀ L:List (List Int),(∀ l,l∈L→l.length≤50)→L.flatten.length≤L.length*50:=by
      intro L
      induction L with
      | nil=>simp
      | cons x L ih=>
        intro hL
        have:=ih fun l hl=>hL l (by simp [hl])
        have:=hL x (by simp)
        simp only [List.flatten_cons,List.length_append,List.length_cons]
        omega
    have h3:=h2 E2 fun l hl=>by have:=asc_len (t2.asc l hl) (t2.rng l hl); omega
    rw [h1]
    have:=t2.len
    omega
  obtain ⟨mm,m1⟩:=hC.mt
  obtain ⟨mm',m2⟩:=hC.mt' s' i' v' t2 hil
  have hrl:=hC.d.h.rch.rl
  have hcl:=hC.d.h.rch.cl
  have vrl:=hC.d.v.rch.rl
  have vcl:=hC.d.v.rch.cl
  unfold sparseref15_Coarse
  rw [bindS (rcheck_ok h hn),if_pos rfl,bindS t1,bindS (find_ok hM (by omega) (by omega) (by omega) m1)]
  simp only
  rw [bindS (freach_ok hM (by omega) (by omega) (by omega) hC.d.h),bindS (find_ok t2 (by omega) (by omega) (by omega) m2)]
  simp only
  rw [bindS (freach_ok t2 (by omega) (by omega) (by omega) hC.d.v)]
  simp only
  rw [bindS (chosen_rows (by omega)),bindS (chosen_rows (by omega)),bindS (chosen_rows (by omega)),bindS (chosen_rows (by omega)),bindS (rsq_rows hrl vcl (by omega)),bindS (rsq_cols hcl vrl (by omega))]
end Km
namespace Km
open Pl Sx Go M Vc
theorem coll_three {p q r:Nat→Prop} [DecidablePred p] [DecidablePred q] [DecidablePred r]:∀ n:Nat,(∀ i,i < n→(p i∧¬ q i∧¬ r i)∨(¬ p i∧q i∧¬ r i)∨(¬ p i∧¬ q i∧r i))→(coll p n).length+(coll q n).length+(coll r n).length=n
  | 0,_=>by simp [coll]
  | n+1,h=>by
    have h1:=coll_three n fun i hi=>h i (by omega)
    rw [coll,coll,coll]
    rcases h n (by omega) with ⟨a,b,c⟩ | ⟨a,b,c⟩ | ⟨a,b,c⟩
    · rw [if_pos a,if_neg b,if_neg c]; simp only [List.length_append,List.length_singleton,List.length_nil]; omega
    · rw [if_neg a,if_pos b,if_neg c]; simp only [List.length_append,List.length_singleton,List.length_nil]; omega
    · rw [if_neg a,if_neg b,if_pos c]; simp only [List.length_append,List.length_singleton,List.length_nil]; omega
theorem three_len {u w:List Bool} {n:Nat} (hu:u.length=n) (hw:w.length=n) (hd:∀ i,tr u i→¬ tr w i):(rowsL u).length+(sqL u w n).length+(rowsL w).length=n:=by
  classical
  have:=coll_three (p:=fun i=>tr u i) (q:=fun i=>¬ tr u i∧¬ tr w i) (r:=fun i=>tr w i) n fun i hi=>by
    by_cases h1:tr u i
    · exact .inl ⟨h1,fun h=>h.1 h1,hd i h1⟩
    · by_cases h2:tr w i
      · exact .inr (.inr ⟨h1,fun h=>h.2 h2,h2⟩)
      · exact .inr (.inl ⟨h1,⟨h1,h2⟩,h2⟩)
  unfold rowsL sqL
  rw [hu,hw]
  exact this
theorem rowsL_len (u:List Bool):(rowsL u).length≤u.length:=by unfold rowsL; classical exact coll_len _
theorem sqL_len (u w:List Bool) (n:Nat):(sqL u w n).length≤n:=by unfold sqL; classical exact coll_len _
end Km
namespace Km
open Pl Sx Go M Vc
section
variable {n:Nat} {s i v:List Int} {l:List Px.En3} {a:List Int}
theorem arow_ok (h:Px.Mat n n s i v l) (hn:n≤50) (ha:∀ j,j < n→∃ r:Nat,a[j]?=some (r:Int)∧r < n) {j:Nat} (hj:j < n):
    Ret (loop (sparseref15_Arcs_l176 (n:Int) (j:Int) a (n:Int) s i v) (List.replicate n false,0)) (fun o=>o.length=n∧∀ k,k < n→(tr o k↔Wa (arcF n (inE (colsOf s i n)) (rowF a)) 0 j k)):=by
  refine ret_loop n (fun k (t:List Bool×Int)=>t.2=(k:Int)∧t.1.length=n∧∀ c,c < k→(tr t.1 c↔Wa (arcF n (inE (colsOf s i n)) (rowF a)) 0 j c)) ⟨rfl,by simp,fun c hc=>by omega⟩ ?_
  rintro k ⟨o,t⟩ hk ⟨e1,e2,e3⟩
  simp only at e1 e2 e3
  subst e1
  unfold sparseref15_Arcs_l176
  simp only
  by_cases hkn:k < n
  · rw [if_pos (by omega)]
    have key:∀ b:Bool,(b=true↔Wa (arcF n (inE (colsOf s i n)) (rowF a)) 0 j k)→Ret ((setI o (k:Int) b).bind fun x748=>some (Sum.inl (x748,wa .i64 (k:Int) 1)):Option ((List Bool×Int)⊕List Bool)) (VQ (fun t'=>k < n∧t'.2=((k+1:Nat):Int)∧t'.1.length=n∧∀ c,c < k+1→(tr t'.1 c↔Wa (arcF n (inE (colsOf s i n)) (rowF a)) 0 j c)) (fun o=>o.length=n∧∀ k,k < n→(tr o k↔Wa (arcF n (inE (colsOf s i n)) (rowF a)) 0 j k))):=by
      intro b hb
      rw [bindS (setI_lt (by omega)),wa1 (by omega),ret_some,vq_l]
      refine ⟨hkn,rfl,by simp [e2],fun c hc=>?_⟩
      simp only
      by_cases hck:c=k
      · subst hck
        rw [← hb]
        unfold tr
        rw [List.getElem?_set_self (by omega)]
        simp
      · rw [← e3 c (by omega)]
        unfold tr
        rw [List.getElem?_set_ne (by omega)]
    by_cases hjk:j=k
    · rw [if_pos (by omega),obs]
      exact key true ⟨fun _=>.inl hjk,fun _=>rfl⟩
    · obtain ⟨r,hr,hrn⟩:=ha j hj
      have g1:getI a (j:Int)=some (r:Int):=hr
      obtain ⟨b,b1,b2⟩:=Px.stored_ok h.va (by have:=h.len; omega) hrn hkn
      rw [if_neg (by omega),bindS g1,bindS b1,obs]
      refine key b ?_
      rw [b2,sd_in h.va hkn]
      constructor
      · intro he
        exact .inr ⟨hj,hkn,by rw [rowF_at hr]; exact he⟩
      · rintro (he | ⟨_,_,he⟩)
        · exact absurd he hjk
        · rw [rowF_at hr] at he; exact he
  · rw [if_neg (by omega),ret_some,vq_r]
    exact ⟨e2,fun c hc=>e3 c (by omega)⟩
end
section
variable {n:Nat} {e:Nat→Nat→Prop}
theorem war_in (hn:n≤1000) {b a:Nat} (hb:b < n) (ha:a < n) {T:List (List Bool)} (hT:Pu.Tr T n (Wn e b a 0)):Ret (loop (sparseref15_Arcs_l164 (n:Int) (a:Int) (b:Int)) (T,0)) (fun T'=>Pu.Tr T' n (Wn e b (a+1) 0)):=by
  refine ret_loop n (fun k (t:List (List Bool)×Int)=>t.2=(k:Int)∧Pu.Tr t.1 n (Wn e b a k)) ⟨rfl,hT⟩ ?_
  rintro c ⟨T,t⟩ hk ⟨e1,hT⟩
  simp only at e1 hT
  subst e1
  unfold sparseref15_Arcs_l164
  simp only
  by_cases hcn:c < n
  · obtain ⟨x,x1,x2,x3,x4⟩:=hT.row ha
    obtain ⟨p,p1,p2⟩:=x4 c hcn
    obtain ⟨q,q1,q2⟩:=x4 b hb
    obtain ⟨y,y1,y2,y3,y4⟩:=hT.row hb
    obtain ⟨w,w1,w2⟩:=y4 c hcn
    have hTl:=hT.1
    have key:∀ z:Bool,(z=true↔Wn e b a c a c∨Wn e b a c a b∧Wn e b a c b c)→Ret ((setI x (c:Int) z).bind fun x703=>(setI T (a:Int) x703).bind fun x704=>some (Sum.inl (x704,wa .i64 (c:Int) 1)):Option ((List (List Bool)×Int)⊕List (List Bool))) (VQ (fun t'=>c < n∧t'.2=((c+1:Nat):Int)∧Pu.Tr t'.1 n (Wn e b a (c+1))) (fun T'=>Pu.Tr T' n (Wn e b (a+1) 0))):=by
      intro z hz
      rw [bindS (setI_lt (by omega)),bindS (setI_lt (by omega)),wa1 (by omega),ret_some,vq_l]
      refine ⟨hcn,rfl,(hT.put ha x2 (j:=c) (z:=z) hz).congr fun i j hi hj=>?_⟩
      rw [Wn.next]
      by_cases hij:i=a∧j=c
      · rw [if_pos hij]
        exact ⟨fun h=>h.elim (fun h=>h.2.2) fun h=>absurd hij h.1,fun h=>.inl ⟨hij.1,hij.2,h⟩⟩
      · rw [if_neg hij]
        exact ⟨fun h=>h.elim (fun h=>absurd ⟨h.1,h.2.1⟩ hij) fun h=>h.2,fun h=>.inr ⟨hij,h⟩⟩
    rw [if_pos (by omega),bindS x1,bindS x1,bindS p1]
    cases p with
    | true=>
      rw [if_pos rfl,obs]
      exact key true ⟨fun _=>.inl (p2.1 rfl),fun _=>rfl⟩
    | false=>
      rw [if_neg (by simp),bindS x1,bindS q1]
      have np:¬ Wn e b a c a c:=fun h=>by have:=p2.2 h; cases this
      cases q with
      | false=>
        rw [if_neg (by simp),obs,obs]
        have nq:¬ Wn e b a c a b:=fun h=>by have:=q2.2 h; cases this
        exact key false ⟨fun h=>(by cases h),fun h=>h.elim (fun h=>absurd h np) fun h=>absurd h.1 nq⟩
      | true=>
        rw [if_pos rfl,bindS y1,bindS w1,obs,obs]
        refine key w ?_
        rw [w2]
        exact ⟨fun h=>.inr ⟨q2.1 rfl,h⟩,fun h=>h.elim (fun h=>absurd h np) fun h=>h.2⟩
  · rw [if_neg (by omega),ret_some,vq_r]
    refine hT.congr fun i j hi hj=>?_
    unfold Wn
    by_cases h1:i < a∨i=a∧j < c
    · rw [if_pos h1,if_pos (by omega)]
    · rw [if_neg h1,if_neg (by omega)]
theorem war_mid (hn:n≤1000) {b:Nat} (hb:b < n) {T:List (List Bool)} (hT:Pu.Tr T n (Wa e b)):Ret (loop (sparseref15_Arcs_l153 (n:Int) (b:Int)) (T,0)) (fun T'=>Pu.Tr T' n (Wa e (b+1))):=by
  refine ret_loop n (fun k (t:List (List Bool)×Int)=>t.2=(k:Int)∧Pu.Tr t.1 n (Wn e b k 0)) ⟨rfl,hT.congr fun i j hi hj=>?_⟩ ?_
  · unfold Wn
    rw [if_neg (by omega)]
  · rintro a ⟨T,t⟩ hk ⟨e1,hT⟩
    simp only at e1 hT
    subst e1
    unfold sparseref15_Arcs_l153
    simp only
    by_cases han:a < n
    · rw [if_pos (by omega),ret_bind]
      refine ret_call (war_in hn hb han hT) ?_
      intro T' hT'
      rw [wa1 (by omega),ret_some,vq_l]
      exact ⟨han,rfl,hT'⟩
    · rw [if_neg (by omega),ret_some,vq_r]
      refine hT.congr fun i j hi hj=>?_
      unfold Wn
      rw [if_pos (by omega)]
theorem war_all (hn:n≤1000) (he:∀ a c,e a c→a < n) {T:List (List Bool)} (hT:Pu.Tr T n (Wa e 0)):Ret (loop (sparseref15_Arcs_l120 (n:Int)) (T,0)) (fun T'=>Pu.Tr T' n (RT e)):=by
  refine ret_loop n (fun k (t:List (List Bool)×Int)=>t.2=(k:Int)∧Pu.Tr t.1 n (Wa e k)) ⟨rfl,hT⟩ ?_
  rintro b ⟨T,t⟩ hk ⟨e1,hT⟩
  simp only at e1 hT
  subst e1
  unfold sparseref15_Arcs_l120
  simp only
  by_cases hbn:b < n
  · rw [if_pos (by omega),ret_bind]
    refine ret_call (war_mid hn hbn hT) ?_
    intro T' hT'
    rw [wa1 (by omega),ret_some,vq_l]
    exact ⟨hbn,rfl,hT'⟩
  · rw [if_neg (by omega),ret_some,vq_r]
    have:b=n:=by omega
    subst this
    exact hT.congr fun i j hi hj=>Wa.all he
end
theorem rarcs_ok {n:Nat} {s i v:List Int} {l:List Px.En3} {a:List Int} (h:Px.Mat n n s i v l) (hn:n≤50) (ha:∀ j,j < n→∃ r:Nat,a[j]?=some (r:Int)∧r < n):
    Ret (sparseref15_Arcs (n:Int) (n:Int) s i v a) (fun T=>Pu.Tr T n (RT (arcF n (inE (colsOf s i n)) (rowF a)))):=by
  unfold sparseref15_Arcs
  rw [ret_bind]
  refine ret_call (P:=fun T=>Pu.Tr T n (Wa (arcF n (inE (colsOf s i n)) (rowF a)) 0)) ?_ ?_
  · refine ret_loop n (fun k (t:List (List Bool)×Int)=>t.2=(k:Int)∧t.1.length=k∧∀ j,j < k→∃ r,t.1[j]?=some r∧r.length=n∧∀ c,c < n→(tr r c↔Wa (arcF n (inE (colsOf s i n)) (rowF a)) 0 j c)) ⟨rfl,rfl,fun j hj=>by omega⟩ ?_
    rintro k ⟨T,t⟩ hk ⟨e1,e2,e3⟩
    simp only at e1 e2 e3
    subst e1
    unfold sparseref15_Arcs_l21
    simp only
    by_cases hkn:k < n
    · rw [if_pos (by omega),bindS (mkL_nat _ n (by omega)),ret_bind]
      refine ret_call (arow_ok h hn ha hkn) ?_
      rintro o ⟨o1,o2⟩
      rw [bindS (app_small (by simp; omega)),wa1 (by omega),ret_some,vq_l]
      refine ⟨hkn,rfl,by simp [e2],fun j hj=>?_⟩
      simp only
      by_cases hjk:j=k
      · subst hjk
        exact ⟨o,by rw [List.getElem?_append_right (by omega),e2]; simp,o1,o2⟩
      · obtain ⟨r,r1,r2⟩:=e3 j (by omega)
        exact ⟨r,by rw [List.getElem?_append_left (by omega),r1],r2⟩
    · rw [if_neg (by omega),ret_some,vq_r]
      refine ⟨by omega,fun j hj=>?_⟩
      obtain ⟨r,r1,r2,r3⟩:=e3 j (by omega)
      refine ⟨r,r1,r2,fun c hc=>⟨r[c]'(by omega),List.getElem?_eq_getElem (by omega),?_⟩⟩
      rw [tr_iff (List.getElem?_eq_getElem (by omega)),r3 c hc]
  · intro T hT
    rw [ret_bind]
    exact ret_call (war_all (by omega) (fun a c h=>h.1) hT) (fun T' h=>by rw [ret_some]; exact h)
section
variable {n:Nat} {r:Nat→Nat→Prop} {T:List (List Bool)}
theorem ok_loop (hT:Pu.Tr T n r) (hn:n≤1000) {pd:List Bool} (hp:pd.length=n) {j:Nat} (hj:j < n) {b0:Bool} (hb0:b0=true↔¬ tr pd j):
    Ret (loop (sparseref15_Triangular_l172 (n:Int) pd T (j:Int)) (b0,0)) (fun o=>o=true↔free n r (tr pd) j):=by
  refine ret_loop n (fun k (t:Bool×Int)=>t.2=(k:Int)∧(t.1=true↔¬ tr pd j∧∀ c,c < k→tr pd c∨¬ r c j∨r j c)) ⟨rfl,by simp only; rw [hb0]; exact ⟨fun h=>⟨h,fun c hc=>by omega⟩,fun h=>h.1⟩⟩ ?_
  rintro k ⟨b,t⟩ hk ⟨e1,hI⟩
  simp only at e1 hI
  subst e1
  unfold sparseref15_Triangular_l172
  simp only
  by_cases hkn:k < n
  · have hpk:pd[k]?=some (pd[k]'(by omega)):=List.getElem?_eq_getElem (by omega)
    have g1:getI pd (k:Int)=some (pd[k]'(by omega)):=hpk
    have i1:=tr_iff hpk
    obtain ⟨x,x1,_,_,x4⟩:=hT.row hkn
    obtain ⟨y,y1,_,_,y4⟩:=hT.row hj
    obtain ⟨p,p1,p2⟩:=x4 j hj
    obtain ⟨q,q1,q2⟩:=y4 k hkn
    have key:∀ z:Bool,(z=true↔b=true∧(tr pd k∨¬ r k j∨r j k))→Ret (some (Sum.inl (z,wa .i64 (k:Int) 1)):Option ((Bool×Int)⊕Bool)) (VQ (fun t'=>k < n∧t'.2=((k+1:Nat):Int)∧(t'.1=true↔¬ tr pd j∧∀ c,c < k+1→tr pd c∨¬ r c j∨r j c)) (fun o=>o=true↔free n r (tr pd) j)):=by
      intro z hz
      rw [wa1 (by omega),ret_some,vq_l]
      refine ⟨hkn,rfl,?_⟩
      simp only
      rw [hz,hI]
      constructor
      · rintro ⟨⟨h1,h2⟩,h3⟩
        refine ⟨h1,fun c hc=>?_⟩
        by_cases hck:c=k
        · subst hck; exact h3
        · exact h2 c (by omega)
      · rintro ⟨h1,h2⟩
        exact ⟨⟨h1,fun c hc=>h2 c (by omega)⟩,h2 k (by omega)⟩
    rw [if_pos (by omega)]
    cases b with
    | false=>
      rw [if_neg (by simp),obs]
      exact key false ⟨fun h=>(by cases h),fun h=>h.1⟩
    | true=>
      rw [if_pos rfl,bindS g1]
      cases hz:pd[k]'(by omega) with
      | true=>
        rw [hz] at i1
        rw [if_pos rfl,obs,if_pos rfl,obs,obs]
        exact key true ⟨fun _=>⟨rfl,.inl (i1.1 rfl)⟩,fun _=>rfl⟩
      | false=>
        rw [hz] at i1
        have n1:¬ tr pd k:=fun h=>by have:=i1.2 h; cases this
        rw [if_neg (by simp),bindS x1,bindS p1,obs]
        cases p with
        | false=>
          rw [if_pos (by simp),obs,obs]
          exact key true ⟨fun _=>⟨rfl,.inr (.inl fun h=>by have:=p2.2 h; cases this)⟩,fun _=>rfl⟩
        | true=>
          rw [if_neg (by simp),bindS y1,bindS q1,obs,obs]
          refine key q ?_
          rw [q2]
          exact ⟨fun h=>⟨rfl,.inr (.inr h)⟩,fun h=>h.2.elim (fun h=>absurd h n1) fun h=>h.elim (fun h=>absurd (p2.1 rfl) h) id⟩
  · rw [if_neg (by omega),ret_some,vq_r,hI]
    have:k=n:=by omega
    subst this
    rfl
theorem next_loop (hT:Pu.Tr T n r) (hn:n≤1000) {pd:List Bool} (hp:pd.length=n) {m:Nat} (hm:m < n) (hf:free n r (tr pd) m) (hl:∀ j,j < m→¬ free n r (tr pd) j):
    loop (sparseref15_Triangular_l154 pd (n:Int) T) (-1,ws .i64 (n:Int) 1)=some (m:Int):=by
  refine Ret.eq ?_
  have hw0:ws .i64 (n:Int) 1=(n:Int) - 1:=ws_in (by constructor<;>omega)
  rw [hw0]
  refine ret_loop n (fun k (t:Int×Int)=>t.2=(n:Int) - 1 - (k:Int)∧((t.1= -1∧∀ j,n - k≤j→j < n→¬ free n r (tr pd) j)∨(∃ q:Nat,t.1=(q:Int)∧q < n∧n - k≤q∧free n r (tr pd) q∧∀ j,n - k≤j→j < q→¬ free n r (tr pd) j))) ⟨by simp,.inl ⟨rfl,fun j h1 h2=>by omega⟩⟩ ?_
  rintro k ⟨x,t⟩ hk ⟨e1,hI⟩
  simp only at e1 hI
  subst e1
  unfold sparseref15_Triangular_l154 sparseref15_Triangular_j173
  simp only
  by_cases hkn:k < n
  · obtain ⟨j,hj⟩:∃ j:Nat,(n:Int) - 1 - (k:Int)=(j:Int):=⟨n - 1 - k,by omega⟩
    have hjn:j < n:=by omega
    have hpj:pd[j]?=some (pd[j]'(by omega)):=List.getElem?_eq_getElem (by omega)
    have g1:getI pd (j:Int)=some (pd[j]'(by omega)):=hpj
    have hw:ws .i64 (j:Int) 1=(n:Int) - 1 - ((k+1:Nat):Int):=by rw [ws_in (by constructor<;>omega)]; omega
    rw [hj,if_pos (by omega),bindS g1,ret_bind,hw]
    refine ret_call (ok_loop hT hn hp hjn (b0:=!(pd[j]'(by omega))) (by rw [← tr_iff hpj]; cases pd[j]'(by omega)<;>simp)) ?_
    rintro o ho
    by_cases hf:free n r (tr pd) j
    · rw [if_pos (ho.2 hf),ret_some,vq_l]
      exact ⟨hkn,rfl,.inr ⟨j,rfl,hjn,by omega,hf,fun j' h1 h2=>by omega⟩⟩
    · rw [if_neg (fun h=>hf (ho.1 h)),ret_some,vq_l]
      refine ⟨hkn,rfl,?_⟩
      rcases hI with ⟨h1,h2⟩ | ⟨q,h1,h2,h3,h4,h5⟩
      · refine .inl ⟨h1,fun j' h3 h4=>?_⟩
        by_cases hjj:j'=j
        · subst hjj; exact hf
        · exact h2 j' (by omega) h4
      · refine .inr ⟨q,h1,h2,by omega,h4,fun j' h6 h7=>?_⟩
        by_cases hjj:j'=j
        · subst hjj; exact hf
        · exact h5 j' (by omega) h7
  · rw [if_neg (by omega),ret_some,vq_r]
    rcases hI with ⟨h1,h2⟩ | ⟨q,h1,h2,h3,h4,h5⟩
    · exact absurd hf (h2 m (by omega) hm)
    · have:q=m:=by
        rcases Nat.lt_trichotomy q m with h | h | h
        · exact absurd h4 (hl q h)
        · exact h
        · exact absurd hf (h5 m (by omega) h)
      rw [h1,this]
theorem place_loop (hT:Pu.Tr T n r) (hn:n≤1000) {a:List Int} (ha:∀ j,j < n→∃ i:Nat,a[j]?=some (i:Int)∧i < n) {m:Nat} (hm:m < n) {pd:List Bool} (hp:pd.length=n) {cs:List Int} (hc:cs.length≤n) {z:Bool}:
    Ret (loop (sparseref15_Triangular_l159 (n:Int) T (m:Int) (a,z)) (pd,cs,List.replicate n false,0)) (fun o=>o.1.length=n∧(∀ c,c < n→(tr o.1 c↔tr pd c∨sc r m c))∧o.2.1=cs++cls n r m∧o.2.2.length=n∧∀ i,tr o.2.2 i↔∃ c,c < n∧sc r m c∧rowF a c=i):=by
  have hno:∀ k,¬ tr (List.replicate n false) k:=fun k h=>by
    have:=List.eq_of_mem_replicate (mem_get h)
    cases this
  refine ret_loop n (fun k (t:List Bool×List Int×List Bool×Int)=>t.2.2.2=(k:Int)∧t.1.length=n∧(∀ c,c < n→(tr t.1 c↔tr pd c∨(c < k∧sc r m c)))∧t.2.1=cs++cls k r m∧t.2.2.1.length=n∧∀ i,tr t.2.2.1 i↔∃ c,c < k∧sc r m c∧rowF a c=i)
    ⟨rfl,hp,fun c hc=>⟨.inl,fun h=>h.elim id fun h=>by omega⟩,by simp [cls,coll],by simp,fun i=>⟨fun h=>absurd h (hno i),fun ⟨c,h,_⟩=>by omega⟩⟩ ?_
  rintro k ⟨p1,c1,w1,t⟩ hk ⟨e1,e2,e3,e4,e5,e6⟩
  simp only at e1 e2 e3 e4 e5 e6
  subst e1
  unfold sparseref15_Triangular_l159 sparseref15_Triangular_j161
  simp only
  by_cases hkn:k < n
  · obtain ⟨x,x1,_,_,x4⟩:=hT.row hm
    obtain ⟨y,y1,_,_,y4⟩:=hT.row hkn
    obtain ⟨p,q1,q2⟩:=x4 k hkn
    obtain ⟨w,w2,w3⟩:=y4 m hm
    have hw:wa .i64 (k:Int) 1=((k+1:Nat):Int):=wa1 (by omega)
    have hcl:(cls k r m).length≤k:=cls_le_n k r m
    rw [if_pos (by omega),bindS x1,bindS q1,hw]
    have hno2:¬ sc r m k→Ret (some (Sum.inl (p1,c1,w1,((k+1:Nat):Int))):Option ((List Bool×List Int×List Bool×Int)⊕(List Bool×List Int×List Bool))) (VQ (fun t'=>k < n∧t'.2.2.2=((k+1:Nat):Int)∧t'.1.length=n∧(∀ c,c < n→(tr t'.1 c↔tr pd c∨(c < k+1∧sc r m c)))∧t'.2.1=cs++cls (k+1) r m∧t'.2.2.1.length=n∧∀ i,tr t'.2.2.1 i↔∃ c,c < k+1∧sc r m c∧rowF a c=i) (fun o=>o.1.length=n∧(∀ c,c < n→(tr o.1 c↔tr pd c∨sc r m c))∧o.2.1=cs++cls n r m∧o.2.2.length=n∧∀ i,tr o.2.2 i↔∃ c,c < n∧sc r m c∧rowF a c=i)):=by
      intro h
      rw [ret_some,vq_l]
      refine ⟨hkn,rfl,e2,fun c hc=>?_,by simp only; rw [cls_f h,e4],e5,fun i=>?_⟩
      · simp only
        rw [e3 c hc]
        refine ⟨fun h'=>h'.imp id fun h'=>⟨by omega,h'.2⟩,fun h'=>h'.imp id fun h'=>⟨?_,h'.2⟩⟩
        by_cases hck:c=k
        · subst hck; exact absurd h'.2 h
        · omega
      · simp only
        rw [e6]
        refine ⟨fun ⟨c,h1,h2⟩=>⟨c,by omega,h2⟩,fun ⟨c,h1,h2⟩=>⟨c,?_,h2⟩⟩
        by_cases hck:c=k
        · subst hck; exact absurd h2.1 h
        · omega
    cases p with
    | false=>
      rw [if_neg (by simp),obs,if_neg (by simp)]
      exact hno2 fun h=>by have:=q2.2 h.1; cases this
    | true=>
      rw [if_pos rfl,bindS y1,bindS w2,obs]
      cases w with
      | false=>
        rw [if_neg (by simp)]
        exact hno2 fun h=>by have:=w3.2 h.2; cases this
      | true=>
        have hs:sc r m k:=⟨q2.1 rfl,w3.1 rfl⟩
        obtain ⟨i,hi,hin⟩:=ha k hkn
        have g1:getI a (k:Int)=some (i:Int):=hi
        rw [if_pos rfl,bindS (setI_lt (by omega)),bindS (app_small (by rw [e4]; simp; omega)),bindS g1,bindS (setI_lt (by omega)),ret_some,vq_l]
        refine ⟨hkn,rfl,by simp [e2],fun c hc=>?_,by simp only; rw [cls_t hs,e4,List.append_assoc],by simp [e5],fun i'=>?_⟩
        · simp only
          rw [tr_set (by omega),e3 c hc]
          constructor
          · rintro (rfl | h | h)
            · exact .inr ⟨by omega,hs⟩
            · exact .inl h
            · exact .inr ⟨by omega,h.2⟩
          · rintro (h | h)
            · exact .inr (.inl h)
            · by_cases hck:c=k
              · exact .inl hck
              · exact .inr (.inr ⟨by omega,h.2⟩)
        · simp only
          rw [tr_set (by omega),e6]
          constructor
          · rintro (rfl | ⟨c,h1,h2⟩)
            · exact ⟨k,by omega,hs,rowF_at hi⟩
            · exact ⟨c,by omega,h2⟩
          · rintro ⟨c,h1,h2,h3⟩
            by_cases hck:c=k
            · subst hck
              rw [rowF_at hi] at h3
              exact .inl h3.symm
            · exact .inr ⟨c,by omega,h2,h3⟩
  · rw [if_neg (by omega),ret_some,vq_r]
    have:k=n:=by omega
    subst this
    refine ⟨e2,fun c hc=>?_,e4,e5,e6⟩
    simp only
    rw [e3 c hc]
    exact ⟨fun h=>h.imp id fun h=>h.2,fun h=>h.imp id fun h=>⟨hc,h⟩⟩
theorem Ord.cols_nd {L:List Nat} (h:Ord n r L) (hp:Pre r):(clsE n r L).flatten.Nodup:=by
  refine flat_nd (fun l hl=>?_) fun i j l m x hi hj hx hy=>?_
  · obtain ⟨m,_,rfl⟩:=List.mem_map.1 hl
    exact asc_nodup (cls_asc m)
  · obtain ⟨a,ha,rfl⟩:=clsE_get hi
    obtain ⟨b,hb,rfl⟩:=clsE_get hj
    exact h.diff ha hb (sc.trans hp (cls_mem.1 hx).2.2 (cls_mem.1 hy).2.2.symm) hp
theorem pl_mem {L:List Nat} {k:Nat} (hk:k < n):pl r L k↔(k:Int)∈(clsE n r L).flatten:=by
  rw [List.mem_flatten]
  constructor
  · rintro ⟨m,h1,h2⟩
    exact ⟨cls n r m,List.mem_map.2 ⟨m,h1,rfl⟩,(cls_iff hk).2 h2⟩
  · rintro ⟨l,h1,h2⟩
    obtain ⟨m,h3,rfl⟩:=List.mem_map.1 h1
    exact ⟨m,h3,(cls_iff hk).1 h2⟩
theorem rows_rws {o:List Bool} (ho:o.length=n) {f:Nat→Nat} {m:Nat} (h:∀ i,tr o i↔∃ c,c < n∧sc r m c∧f c=i):rowsL o=rws n r f m:=by
  refine asc_eq (by unfold rowsL; classical exact coll_asc _) (rws_asc m) fun x=>?_
  rw [rowsL_mem,rws_mem,ho,h]
theorem off_app {E:List (List Int)} {l:List Int} {b:Nat} (hb:b≤E.length):off (E++[l]) b=off E b:=by
  unfold off
  rw [List.take_append_of_le_length hb]
theorem stsE_snoc {L:List Nat} {m:Nat}:stsE n r (L++[m])=stsE n r L++[((clsE n r (L++[m])).flatten.length:Int)]:=by
  unfold stsE
  rw [List.length_append,List.length_singleton,List.range_succ (n:=L.length+1),List.map_append,List.map_singleton]
  congr 1
  · refine List.map_congr_left fun b hb=>?_
    have hb':=List.mem_range.1 hb
    rw [show clsE n r (L++[m])=clsE n r L++[cls n r m] by simp [clsE],off_app (by simp [clsE]; omega)]
  · congr 2
    have h1:=off_all (clsE n r (L++[m]))
    rw [show (clsE n r (L++[m])).length=L.length+1 by simp [clsE]] at h1
    exact h1
theorem rtri_loop (hT:Pu.Tr T n r) (hr:Pre r) (hn:n≤1000) {a:List Int} (ha:∀ j,j < n→∃ i:Nat,a[j]?=some (i:Int)∧i < n) {e:Nat→Nat→Prop} (hf:Pfm n e (rowF a)) {z:Bool}:
    Ret (loop (sparseref15_Triangular_l119 (n:Int) T (a,z)) (List.replicate n false,[],[],[0])) (fun o=>∃ L,Full n r L∧o=((rwsE n r (rowF a) L).flatten,(clsE n r L).flatten,stsE n r L)):=by
  have hno:∀ k,¬ tr (List.replicate n false) k:=fun k h=>by
    have:=List.eq_of_mem_replicate (mem_get h)
    cases this
  refine ret_loop n (fun k (t:List Bool×List Int×List Int×List Int)=>∃ L,L.length=k∧Ord n r L∧t.1.length=n∧(∀ c,c < n→(tr t.1 c↔pl r L c))∧t.2=((rwsE n r (rowF a) L).flatten,(clsE n r L).flatten,stsE n r L))
    ⟨[],rfl,Ord.nil,by simp,fun c hc=>⟨fun h=>absurd h (hno c),fun ⟨m,h,_⟩=>by simp at h⟩,by simp [rwsE,clsE,stsE,off]⟩ ?_
  rintro k ⟨pd,t⟩ hk ⟨L,hLk,hL,e2,e3,e4⟩
  simp only at e2 e3 e4
  subst e4
  have hLn:=hL.len hr
  have hnd:=hL.cols_nd hr
  have hcn:(clsE n r L).flatten.length≤n:=Px.nodup_le n _ hnd fun x hx=>Full.cols_rng hx
  have hrl:∀ M:List Nat,(rwsE n r (rowF a) M).flatten.length=(clsE n r M).flatten.length:=by
    intro M
    have h1:=off_all (rwsE n r (rowF a) M)
    have h2:=off_all (clsE n r M)
    rw [show (rwsE n r (rowF a) M).length=M.length by simp [rwsE]] at h1
    rw [show (clsE n r M).length=M.length by simp [clsE]] at h2
    rw [← h1,← h2,off_same hf _ (Nat.le_refl _)]
  have hrlL:=hrl L
  unfold sparseref15_Triangular_l119
  simp only
  by_cases hlt:(clsE n r L).flatten.length < n
  · have hex:∃ j,j < n∧¬ pl r L j:=Classical.byContradiction fun hn'=>by
      have hall:∀ j,j < n→(j:Int)∈(clsE n r L).flatten:=fun j hj=>(pl_mem hj).1 (Classical.byContradiction fun h=>hn' ⟨j,hj,h⟩)
      have:=full_list hnd (fun x hx=>Full.cols_rng hx) hall
      omega
    obtain ⟨j,hj,hjp⟩:=hex
    obtain ⟨q,hq,hqf⟩:=free_some hr (P:=pl r L) _ j hj hjp (Nat.le_refl _)
    obtain ⟨m,hm,hmf,hml⟩:∃ m,m < n∧free n r (pl r L) m∧∀ j,j < m→¬ free n r (pl r L) j:=by
      have:∀ d q,q≤d→q < n→free n r (pl r L) q→∃ m,m < n∧free n r (pl r L) m∧∀ j,j < m→¬ free n r (pl r L) j:=by
        intro d
        induction d with
        | zero=>intro q h1 h2 h3; exact ⟨q,h2,h3,fun j hj=>by omega⟩
        | succ d ih=>
          intro q h1 h2 h3
          by_cases h4:∃ j,j < q∧free n r (pl r L) j
          · obtain ⟨j,h5,h6⟩:=h4
            exact ih j (by omega) (by omega) h6
          · exact ⟨q,h2,h3,fun j hj hjf=>h4 ⟨j,hj,hjf⟩⟩
      exact this q q (Nat.le_refl _) hq hqf
    have hfree:∀ j,j < n→(free n r (tr pd) j↔free n r (pl r L) j):=fun j hj=>by
      unfold free
      rw [e3 j hj]
      exact ⟨fun h=>⟨h.1,fun c hc=>by rw [← e3 c hc]; exact h.2 c hc⟩,fun h=>⟨h.1,fun c hc=>by rw [e3 c hc]; exact h.2 c hc⟩⟩
    have hO:=Ord.snoc.2 ⟨hL,hm,hmf,hml⟩
    have hLn':=hO.len hr
    have hnd':=hO.cols_nd hr
    have hcn':(clsE n r (L++[m])).flatten.length≤n:=Px.nodup_le n _ hnd' fun x hx=>Full.cols_rng hx
    have hrlL':=hrl (L++[m])
    have hcE:(clsE n r (L++[m])).flatten=(clsE n r L).flatten++cls n r m:=by simp [clsE]
    have hrE:(rwsE n r (rowF a) (L++[m])).flatten=(rwsE n r (rowF a) L).flatten++rws n r (rowF a) m:=by simp [rwsE]
    rw [if_pos (by omega),bindS (next_loop hT hn e2 hm ((hfree m hm).2 hmf) fun j hj h=>hml j hj ((hfree j (by omega)).1 h)),bindS (mkL_nat _ n (by omega)),ret_bind]
    refine ret_call (place_loop hT hn ha hm e2 hcn) ?_
    rintro ⟨pd',cs',w'⟩ ⟨q1,q2,q3,q4,q5⟩
    simp only at q1 q2 q3 q4 q5
    subst q3
    simp only [List.length_append] at hLn'
    rw [hcE] at hcn' hrlL'
    rw [hrE] at hrlL'
    simp only [List.length_append] at hcn' hrlL'
    simp only
    rw [bindS (chosen_rows (by omega)),rows_rws q4 q5,bindS (app_small (by omega)),bindS (app_small (by rw [stsE_len]; simp; simp at hLn'; omega)),ret_some,vq_l]
    simp only [List.length_singleton] at hLn'
    refine ⟨by omega,L++[m],by simp; omega,hO,q1,fun c hc=>?_,?_⟩
    · simp only
      rw [q2 c hc,e3 c hc]
      constructor
      · rintro (⟨x,h1,h2⟩ | h)
        · exact ⟨x,by simp [h1],h2⟩
        · exact ⟨m,by simp,h⟩
      · rintro ⟨x,h1,h2⟩
        rcases List.mem_append.1 h1 with h1 | h1
        · exact .inl ⟨x,h1,h2⟩
        · simp at h1; subst h1; exact .inr h2
    · simp only
      rw [stsE_snoc,hcE,hrE]
  · rw [if_neg (by omega),ret_some,vq_r]
    refine ⟨L,⟨hL,hr,fun c hc=>Classical.byContradiction fun hcp=>?_⟩,rfl⟩
    have h1:(c:Int)∉(clsE n r L).flatten:=fun h=>hcp ((pl_mem hc).2 h)
    have:=Px.nodup_le n ((c:Int)::(clsE n r L).flatten) (List.nodup_cons.2 ⟨h1,hnd⟩) fun x hx=>by
      rcases List.mem_cons.1 hx with rfl | hx
      · omega
      · exact Full.cols_rng hx
    rw [List.length_cons] at this
    omega
theorem Full.uniq {L M:List Nat} (h:Full n r L) (h':Full n r M):L=M:=
  h.o.uniq h'.o (Full.len_eq h' h (y:=id) (yi:=id) ⟨fun _ h=>h,fun _ h=>h,fun _ _=>rfl,fun _ _=>rfl⟩ fun _ _ _ _=>Iff.rfl)
end
theorem rtri_ok {n:Nat} {s i v:List Int} {l:List Px.En3} (h:Px.Mat n n s i v l) (hn:n≤12):sparseref15_Triangular (n:Int) (n:Int) s i v=blocks_Triangular (n:Int) (n:Int) s i v:=by
  obtain ⟨a,b,mm,hr,hc,t1,t2,t3⟩:=tri_ok h hn
  have hlen:=h.len
  have hP:=perfect_ok (mat_mv h) (by omega) (by omega) (by omega) t1 t2
  unfold sparseref15_Triangular
  rw [bindS (rcheck_ok h (by omega)),if_pos rfl,if_pos rfl]
  rcases t3 with ⟨t3,t4⟩ | ⟨t3,hf,L,t4,t5⟩
  · rw [if_pos t3] at hP
    rw [bindS hP,t4]
    rfl
  · rw [if_neg t3] at hP
    obtain ⟨_,ha⟩:=pfm_of t2 ((mat_mv h).kb (by omega)) t3
    obtain ⟨T,r1,r2⟩:=rarcs_ok h (by omega) ha
    obtain ⟨o,o1,L',o2,rfl⟩:=rtri_loop r2 Pre.rt (by omega) ha hf (z:=true)
    obtain rfl:=Full.uniq t4 o2
    rw [bindS hP]
    simp only [if_true]
    rw [bindS r1,bindS (mkL_nat _ n (by omega)),bindS o1,t5]
end Km
namespace Km
open Pl Sx Go M Vc
end Km
namespace Km
open Pl Sx Go M Vc
theorem ksame {l:List Int} (h:l.length≤100000):sparsekit_Ints l l=some true:=by rw [Pu.kints_ok h,decide_eq_true rfl]
theorem same_t {A B C D E F:List Int} (hA:A.length≤100000) (hB:B.length≤100000) (hC:C.length≤100000) (hD:D.length≤100000) (hE:E.length≤100000) (hF:F.length≤100000):sparselaw15_same A B C D E F A B C D E F=some true:=by
  unfold sparselaw15_same
  rw [bindS (ksame hA),if_pos rfl,bindS (ksame hB),obs,if_pos rfl,bindS (ksame hC),obs,if_pos rfl,bindS (ksame hD),obs,if_pos rfl,bindS (ksame hE),obs,if_pos rfl,bindS (ksame hF),obs]
theorem alike_t {A B C:List Int} (hA:A.length≤100000) (hB:B.length≤100000) (hC:C.length≤100000):sparselaw15_alike A B C A B C=some true:=by
  unfold sparselaw15_alike
  rw [bindS (ksame hA),if_pos rfl,bindS (ksame hB),obs,if_pos rfl,bindS (ksame hC),obs]
theorem coarse_both {m n:Nat} {s i v:List Int} {l:List Px.En3} (h:Px.Mat m n s i v l) (hm:m≤50) (hn:n≤50):∃ A B C D E F,A.length≤100000∧B.length≤100000∧C.length≤100000∧D.length≤100000∧E.length≤100000∧F.length≤100000∧
    blocks_Coarse (m:Int) (n:Int) s i v=some (A,B,C,D,E,F,0)∧sparseref15_Coarse (m:Int) (n:Int) s i v=some (A,B,C,D,E,F,0):=by
  obtain ⟨E',a,b,a',b',hr,hc,vc,vr,hC,c1,s',i',v',h'⟩:=coarse_ok h hm hn
  have k1:=hC.d.h.rch.rl
  have k2:=hC.d.h.rch.cl
  have k3:=hC.d.v.rch.rl
  have k4:=hC.d.v.rch.cl
  have l1:=rowsL_len hr
  have l2:=rowsL_len hc
  have l3:=rowsL_len vr
  have l4:=rowsL_len vc
  have l5:=sqL_len hr vr m
  have l6:=sqL_len hc vc n
  exact ⟨_,_,_,_,_,_,by omega,by omega,by omega,by omega,by omega,by omega,c1,rcoarse_ok h hm hn hC h'⟩
theorem tri_both {n:Nat} {s i v:List Int} {l:List Px.En3} (h:Px.Mat n n s i v l) (hn:n≤12):∃ A B C e,A.length≤100000∧B.length≤100000∧C.length≤100000∧
    blocks_Triangular (n:Int) (n:Int) s i v=some (A,B,C,e)∧sparseref15_Triangular (n:Int) (n:Int) s i v=some (A,B,C,e):=by
  obtain ⟨a,b,mm,hr,hc,t1,t2,t3⟩:=tri_ok h hn
  rw [rtri_ok h hn]
  rcases t3 with ⟨t3,t4⟩ | ⟨t3,hf,L,t4,t5⟩
  · exact ⟨_,_,_,_,by simp,by simp,by simp,t4,t4⟩
  · have l1:=t4.rows_len hf
    have l2:=t4.cols_len
    have l3:=t4.o.len t4.p
    exact ⟨_,_,_,_,by omega,by omega,by rw [stsE_len]; omega,t5,t5⟩
end Km
namespace Km
open Pl Sx Go M Vc
theorem at_some (l:List Int) {i:Nat} (hl:l.length≤1000):∃ z,sparsemake_At l (i:Int)=some z:=by
  unfold sparsemake_At
  by_cases h:i < l.length
  · rw [if_pos (by omega),bindS (getI_lt h)]
    exact ⟨_,rfl⟩
  · rw [if_neg (by omega)]
    exact ⟨_,rfl⟩
theorem diag_loop {n:Nat} (hn:n≤50) (x:List Int) (hx:x.length≤1000):
    Ret (loop (sparsemake_Square_l1 (n:Int) x) ([],0)) (fun E=>E.length=n∧(∀ e,e∈E→Pw.El n n e)∧∀ j,j < n→hasE E j j):=by
  refine ret_loop n (fun k (t:List (Int×Int×Int)×Int)=>t.2=(k:Int)∧t.1.length=k∧(∀ e,e∈t.1→Pw.El n n e)∧∀ j,j < k→hasE t.1 j j) ⟨rfl,rfl,fun e he=>by simp at he,fun j hj=>by omega⟩ ?_
  rintro k ⟨E,t⟩ hk ⟨e1,e2,e3,e4⟩
  simp only at e1 e2 e3 e4
  subst e1
  unfold sparsemake_Square_l1
  simp only
  by_cases hkn:k < n
  · obtain ⟨z,hz⟩:=at_some x (i:=k) hx
    obtain ⟨v,v1,v2⟩:=Pw.value_ok (wa .i64 z 1)
    rw [if_pos (by omega),bindS hz,bindS v1,bindS (app_small (by simp; omega)),wa1 (by omega),ret_some,vq_l]
    refine ⟨hkn,rfl,by simp [e2],fun e he=>?_,fun j hj=>?_⟩
    · rcases List.mem_append.1 he with he | he
      · exact e3 e he
      · simp at he
        subst he
        exact ⟨⟨⟨by simp only; omega,by simp only; omega⟩,⟨by simp only; omega,by simp only; omega⟩⟩,v2⟩
    · by_cases hjk:j=k
      · subst hjk
        exact ⟨v,by simp⟩
      · obtain ⟨y,hy⟩:=e4 j (by omega)
        exact ⟨y,List.mem_append.2 (.inl hy)⟩
  · rw [if_neg (by omega),ret_some,vq_r]
    have:k=n:=by omega
    subst this
    exact ⟨e2,e3,e4⟩
theorem more_loop {n:Nat} (hn:n≤50) (x:List Int) (hx:x.length≤90) {E:List (Int×Int×Int)} (hl:E.length≤50) (hE:∀ e,e∈E→Pw.El n n e):
    Ret (loop (sparsemake_Square_l4 x (n:Int)) (E,(n:Int))) (fun o=>o.length≤1000∧(∀ e,e∈o→Pw.El n n e)∧∀ e,e∈E→e∈o):=by
  refine ret_loop x.length (fun k (t:List (Int×Int×Int)×Int)=>t.2=((n+3*k:Nat):Int)∧t.1.length=E.length+k∧(∀ e,e∈t.1→Pw.El n n e)∧∀ e,e∈E→e∈t.1) ⟨rfl,rfl,hE,fun e he=>he⟩ ?_
  rintro k ⟨o,t⟩ hk ⟨e1,e2,e3,e4⟩
  simp only at e1 e2 e3 e4
  subst e1
  unfold sparsemake_Square_l4
  simp only
  have w2:wa .i64 ((n+3*k:Nat):Int) 2=((n+3*k+2:Nat):Int):=by rw [wa_in (by constructor<;>omega)]; omega
  have w1:wa .i64 ((n+3*k:Nat):Int) 1=((n+3*k+1:Nat):Int):=wa1 (by omega)
  have w3:wa .i64 ((n+3*k:Nat):Int) 3=((n+3*(k+1):Nat):Int):=by rw [wa_in (by constructor<;>omega)]; omega
  rw [w2]
  by_cases hc:n+3*k+2 < x.length∧0 < n
  · obtain ⟨r,p1,p2⟩:=place_ok (x[n+3*k]'(by omega)) n hc.2 (by omega)
    obtain ⟨c,q1,q2⟩:=place_ok (x[n+3*k+1]'(by omega)) n hc.2 (by omega)
    obtain ⟨v,v1,v2⟩:=Pw.value_ok (x[n+3*k+2]'(by omega))
    rw [if_pos (by simp; omega),bindS (getI_lt (by omega)),bindS p1,w1,bindS (getI_lt (by omega)),bindS q1,bindS (getI_lt (by omega)),bindS v1,bindS (app_small (by simp; omega)),w3,ret_some,vq_l]
    refine ⟨by omega,rfl,by simp; omega,fun e he=>?_,fun e he=>List.mem_append.2 (.inl (e4 e he))⟩
    rcases List.mem_append.1 he with he | he
    · exact e3 e he
    · simp at he
      subst he
      exact ⟨⟨⟨by simp only; omega,by simp only; omega⟩,⟨by simp only; omega,by simp only; omega⟩⟩,v2⟩
  · rw [if_neg (by simp; omega),ret_some,vq_r]
    exact ⟨by omega,e3,e4⟩
theorem square_made {n:Nat} (hn:n≤8) (x:List Int) (hx:x.length≤90):∃ s i v l,sparsemake_Square (n:Int) x=some ((n:Int),(n:Int),s,i,v)∧Px.Mat n n s i v l∧∀ j,j < n→inE (colsOf s i n) j j:=by
  obtain ⟨E,d1,d2,d3,d4⟩:=diag_loop (n:=n) (by omega) x (by omega)
  obtain ⟨o,m1,m2,m3,m4⟩:=more_loop (n:=n) (by omega) x (by omega) (E:=E) (by omega) d3
  obtain ⟨s,i,v,p1,p2,p3,p4,p5⟩:=Pw.pack_ok (E:=o) (m:=n) (n:=n) (by omega) (by omega) m2 m3
  have hEn:En n n o:=⟨fun e he=>(m3 e he).1.1,fun e he=>(m3 e he).1.2,fun e he=>fn_chk (m3 e he).2⟩
  obtain ⟨s',i',v',q1,q2⟩:=pack_ok (R:=n) (C:=n) (by omega) (by omega) (L:=o) (by omega) hEn
  rw [p1] at q1
  have q3:=Option.some.inj q1
  simp only [Prod.mk.injEq,true_and] at q3
  obtain ⟨rfl,rfl,rfl⟩:=q3
  have:n*n≤8*8:=Nat.mul_le_mul hn hn
  obtain ⟨l,hl⟩:=Px.mat_of p2 p3 (by omega) p5 (by omega)
  refine ⟨s,i,v,l,?_,hl,fun j hj=>?_⟩
  · unfold sparsemake_Square
    rw [bindS d1,bindS m1,bindS p1]
  · rw [(va_mv p2 p3).ext q2,packE_in]
    obtain ⟨y,hy⟩:=d4 j hj
    exact ⟨hj,hj,y,m4 _ hy⟩
theorem blocksMade_true (x1 x2:Int) (x3:List Int):sparselaw15_BlocksMade x1 x2 x3=some true:=by
  unfold sparselaw15_BlocksMade
  by_cases hl:(90:Int) < (x3.length:Int)
  · rw [if_pos hl,bindS awake15]
  · rw [if_neg hl]
    obtain ⟨m,p1,p2⟩:=place_ok x1 8 (by omega) (by omega)
    obtain ⟨n,q1,q2⟩:=place_ok x2 8 (by omega) (by omega)
    have p1':sparsekit_Place x1 8=some (m:Int):=p1
    have q1':sparsekit_Place x2 8=some (n:Int):=q1
    obtain ⟨s,i,v,l,m1,m2⟩:=made_ok (m:=m) (n:=n) (by omega) (by omega) (x:=x3) (by omega)
    obtain ⟨s',i',v',l',s1,s2,_⟩:=square_made (n:=n) (by omega) x3 (by omega)
    obtain ⟨A,B,C,D,E,F,a1,a2,a3,a4,a5,a6,c1,c2⟩:=coarse_both m2 (by omega) (by omega)
    obtain ⟨T1,T2,T3,te,b1,b2,b3,t1,t2⟩:=tri_both s2 (by omega)
    rw [bindS p1',bindS q1',bindS m1,bindS s1]
    simp only
    rw [bindS c1,bindS c2,bindS t1,bindS t2]
    simp only [if_true]
    rw [bindS (same_t a1 a2 a3 a4 a5 a6),obs]
    simp only [decide_true,Bool.true_and,if_true]
    rw [bindS (alike_t b1 b2 b3),obs]
    simp only [if_true]
    rw [bindS awake15,obs]
end Km
