/- Tables and comparisons (copied from PtD, PtE, PtF into a name space of their own, for the etree seat). -/
import Derived.Test.YtgnfkbaghjmgiaaGreatDoorPlL
import Derived.Test.YtgnfkbaghjmgiaaGreatDoorVcA
import Derived.Test.YtgnfkbaghjmgiaaGreatDoorM7
import Derived.KernelRfl
set_option linter.unusedSimpArgs false
set_option linter.unusedVariables false
set_option maxHeartbeats 4000000
namespace Pu
open Pl Sx Go M Vc
def Tr (T:List (List Bool)) (n:Nat) (R:Nat→Nat→Prop):Prop:=T.length=n∧∀ i,i < n→∃ r,T[i]?=some r∧r.length=n∧∀ j,j < n→∃ b:Bool,r[j]?=some b∧(b=true↔R i j)
theorem Tr.congr {T:List (List Bool)} {n:Nat} {R R':Nat→Nat→Prop} (h:∀ i j,i < n→j < n→(R i j↔R' i j)) (hT:Tr T n R):Tr T n R':=by
  refine ⟨hT.1,fun i hi=>?_⟩
  obtain ⟨r,h1,h2,h3⟩:=hT.2 i hi
  exact ⟨r,h1,h2,fun j hj=>by obtain ⟨b,h4,h5⟩:=h3 j hj; exact ⟨b,h4,by rw [h5,h i j hi hj]⟩⟩
theorem Tr.blank (n:Nat):Tr (List.replicate n (List.replicate n false)) n (fun _ _=>False):=
  ⟨by simp,fun i hi=>⟨List.replicate n false,by simp [hi],by simp,fun j hj=>⟨false,by simp [hj],by simp⟩⟩⟩
theorem Tr.row {T:List (List Bool)} {n:Nat} {R:Nat→Nat→Prop} (hT:Tr T n R) {i:Nat} (hi:i < n):∃ r,getI T (i:Int)=some r∧T[i]?=some r∧r.length=n∧∀ j:Nat,j < n→∃ b:Bool,getI r (j:Int)=some b∧(b=true↔R i j):=by
  obtain ⟨r,h1,h2,h3⟩:=hT.2 i hi
  exact ⟨r,h1,h1,h2,fun j hj=>h3 j hj⟩
theorem Tr.put {T:List (List Bool)} {n:Nat} {R:Nat→Nat→Prop} (hT:Tr T n R) {i j:Nat} (hi:i < n) {r:List Bool} (hr:T[i]?=some r) {z:Bool} {p:Prop} (hz:z=true↔p):Tr (T.set i (r.set j z)) n (fun a c=>(a=i∧c=j∧p)∨(¬ (a=i∧c=j)∧R a c)):=by
  refine ⟨by simp [hT.1],fun a ha=>?_⟩
  obtain ⟨r',h1,h2,h3⟩:=hT.2 a ha
  by_cases hai:i=a
  · subst hai
    rw [hr] at h1
    obtain rfl:=Option.some.inj h1
    refine ⟨r.set j z,by rw [List.getElem?_set,if_pos rfl,if_pos (by rw [hT.1]; exact ha)],by simp [h2],fun c hc=>?_⟩
    obtain ⟨b,h4,h5⟩:=h3 c hc
    rw [List.getElem?_set]
    by_cases hcj:j=c
    · subst hcj
      exact ⟨z,by rw [if_pos rfl,if_pos (by omega)],by rw [hz]; simp⟩
    · exact ⟨b,by rw [if_neg hcj,h4],by rw [h5]; simp [show ¬ c=j from fun h=>hcj h.symm]⟩
  · refine ⟨r',by rw [List.getElem?_set,if_neg hai,h1],h2,fun c hc=>?_⟩
    obtain ⟨b,h4,h5⟩:=h3 c hc
    exact ⟨b,h4,by rw [h5]; simp [show ¬ a=i from fun h=>hai h.symm]⟩
theorem Tr.on {T:List (List Bool)} {n:Nat} {R:Nat→Nat→Prop} (hT:Tr T n R) {i j:Nat} (hi:i < n) {r:List Bool} (hr:T[i]?=some r):Tr (T.set i (r.set j true)) n (fun a c=>(a=i∧c=j)∨R a c):=by
  refine Tr.congr (fun a c _ _=>?_) (hT.put (j:=j) hi hr (z:=true) (p:=True) (by simp))
  by_cases h:a=i∧c=j
  · simp [h]
  · simp [h]
open Classical in
theorem Tr.tb {T:List (List Bool)} {n:Nat} {R:Nat→Nat→Prop} (hT:Tr T n R):Tb T n (fun i j=>decide (R i j)):=by
  refine ⟨hT.1,fun i hi=>?_⟩
  obtain ⟨r,h1,h2,h3⟩:=hT.2 i hi
  refine ⟨r,h1,h2,fun j hj=>?_⟩
  obtain ⟨b,h4,h5⟩:=h3 j hj
  rw [h4]
  congr 1
  cases b with
  | true=>symm; rw [decide_eq_true_iff]; exact h5.1 rfl
  | false=>symm; rw [decide_eq_false_iff_not]; intro h; have:=h5.2 h; cases this
theorem kints_ok {l m:List Int} (hl:l.length≤100000):sparsekit_Ints l m=some (decide (l=m)):=by
  unfold sparsekit_Ints
  by_cases hlen:l.length=m.length
  · rw [if_pos (by omega)]
    refine Ret.eq ?_
    rw [ret_bind]
    refine ret_call (P:=fun o=>(o=.inl ()∧l=m)∨(o=.inr ()∧l≠m)) ?_ ?_
    · refine ret_loop l.length (fun k (t:Int)=>t=(k:Int)∧l.take k=m.take k) ⟨rfl,by simp⟩ ?_
      rintro k t hk ⟨rfl,hI⟩
      unfold sparsekit_Ints_l1
      by_cases hkl:k < l.length
      · have e1:getI l (k:Int)=some l[k]:=getI_lt hkl
        have e2:getI m (k:Int)=some (m[k]'(by omega)):=getI_lt (by omega)
        have e5:(k:Int) < (l.length:Int):=by omega
        have hw:wa .i64 (k:Int) 1=((k+1:Nat):Int):=wa1 (by omega)
        simp only [vcC,Bool.false_eq_true,reduceCtorEq,e1,e2,e5,hw]
        refine ⟨fun h=>⟨hkl,trivial,?_⟩,fun h=>.inr ⟨trivial,fun he=>h (by subst he; rfl)⟩⟩
        rw [tks (x:=l[k]) (by simp [hkl]),tks (x:=m[k]'(by omega)) (by simp [show k < m.length by omega]),hI,h]
      · have e5:¬ (k:Int) < (l.length:Int):=by omega
        simp only [vcC,Bool.false_eq_true,reduceCtorEq,e5]
        refine .inl ⟨trivial,?_⟩
        rwa [take_all (by omega),take_all (by omega)] at hI
    · rintro o (⟨rfl,h⟩ | ⟨rfl,h⟩)
      · rw [ret_some,decide_eq_true h]
      · rw [ret_some,decide_eq_false h]
  · rw [if_neg (by omega),decide_eq_false (fun h=>hlen (by rw [h]))]
end Pu
namespace Pu
open Pl Sx Go M Vc
def Sz (x1 x2:Int) (x5:List Int):Prop:=(0≤x1∧x1≤200)∧(0≤x2∧x2≤200)∧x5.length≤10000
structure Hd (x1 x2:Int) (x3 x5 x7:List Int):Prop where
  lv:x7.length=x5.length
  ls:(x3.length:Int)=x2+1
  s0:x3[0]?=some 0
  sn:x3[x2.toNat]?=some (x5.length:Int)
def Mo (x3:List Int):Prop:=∀ (j:Nat) (a b:Int),x3[j]?=some a→x3[j+1]?=some b→a≤b
def Cl (x1:Int) (x3 x5:List Int):Prop:=∀ (j:Nat) (a b:Int),x3[j]?=some a→x3[j+1]?=some b→∀ (k:Nat) (i:Int),a≤(k:Int)→(k:Int) < b→x5[k]?=some i→0≤i∧i < x1∧(a < (k:Int)→∀ i',x5[k - 1]?=some i'→i' < i)
def Fn (f:Int):Bool:=!(decide (wand .u64 (wsrc .u64 f 52) 2047=2047))
def Ff (x7:List Int):Prop:=∀ f,f∈x7→Fn f=true
theorem mo_le {x3:List Int} (h:Mo x3) {i j:Nat} (hij:i≤j):∀ {a b:Int},x3[i]?=some a→x3[j]?=some b→a≤b:=by
  induction j with
  | zero=>
    intro a b ha hb
    obtain rfl:i=0:=by omega
    rw [ha] at hb; have:=Option.some.inj hb; omega
  | succ j ih=>
    intro a b ha hb
    by_cases hi:i=j+1
    · subst hi; rw [ha] at hb; have:=Option.some.inj hb; omega
    · have hj:j < x3.length:=by have:=(List.getElem?_eq_some_iff.1 hb).1; omega
      have hc:x3[j]?=some x3[j]:=by simp [hj]
      have h1:=ih (by omega) ha hc
      have h2:=h j _ _ hc hb
      omega
def Ot (x1 x2:Int) (x3 x5 x7:List Int) (e:Int):Prop:=
  (e=6∧¬ Sz x1 x2 x5)∨(e=1∧Sz x1 x2 x5∧¬ (Hd x1 x2 x3 x5 x7∧Mo x3∧Cl x1 x3 x5))∨
  (e=4∧Sz x1 x2 x5∧(Hd x1 x2 x3 x5 x7∧Mo x3∧Cl x1 x3 x5)∧¬ Ff x7)∨(e=0∧Sz x1 x2 x5∧(Hd x1 x2 x3 x5 x7∧Mo x3∧Cl x1 x3 x5)∧Ff x7)
theorem Ot.uniq {x1 x2:Int} {x3 x5 x7:List Int} {e e':Int} (h:Ot x1 x2 x3 x5 x7 e) (h':Ot x1 x2 x3 x5 x7 e'):e=e':=by
  rcases h with ⟨rfl,h⟩ | ⟨rfl,h,h1⟩ | ⟨rfl,h,h1,h2⟩ | ⟨rfl,h,h1,h2⟩<;>
  rcases h' with ⟨rfl,k⟩ | ⟨rfl,k,k1⟩ | ⟨rfl,k,k1,k2⟩ | ⟨rfl,k,k1,k2⟩<;>
  first | rfl | exact absurd h k | exact absurd k h | exact absurd h1 k1 | exact absurd k1 h1 | exact absurd h2 k2 | exact absurd k2 h2
theorem sorted_p {l:List Int} (hl:l.length≤100000) (hp:0 < l.length):Ret (slices_IsSorted_int l) (fun b=>(b=true∧Mo l)∨(b=false∧¬ Mo l)):=by
  unfold slices_IsSorted_int
  have e:ws .i64 (l.length:Int) 1=((l.length - 1:Nat):Int):=by rw [ws_i (by omega) (by omega)]; omega
  rw [ret_bind,e]
  refine ret_call (P:=fun o=>(o=.inl ()∧Mo l)∨(o=.inr ()∧¬ Mo l)) ?_ ?_
  · refine ret_loop (l.length - 1) (fun k (t:Int)=>t=((l.length - 1 - k:Nat):Int)∧∀ (j:Nat) (a b:Int),l.length - 1 - k≤j→l[j]?=some a→l[j+1]?=some b→a≤b) ⟨rfl,fun j a b h h1 h2=>by have:=(List.getElem?_eq_some_iff.1 h2).1; omega⟩ ?_
    rintro k t hk ⟨rfl,hI⟩
    unfold slices_IsSorted_int_l1
    by_cases hkl:k < l.length - 1
    · obtain ⟨m,hm⟩:∃ m,l.length - 1 - k=m+1:=⟨l.length - 2 - k,by omega⟩
      rw [hm] at hI ⊢
      have e1:getI l ((m+1:Nat):Int)=some (l[m+1]'(by omega)):=getI_lt (by omega)
      have e2:ws .i64 ((m+1:Nat):Int) 1=(m:Int):=by rw [ws_i (by omega) (by omega)]; omega
      have e3:getI l (m:Int)=some (l[m]'(by omega)):=getI_lt (by omega)
      have e5:(0:Int) < ((m+1:Nat):Int):=by omega
      have hm2:l.length - 1 - (k+1)=m:=by omega
      simp only [vcC,Bool.false_eq_true,reduceCtorEq,e1,e2,e3,e5,less_ok,decide_eq_true_eq,hm2]
      refine ⟨fun h=>.inr ⟨trivial,fun hM=>?_⟩,fun h=>⟨hkl,trivial,fun j a b hj ha hb=>?_⟩⟩
      · have:=hM m (l[m]'(by omega)) (l[m+1]'(by omega)) (by simp [show m < l.length by omega]) (by simp [show m+1 < l.length by omega])
        omega
      · by_cases hjm:j=m
        · subst hjm
          obtain ⟨h1,rfl⟩:=List.getElem?_eq_some_iff.1 ha
          obtain ⟨h2,rfl⟩:=List.getElem?_eq_some_iff.1 hb
          omega
        · exact hI j a b (by omega) ha hb
    · have e5:¬ (0:Int) < ((l.length - 1 - k:Nat):Int):=by omega
      simp only [vcC,Bool.false_eq_true,reduceCtorEq,e5]
      exact .inl ⟨trivial,fun j a b ha hb=>hI j a b (by omega) ha hb⟩
  · rintro o (⟨rfl,h⟩ | ⟨rfl,h⟩)
    · rw [ret_some]; exact .inl ⟨rfl,h⟩
    · rw [ret_some]; exact .inr ⟨rfl,h⟩
def ColOk (x1:Int) (c:List Int):Prop:=∀ (k:Nat) (i:Int),c[k]?=some i→0≤i∧i < x1∧(0 < k→∀ i',c[k - 1]?=some i'→i' < i)
theorem col_p {x1:Int} {c:List Int} (hc:c.length≤100000):Ret (loop (matrix_columns_l27 c x1) (-1,0)) (fun o=>(o=.inl ()∧ColOk x1 c)∨(o=.inr ()∧¬ ColOk x1 c)):=by
  refine ret_loop c.length (fun k (t:Int×Int)=>t.2=k∧-1≤t.1∧(k=0→t.1= -1)∧(0 < k→c[k - 1]?=some t.1)∧∀ (j:Nat) (i:Int),j < k→c[j]?=some i→0≤i∧i < x1∧(0 < j→∀ i',c[j - 1]?=some i'→i' < i)) ⟨rfl,by simp,fun _=>rfl,fun h=>by omega,fun j i h=>by omega⟩ ?_
  rintro k ⟨last,i⟩ hk ⟨rfl,h0,h1,h2,h3⟩
  simp only at h0 h1 h2 h3
  unfold matrix_columns_l27
  by_cases hkl:k < c.length
  · obtain ⟨x,hx⟩:∃ x,c[k]?=some x:=⟨c[k],by simp [hkl]⟩
    have e1:getI c (k:Int)=some x:=hx
    have e5:(k:Int) < (c.length:Int):=by omega
    have hw:wa .i64 (k:Int) 1=((k+1:Nat):Int):=wa1 (by omega)
    simp only [vcC,Bool.false_eq_true,reduceCtorEq,e1,e5,hw,Bool.or_eq_true,decide_eq_true_eq]
    refine ⟨fun h=>.inr ⟨trivial,fun hC=>?_⟩,fun h=>⟨hkl,trivial,by omega,trivial,fun _=>by simpa using hx,fun j i hj hi=>?_⟩⟩
    · have hh:=hC k x hx
      rcases h with h | h
      · by_cases hk0:k=0
        · have:=h1 hk0; omega
        · have:=hh.2.2 (by omega) last (h2 (by omega)); omega
      · omega
    · by_cases hjk:j=k
      · subst hjk
        rw [hx] at hi
        obtain rfl:=Option.some.inj hi
        refine ⟨?_,by omega,fun hj0 i' hi'=>?_⟩
        · omega
        · rw [h2 hj0] at hi'
          have:=Option.some.inj hi'
          omega
      · exact h3 j i (by omega) hi
  · have e5:¬ (k:Int) < (c.length:Int):=by omega
    simp only [vcC,Bool.false_eq_true,reduceCtorEq,e5]
    exact .inl ⟨trivial,fun j i hi=>h3 j i (by have:=(List.getElem?_eq_some_iff.1 hi).1; omega) hi⟩
theorem col_cut {x1:Int} {x5:List Int} {a b:Nat} (hab:a≤b) (hb:b≤x5.length):ColOk x1 ((x5.take b).drop a)↔∀ (k:Nat) (i:Int),(a:Int)≤(k:Int)→(k:Int) < (b:Int)→x5[k]?=some i→0≤i∧i < x1∧((a:Int) < (k:Int)→∀ i',x5[k - 1]?=some i'→i' < i):=by
  have hg:∀ m:Nat,m+a < b→((x5.take b).drop a)[m]?=x5[m+a]?:=by
    intro m hm
    rw [List.getElem?_drop,List.getElem?_take,if_pos (by omega),Nat.add_comm]
  constructor
  · intro h k i h1 h2 hi
    obtain ⟨m,rfl⟩:∃ m,k=m+a:=⟨k - a,by omega⟩
    have:=h m i (by rw [hg m (by omega)]; exact hi)
    refine ⟨this.1,this.2.1,fun h3 i' hi'=>this.2.2 (by omega) i' ?_⟩
    rw [hg (m - 1) (by omega),← hi']
    congr 1; omega
  · intro h m i hi
    have hm:m+a < b:=by
      have:=(List.getElem?_eq_some_iff.1 hi).1
      simp at this; omega
    rw [hg m hm] at hi
    have:=h (m+a) i (by omega) (by omega) hi
    refine ⟨this.1,this.2.1,fun h3 i' hi'=>this.2.2 (by omega) i' ?_⟩
    rw [hg (m - 1) (by omega)] at hi'
    rw [← hi']
    congr 1; omega
theorem columns_p {x1 x2:Int} {x3 x5 x7:List Int} (hs:Sz x1 x2 x5) (h3:x3.length≤100000) (h5:x5.length≤100000):Ret (matrix_columns x1 x2 x3 x5 x7) (fun b=>(b=true∧Hd x1 x2 x3 x5 x7∧Mo x3∧Cl x1 x3 x5)∨(b=false∧¬ (Hd x1 x2 x3 x5 x7∧Mo x3∧Cl x1 x3 x5))):=by
  obtain ⟨hs1,hs2,hs3⟩:=hs
  obtain ⟨n,rfl⟩:=Int.eq_ofNat_of_zero_le hs2.1
  have hw:wa .i64 (n:Int) 1=((n+1:Nat):Int):=wa1 (by omega)
  unfold matrix_columns
  rw [hw]
  by_cases hl:x3.length=n+1
  · rw [if_pos (by omega)]
    have hg0:getI x3 0=some (x3[0]'(by omega)):=getI_lt (k:=0) (by omega)
    have hgn:getI x3 (n:Int)=some (x3[n]'(by omega)):=getI_lt (by omega)
    rw [bindS hg0]
    by_cases h0:(x3[0]'(by omega))=0
    · rw [decide_eq_true h0]
      simp only [Bool.not_true,Option.bind_some,Bool.false_eq_true,if_false]
      simp only [ret_bind]
      refine ret_call (sorted_p h3 (by omega)) ?_
      rintro b (⟨rfl,hM⟩ | ⟨rfl,hM⟩)
      · simp only [vcD,implies_true,Bool.false_eq_true,reduceCtorEq,hgn]
        by_cases hn:(x3[n]'(by omega))=(x5.length:Int)
        · rw [decide_eq_true hn]
          simp only [vcD,implies_true,Bool.false_eq_true,reduceCtorEq]
          by_cases hv:x5.length=x7.length
          · rw [decide_eq_true (show (x5.length:Int)=(x7.length:Int) by omega)]
            simp only [vcD,implies_true,Bool.false_eq_true,reduceCtorEq]
            have hH:Hd x1 (n:Int) x3 x5 x7:=⟨hv.symm,by omega,by simp [h0,show 0 < x3.length by omega],by simp [hn,show n < x3.length by omega]⟩
            refine ret_call (P:=fun o=>(o=.inl ()∧Cl x1 x3 x5)∨(o=.inr ()∧¬ Cl x1 x3 x5)) ?_ ?_
            · refine ret_loop n (fun k (t:Int)=>t=(k:Int)∧∀ (j:Nat) (a b:Int),j < k→x3[j]?=some a→x3[j+1]?=some b→∀ (k:Nat) (i:Int),a≤(k:Int)→(k:Int) < b→x5[k]?=some i→0≤i∧i < x1∧(a < (k:Int)→∀ i',x5[k - 1]?=some i'→i' < i)) ⟨rfl,fun j a b h=>by omega⟩ ?_
              rintro k t hk ⟨rfl,hI⟩
              unfold matrix_columns_l24
              by_cases hkn:k < n
              · have hwk:wa .i64 (k:Int) 1=((k+1:Nat):Int):=wa1 (by omega)
                obtain ⟨a,ha⟩:∃ a,x3[k]?=some a:=⟨x3[k]'(by omega),by simp [show k < x3.length by omega]⟩
                obtain ⟨b,hb⟩:∃ b,x3[k+1]?=some b:=⟨x3[k+1]'(by omega),by simp [show k+1 < x3.length by omega]⟩
                have hab:=hM k a b ha hb
                have ha0:=mo_le hM (Nat.zero_le k) hH.s0 ha
                have hbn:=mo_le hM (show k+1≤n by omega) hb (by simpa using hH.sn)
                obtain ⟨a,rfl⟩:=Int.eq_ofNat_of_zero_le ha0
                obtain ⟨b,rfl⟩:=Int.eq_ofNat_of_zero_le (show 0≤b by omega)
                have e1:getI x3 (k:Int)=some (a:Int):=ha
                have e2:getI x3 ((k+1:Nat):Int)=some (b:Int):=hb
                have e5:(k:Int) < (n:Int):=by omega
                simp only [vcC,Bool.false_eq_true,reduceCtorEq,hwk,e1,e2,e5]
                refine ⟨by omega,by omega,by omega,?_⟩
                refine ret_call (col_p (by simp; omega)) ?_
                rintro o (⟨rfl,hc⟩ | ⟨rfl,hc⟩)
                · simp only [vcC,Bool.false_eq_true,reduceCtorEq]
                  refine ⟨hkn,trivial,fun j a' b' hj ha' hb'=>?_⟩
                  by_cases hjk:j=k
                  · subst hjk
                    rw [ha] at ha'; rw [hb] at hb'
                    obtain rfl:=Option.some.inj ha'
                    obtain rfl:=Option.some.inj hb'
                    exact (col_cut (by omega) (by omega)).1 hc
                  · exact hI j a' b' (by omega) ha' hb'
                · simp only [vcC,Bool.false_eq_true,reduceCtorEq]
                  exact .inr ⟨trivial,fun hC=>hc ((col_cut (by omega) (by omega)).2 (hC k _ _ ha hb))⟩
              · have e5:¬ (k:Int) < (n:Int):=by omega
                simp only [vcC,Bool.false_eq_true,reduceCtorEq,e5]
                exact .inl ⟨trivial,fun j a b ha hb=>hI j a b (by have:=(List.getElem?_eq_some_iff.1 hb).1; omega) ha hb⟩
            · rintro o (⟨rfl,h⟩ | ⟨rfl,h⟩)
              · rw [ret_some]; exact .inl ⟨rfl,hH,hM,h⟩
              · rw [ret_some]; exact .inr ⟨rfl,fun hh=>h hh.2.2⟩
          · rw [decide_eq_false (show ¬ (x5.length:Int)=(x7.length:Int) by omega)]
            simp only [vcD,implies_true,Bool.false_eq_true,reduceCtorEq]
            exact fun hh=>hv hh.1.lv.symm
        · rw [decide_eq_false hn]
          simp only [vcD,implies_true,Bool.false_eq_true,reduceCtorEq]
          refine fun hh=>hn ?_
          have:=hh.1.sn
          simp only [Int.toNat_natCast] at this
          rw [List.getElem?_eq_getElem (by omega)] at this
          exact Option.some.inj this
      · simp only [vcD,implies_true,Bool.false_eq_true,reduceCtorEq]
        exact fun hh=>hM hh.2.1
    · rw [decide_eq_false h0]
      simp only [vcD,implies_true,Bool.false_eq_true,reduceCtorEq]
      refine fun hh=>h0 ?_
      have:=hh.1.s0
      rw [List.getElem?_eq_getElem (by omega)] at this
      exact Option.some.inj this
  · rw [if_neg (by omega)]
    simp only [vcD,implies_true,Bool.false_eq_true,reduceCtorEq]
    exact fun hh=>hl (by have:=hh.1.ls; omega)
theorem fin_p (f:Int):float_IsFinite f=some (Fn f):=by
  unfold float_IsFinite float_parts Fn
  have h2:0≤wand .u64 (wsrc .u64 f 52) 2047∧wand .u64 (wsrc .u64 f 52) 2047≤2047:=by
    unfold wand
    have hb:(BitVec.ofInt IntKind.u64.bits (wsrc .u64 f 52) &&& BitVec.ofInt IntKind.u64.bits 2047).toNat≤2047:=by
      rw [BitVec.toNat_and]
      have:(BitVec.ofInt IntKind.u64.bits 2047).toNat=2047:=by decide
      rw [this]
      exact Nat.and_le_right
    rw [IntKind.wrap_u64]
    omega
  have h3:wc .i64 (wand .u64 (wsrc .u64 f 52) 2047)=wand .u64 (wsrc .u64 f 52) 2047:=IntWalk.i64_in _ ⟨by omega,by omega⟩
  simp only [Option.bind_some,h3]
theorem contains_p {l:List Int} (hl:l.length≤100000):Ret (slices_ContainsFunc_apiFloat l) (fun b=>(b=true∧¬ Ff l)∨(b=false∧Ff l)):=by
  unfold slices_ContainsFunc_apiFloat
  rw [ret_bind]
  refine ret_call (P:=fun r=>(0≤r∧¬ Ff l)∨(r= -1∧Ff l)) ?_ ?_
  · unfold slices_IndexFunc_apiFloat
    rw [ret_bind]
    refine ret_call (P:=fun o=>(o=.inl ()∧Ff l)∨(∃ k:Nat,o=.inr (k:Int)∧¬ Ff l)) ?_ ?_
    · refine ret_loop l.length (fun k (t:Int)=>t=(k:Int)∧∀ f,f∈l.take k→Fn f=true) ⟨rfl,fun f h=>by simp at h⟩ ?_
      rintro k t hk ⟨rfl,hI⟩
      unfold slices_IndexFunc_apiFloat_l1 matrix_Check_1
      by_cases hkl:k < l.length
      · obtain ⟨x,hx⟩:∃ x,l[k]?=some x:=⟨l[k],by simp [hkl]⟩
        have e1:getI l (k:Int)=some x:=hx
        have e5:(k:Int) < (l.length:Int):=by omega
        have hw:wa .i64 (k:Int) 1=((k+1:Nat):Int):=wa1 (by omega)
        simp only [vcC,Bool.false_eq_true,reduceCtorEq,e1,e5,hw,fin_p,Bool.not_eq_true']
        refine ⟨fun h=>.inr ⟨k,rfl,fun hF=>?_⟩,fun h=>⟨hkl,trivial,fun f hf=>?_⟩⟩
        · have:=hF x (mem_get hx); rw [h] at this; cases this
        · rw [mts hx] at hf
          rcases hf with hf | rfl
          · exact hI f hf
          · simpa using h
      · have e5:¬ (k:Int) < (l.length:Int):=by omega
        simp only [vcC,Bool.false_eq_true,reduceCtorEq,e5]
        refine .inl ⟨trivial,?_⟩
        rwa [take_all (by omega)] at hI
    · rintro o (⟨rfl,h⟩ | ⟨k,rfl,h⟩)
      · rw [ret_some]; exact .inr ⟨rfl,h⟩
      · rw [ret_some]; exact .inl ⟨by omega,h⟩
  · rintro r (⟨h,h1⟩ | ⟨rfl,h1⟩)
    · rw [ret_some]; exact .inl ⟨decide_eq_true h,h1⟩
    · rw [ret_some]; exact .inr ⟨rfl,h1⟩
theorem check_p {x1 x2:Int} {x3 x5 x7:List Int} (h3:x3.length≤100000) (h5:x5.length≤100000) (h7:x7.length≤100000):Ret (matrix_Check x1 x2 x3 x5 x7) (Ot x1 x2 x3 x5 x7):=by
  unfold matrix_Check matrix_within
  simp only [Option.bind_some]
  by_cases hs:Sz x1 x2 x5
  · obtain ⟨hs1,hs2,hs3⟩:=id hs
    have a1:(decide (0≤x1) && decide (x1≤200))=true:=by simp; omega
    have a2:(decide (0≤x2) && decide (x2≤200))=true:=by simp; omega
    have a3:decide ((10000:Int) < (x5.length:Int))=false:=decide_eq_false (by omega)
    rw [a1,a2,a3]
    simp only [vcD,implies_true,Bool.false_eq_true,reduceCtorEq,Bool.or_self]
    refine ret_call (columns_p hs h3 h5) ?_
    rintro b (⟨rfl,hc⟩ | ⟨rfl,hc⟩)
    · simp only [vcD,implies_true,Bool.false_eq_true,reduceCtorEq]
      refine ret_call (contains_p h7) ?_
      rintro b (⟨rfl,hf⟩ | ⟨rfl,hf⟩)
      · simp only [vcD,implies_true,Bool.false_eq_true,reduceCtorEq]; exact Or.inr (Or.inr (Or.inl ⟨rfl,hs,hc,hf⟩))
      · simp only [vcD,implies_true,Bool.false_eq_true,reduceCtorEq]; exact Or.inr (Or.inr (Or.inr ⟨rfl,hs,hc,hf⟩))
    · simp only [vcD,implies_true,Bool.false_eq_true,reduceCtorEq]; exact Or.inr (Or.inl ⟨rfl,hs,hc⟩)
  · have:∃ b,(if (decide (0≤x1) && decide (x1≤200))=true then some (!(decide (0≤x2) && decide (x2≤200))) else some true)=some b∧(b || decide ((10000:Int) < (x5.length:Int)))=true:=by
      by_cases a1:0≤x1∧x1≤200
      · by_cases a2:0≤x2∧x2≤200
        · by_cases a3:x5.length≤10000
          · exact absurd ⟨a1,a2,a3⟩ hs
          · refine ⟨false,?_,by simp; omega⟩
            rw [if_pos (by simp; omega)]
            simp; omega
        · refine ⟨true,?_,rfl⟩
          rw [if_pos (by simp; omega)]
          simp; omega
      · refine ⟨true,?_,rfl⟩
        rw [if_neg (by simp; omega)]
    obtain ⟨b,h1,h2⟩:=this
    rw [h1]
    simp only [Option.bind_some]
    rw [if_pos h2,ret_some]
    exact Or.inl ⟨rfl,hs⟩
theorem fin_r {l:List Int} (hl:l.length≤100000):Ret (sparseref06_Finite l) (fun b=>(b=true∧Ff l)∨(b=false∧¬ Ff l)):=by
  unfold sparseref06_Finite
  rw [ret_bind]
  refine ret_call (P:=fun o=>(o=.inl ()∧Ff l)∨(o=.inr ()∧¬ Ff l)) ?_ ?_
  · refine ret_loop l.length (fun k (t:Int)=>t=(k:Int)∧∀ f,f∈l.take k→Fn f=true) ⟨rfl,fun f h=>by simp at h⟩ ?_
    rintro k t hk ⟨rfl,hI⟩
    unfold sparseref06_Finite_l1 sparseref03_IsFinite
    by_cases hkl:k < l.length
    · obtain ⟨x,hx⟩:∃ x,l[k]?=some x:=⟨l[k],by simp [hkl]⟩
      have e1:getI l (k:Int)=some x:=hx
      have e5:(k:Int) < (l.length:Int):=by omega
      have hw:wa .i64 (k:Int) 1=((k+1:Nat):Int):=wa1 (by omega)
      simp only [vcC,Bool.false_eq_true,reduceCtorEq,e1,e5,hw]
      refine ⟨fun h=>⟨hkl,trivial,fun f hf=>?_⟩,fun h=>.inr ⟨trivial,fun hF=>h (hF x (mem_get hx))⟩⟩
      rw [mts hx] at hf
      rcases hf with hf | rfl
      · exact hI f hf
      · exact h
    · have e5:¬ (k:Int) < (l.length:Int):=by omega
      simp only [vcC,Bool.false_eq_true,reduceCtorEq,e5]
      refine .inl ⟨trivial,?_⟩
      rwa [take_all (by omega)] at hI
  · rintro o (⟨rfl,h⟩ | ⟨rfl,h⟩)
    · rw [ret_some]; exact .inl ⟨rfl,h⟩
    · rw [ret_some]; exact .inr ⟨rfl,h⟩
theorem mono_r {n:Nat} {x3:List Int} (hl:x3.length=n+1) (hn:n≤100000):Ret (loop (sparseref09_Check_l8 (n:Int) x3) 0) (fun o=>(o=.inl ()∧Mo x3)∨(o=.inr ()∧¬ Mo x3)):=by
  refine ret_loop n (fun k (t:Int)=>t=(k:Int)∧∀ (j:Nat) (a b:Int),j < k→x3[j]?=some a→x3[j+1]?=some b→a≤b) ⟨rfl,fun j a b h=>by omega⟩ ?_
  rintro k t hk ⟨rfl,hI⟩
  unfold sparseref09_Check_l8
  by_cases hkn:k < n
  · have hw:wa .i64 (k:Int) 1=((k+1:Nat):Int):=wa1 (by omega)
    obtain ⟨a,ha⟩:∃ a,x3[k]?=some a:=⟨x3[k]'(by omega),by simp [show k < x3.length by omega]⟩
    obtain ⟨b,hb⟩:∃ b,x3[k+1]?=some b:=⟨x3[k+1]'(by omega),by simp [show k+1 < x3.length by omega]⟩
    have e1:getI x3 (k:Int)=some a:=ha
    have e2:getI x3 ((k+1:Nat):Int)=some b:=hb
    have e5:(k:Int) < (n:Int):=by omega
    simp only [vcC,Bool.false_eq_true,reduceCtorEq,hw,e1,e2,e5]
    refine ⟨fun h=>.inr ⟨trivial,fun hM=>?_⟩,fun h=>⟨hkn,trivial,fun j a' b' hj ha' hb'=>?_⟩⟩
    · have:=hM k a b ha hb; omega
    · by_cases hjk:j=k
      · subst hjk
        rw [ha] at ha'; rw [hb] at hb'
        obtain rfl:=Option.some.inj ha'
        obtain rfl:=Option.some.inj hb'
        omega
      · exact hI j a' b' (by omega) ha' hb'
  · have e5:¬ (k:Int) < (n:Int):=by omega
    simp only [vcC,Bool.false_eq_true,reduceCtorEq,e5]
    exact .inl ⟨trivial,fun j a b ha hb=>hI j a b (by have:=(List.getElem?_eq_some_iff.1 hb).1; omega) ha hb⟩
theorem cl_r {x1:Int} {n:Nat} {x3 x5:List Int} (hl:x3.length=n+1) (hn:n≤100000) (h5:x5.length≤100000) (hM:Mo x3) (h0:x3[0]?=some 0) (hsn:x3[n]?=some (x5.length:Int)):Ret (loop (sparseref09_Check_l59 (n:Int) x3 x5 x1) 0) (fun o=>(o=.inl ()∧Cl x1 x3 x5)∨(o=.inr ()∧¬ Cl x1 x3 x5)):=by
  refine ret_loop n (fun k (t:Int)=>t=(k:Int)∧∀ (j:Nat) (a b:Int),j < k→x3[j]?=some a→x3[j+1]?=some b→∀ (k:Nat) (i:Int),a≤(k:Int)→(k:Int) < b→x5[k]?=some i→0≤i∧i < x1∧(a < (k:Int)→∀ i',x5[k - 1]?=some i'→i' < i)) ⟨rfl,fun j a b h=>by omega⟩ ?_
  rintro k t hk ⟨rfl,hI⟩
  unfold sparseref09_Check_l59
  by_cases hkn:k < n
  · have hwk:wa .i64 (k:Int) 1=((k+1:Nat):Int):=wa1 (by omega)
    obtain ⟨a,ha⟩:∃ a,x3[k]?=some a:=⟨x3[k]'(by omega),by simp [show k < x3.length by omega]⟩
    obtain ⟨b,hb⟩:∃ b,x3[k+1]?=some b:=⟨x3[k+1]'(by omega),by simp [show k+1 < x3.length by omega]⟩
    have hab:=hM k a b ha hb
    have ha0:=mo_le hM (Nat.zero_le k) h0 ha
    have hbn:=mo_le hM (show k+1≤n by omega) hb hsn
    obtain ⟨a,rfl⟩:=Int.eq_ofNat_of_zero_le ha0
    obtain ⟨b,rfl⟩:=Int.eq_ofNat_of_zero_le (show 0≤b by omega)
    have e1:getI x3 (k:Int)=some (a:Int):=ha
    have e2:getI x3 ((k+1:Nat):Int)=some (b:Int):=hb
    have e5:(k:Int) < (n:Int):=by omega
    simp only [ret_bind,ret_if,e1,e5,ret_some,vq_l,vq_r,true_implies,not_true_eq_false,false_implies,and_true]
    refine ret_call (P:=fun o=>(o=.inl ()∧∀ (k:Nat) (i:Int),(a:Int)≤(k:Int)→(k:Int) < (b:Int)→x5[k]?=some i→0≤i∧i < x1∧((a:Int) < (k:Int)→∀ i',x5[k - 1]?=some i'→i' < i))∨(o=.inr ()∧¬ Cl x1 x3 x5)) ?_ ?_
    · refine ret_loop (b - a) (fun m (t:Int)=>t=((a+m:Nat):Int)∧∀ (k:Nat) (i:Int),(a:Int)≤(k:Int)→k < a+m→x5[k]?=some i→0≤i∧i < x1∧((a:Int) < (k:Int)→∀ i',x5[k - 1]?=some i'→i' < i)) ⟨rfl,fun k i h1 h2=>by omega⟩ ?_
      rintro m t hm ⟨rfl,hJ⟩
      unfold sparseref09_Check_l76
      by_cases hmb:a+m < b
      · obtain ⟨x,hx⟩:∃ x,x5[a+m]?=some x:=⟨x5[a+m]'(by omega),by simp [show a+m < x5.length by omega]⟩
        have e3:getI x5 ((a+m:Nat):Int)=some x:=hx
        have e6:((a+m:Nat):Int) < (b:Int):=by omega
        have hw2:wa .i64 ((a+m:Nat):Int) 1=((a+(m+1):Nat):Int):=by rw [wa1 (by omega)]; congr 1
        have hbad:¬ (0≤x∧x < x1∧((a:Int) < ((a+m:Nat):Int)→∀ i',x5[a+m - 1]?=some i'→i' < x))→¬ Cl x1 x3 x5:=fun h hC=>h (hC k _ _ ha hb (a+m) x (by omega) (by omega) hx)
        have hgood:(0≤x∧x < x1∧((a:Int) < ((a+m:Nat):Int)→∀ i',x5[a+m - 1]?=some i'→i' < x))→∀ (k:Nat) (i:Int),(a:Int)≤(k:Int)→k < a+(m+1)→x5[k]?=some i→0≤i∧i < x1∧((a:Int) < (k:Int)→∀ i',x5[k - 1]?=some i'→i' < i):=by
          intro h k i h1 h2 hi
          by_cases hk2:k=a+m
          · subst hk2
            rw [hx] at hi
            obtain rfl:=Option.some.inj hi
            exact h
          · exact hJ k i h1 (by omega) hi
        by_cases c1:x < 0
        · simp only [vcC,Bool.false_eq_true,reduceCtorEq,hwk,e1,e2,e3,e6,c1]
          exact .inr ⟨trivial,hbad (fun h=>by omega)⟩
        · by_cases c2:x1≤x
          · simp only [vcC,Bool.false_eq_true,reduceCtorEq,hwk,e1,e2,e3,e6,c1,c2]
            exact .inr ⟨trivial,hbad (fun h=>by omega)⟩
          · by_cases c3:(a:Int) < ((a+m:Nat):Int)
            · obtain ⟨y,hy⟩:∃ y,x5[a+m - 1]?=some y:=⟨x5[a+m - 1]'(by omega),by simp [show a+m - 1 < x5.length by omega]⟩
              have e4:ws .i64 ((a+m:Nat):Int) 1=((a+m - 1:Nat):Int):=by rw [ws_i (by omega) (by omega)]; omega
              have e7:getI x5 ((a+m - 1:Nat):Int)=some y:=hy
              by_cases c4:x≤y
              · simp only [vcC,Bool.false_eq_true,reduceCtorEq,hwk,e1,e2,e3,e6,c1,c2,c3,e4,e7,c4]
                exact .inr ⟨trivial,hbad (fun h=>by have:=h.2.2 c3 y hy; omega)⟩
              · simp only [vcC,Bool.false_eq_true,reduceCtorEq,hwk,e1,e2,e3,e6,c1,c2,c3,e4,e7,c4,hw2]
                refine ⟨by omega,trivial,hgood ⟨by omega,by omega,fun _ i' hi'=>?_⟩⟩
                rw [hy] at hi'
                have:=Option.some.inj hi'
                omega
            · simp only [vcC,Bool.false_eq_true,reduceCtorEq,hwk,e1,e2,e3,e6,c1,c2,c3,hw2]
              exact ⟨by omega,trivial,hgood ⟨by omega,by omega,fun h=>absurd h c3⟩⟩
      · have e6:¬ ((a+m:Nat):Int) < (b:Int):=by omega
        simp only [vcC,Bool.false_eq_true,reduceCtorEq,hwk,e1,e2,e6]
        exact .inl ⟨trivial,fun k i h1 h2 hi=>hJ k i h1 (by omega) hi⟩
    · rintro o (⟨rfl,hc⟩ | ⟨rfl,hc⟩)
      · simp only [vcC,Bool.false_eq_true,reduceCtorEq,hwk]
        refine ⟨hkn,trivial,fun j a' b' hj ha' hb'=>?_⟩
        by_cases hjk:j=k
        · subst hjk
          rw [ha] at ha'; rw [hb] at hb'
          obtain rfl:=Option.some.inj ha'
          obtain rfl:=Option.some.inj hb'
          exact hc
        · exact hI j a' b' (by omega) ha' hb'
      · simp only [vcC,Bool.false_eq_true,reduceCtorEq]
        exact .inr ⟨trivial,hc⟩
  · have e5:¬ (k:Int) < (n:Int):=by omega
    simp only [vcC,Bool.false_eq_true,reduceCtorEq,e5]
    exact .inl ⟨trivial,fun j a b ha hb=>hI j a b (by have:=(List.getElem?_eq_some_iff.1 hb).1; omega) ha hb⟩
end Pu
namespace Pu
open Pl Sx Go M Vc
theorem check_r {x1 x2:Int} {x3 x5 x7:List Int} (h3:x3.length≤100000) (h5:x5.length≤100000) (h7:x7.length≤100000):Ret (sparseref09_Check x1 x2 x3 x5 x7) (Ot x1 x2 x3 x5 x7):=by
  unfold sparseref09_Check
  by_cases hs:Sz x1 x2 x5
  · obtain ⟨hs1,hs2,hs3⟩:=id hs
    obtain ⟨n,rfl⟩:=Int.eq_ofNat_of_zero_le hs2.1
    have hw:wa .i64 (n:Int) 1=((n+1:Nat):Int):=wa1 (by omega)
    rw [if_neg (by simp; omega),hw]
    by_cases hv:x7.length=x5.length
    · by_cases hl:x3.length=n+1
      · have hg0:getI x3 0=some (x3[0]'(by omega)):=getI_lt (k:=0) (by omega)
        have hgn:getI x3 (n:Int)=some (x3[n]'(by omega)):=getI_lt (by omega)
        rw [if_neg (by simp; omega),bindS hg0]
        simp only [Option.bind_some]
        by_cases h0:(x3[0]'(by omega))=0
        · rw [decide_eq_true h0,if_neg (by simp),bindS hgn]
          simp only [Option.bind_some]
          by_cases hn:(x3[n]'(by omega))=(x5.length:Int)
          · rw [decide_eq_true hn,if_neg (by simp)]
            have hH:Hd x1 (n:Int) x3 x5 x7:=⟨hv,by omega,by simp [h0,show 0 < x3.length by omega],by simp [hn,show n < x3.length by omega]⟩
            simp only [ret_bind]
            refine ret_call (mono_r hl (by omega)) ?_
            rintro o (⟨rfl,hM⟩ | ⟨rfl,hM⟩)
            · simp only [ret_bind]
              refine ret_call (cl_r (x1:=x1) hl (by omega) h5 hM hH.s0 (by simpa using hH.sn)) ?_
              rintro o (⟨rfl,hC⟩ | ⟨rfl,hC⟩)
              · simp only [ret_bind]
                refine ret_call (fin_r h7) ?_
                rintro b (⟨rfl,hF⟩ | ⟨rfl,hF⟩)
                · rw [if_pos rfl,ret_some]; exact Or.inr (Or.inr (Or.inr ⟨rfl,hs,⟨hH,hM,hC⟩,hF⟩))
                · rw [if_neg (by simp),ret_some]; exact Or.inr (Or.inr (Or.inl ⟨rfl,hs,⟨hH,hM,hC⟩,hF⟩))
              · rw [ret_some]; exact Or.inr (Or.inl ⟨rfl,hs,fun h=>hC h.2.2⟩)
            · rw [ret_some]; exact Or.inr (Or.inl ⟨rfl,hs,fun h=>hM h.2.1⟩)
          · rw [decide_eq_false hn,if_pos (by simp),ret_some]
            refine Or.inr (Or.inl ⟨rfl,hs,fun h=>hn ?_⟩)
            have:=h.1.sn
            simp only [Int.toNat_natCast] at this
            rw [List.getElem?_eq_getElem (by omega)] at this
            exact Option.some.inj this
        · rw [decide_eq_false h0]
          simp only [Bool.not_false,if_true,Option.bind_some]
          rw [ret_some]
          refine Or.inr (Or.inl ⟨rfl,hs,fun h=>h0 ?_⟩)
          have:=h.1.s0
          rw [List.getElem?_eq_getElem (by omega)] at this
          exact Option.some.inj this
      · rw [if_pos (by simp; omega)]
        simp only [Option.bind_some,if_true]
        rw [ret_some]
        exact Or.inr (Or.inl ⟨rfl,hs,fun h=>hl (by have:=h.1.ls; omega)⟩)
    · rw [if_pos (by simp; omega)]
      simp only [Option.bind_some,if_true]
      rw [ret_some]
      exact Or.inr (Or.inl ⟨rfl,hs,fun h=>hv h.1.lv⟩)
  · rw [if_pos,ret_some]
    · exact Or.inl ⟨rfl,hs⟩
    · simp only [Bool.or_eq_true,decide_eq_true_eq]
      refine Classical.byContradiction fun h=>hs ⟨by omega,by omega,by omega⟩
theorem checks {x1 x2:Int} {x3 x5 x7:List Int} (h3:x3.length≤100000) (h5:x5.length≤100000) (h7:x7.length≤100000):∃ e,matrix_Check x1 x2 x3 x5 x7=some e∧sparseref09_Check x1 x2 x3 x5 x7=some e∧Ot x1 x2 x3 x5 x7 e:=by
  obtain ⟨e,h1,h2⟩:=check_p (x1:=x1) (x2:=x2) h3 h5 h7
  obtain ⟨e',k1,k2⟩:=check_r (x1:=x1) (x2:=x2) h3 h5 h7
  obtain rfl:=h2.uniq k2
  exact ⟨e,h1,k1,h2⟩
structure Va (x1 x2:Int) (x3 x5 x7:List Int):Prop where
  sz:Sz x1 x2 x5
  hd:Hd x1 x2 x3 x5 x7
  mo:Mo x3
  cl:Cl x1 x3 x5
theorem Ot.va {x1 x2:Int} {x3 x5 x7:List Int} (h:Ot x1 x2 x3 x5 x7 0):Va x1 x2 x3 x5 x7:=by
  rcases h with ⟨h,_⟩ | ⟨h,_⟩ | ⟨h,_⟩ | ⟨_,h1,⟨h2,h3,h4⟩,_⟩
  · cases h
  · cases h
  · cases h
  · exact ⟨h1,h2,h3,h4⟩
def LT (e e':Int×Int×Int):Prop:=e.2.1 < e'.2.1∨(e.2.1=e'.2.1∧e.1 < e'.1)
def Bd (x1 x2:Int) (e:Int×Int×Int):Prop:=(0≤e.1∧e.1 < x1)∧(0≤e.2.1∧e.2.1 < x2)
theorem lt_snoc {l:List (Int×Int×Int)} {x:Int×Int×Int} (h:l.Pairwise LT) (h2:∀ e,e∈l→LT e x):(l++[x]).Pairwise LT:=by
  rw [List.pairwise_append]
  exact ⟨h,List.pairwise_singleton _ _,fun y hy z hz=>by rw [List.mem_singleton] at hz; subst hz; exact h2 y hy⟩
theorem entries_ok {x1 x2:Int} {x3 x5 x7:List Int} (h:Va x1 x2 x3 x5 x7) (h5:x5.length≤100000):
    Ret (loop (sparseref09_Entries_l3 x2 x3 x5 x7) ([],0)) (fun l=>l.length≤x5.length∧(∀ e,e∈l→Bd x1 x2 e)∧l.Pairwise LT):=by
  obtain ⟨hs1,hs2,hs3⟩:=h.sz
  obtain ⟨n,rfl⟩:=Int.eq_ofNat_of_zero_le hs2.1
  have hl:x3.length=n+1:=by have:=h.hd.ls; omega
  have hsn:x3[n]?=some (x5.length:Int):=by simpa using h.hd.sn
  have hv:=h.hd.lv
  refine ret_loop n (fun k (t:List (Int×Int×Int)×Int)=>t.2=k∧x3[k]?=some (t.1.length:Int)∧(∀ e,e∈t.1→Bd x1 n e∧e.2.1 < (k:Int))∧t.1.Pairwise LT) ⟨rfl,by simpa using h.hd.s0,(fun e he=>by simp at he),.nil⟩ ?_
  rintro k ⟨l,i⟩ hk ⟨rfl,hkl,hI,hP⟩
  simp only at hkl hI hP
  unfold sparseref09_Entries_l3
  by_cases hkn:k < n
  · have hwk:wa .i64 (k:Int) 1=((k+1:Nat):Int):=wa1 (by omega)
    obtain ⟨b,hb⟩:∃ b,x3[k+1]?=some b:=⟨x3[k+1]'(by omega),by simp [show k+1 < x3.length by omega]⟩
    have hab:=h.mo k _ b hkl hb
    have hbn:=mo_le h.mo (show k+1≤n by omega) hb hsn
    obtain ⟨b,rfl⟩:=Int.eq_ofNat_of_zero_le (show 0≤b by omega)
    have e1:getI x3 (k:Int)=some (l.length:Int):=hkl
    have e2:getI x3 ((k+1:Nat):Int)=some (b:Int):=hb
    have e5:(k:Int) < (n:Int):=by omega
    simp only [ret_bind,ret_if,e1,e5,ret_some,vq_l,vq_r,hwk,true_implies,not_true_eq_false,false_implies,and_true]
    refine ret_call (P:=fun l'=>l'.length=b∧(∀ e,e∈l'→Bd x1 n e∧e.2.1≤(k:Int))∧l'.Pairwise LT) ?_ (fun l' hl'=>⟨hkn,trivial,by rw [hb,hl'.1],fun e he=>⟨(hl'.2.1 e he).1,by have:=(hl'.2.1 e he).2; omega⟩,hl'.2.2⟩)
    refine ret_loop (b - l.length) (fun m (t:List (Int×Int×Int)×Int)=>t.2=((l.length+m:Nat):Int)∧t.1.length=l.length+m∧(∀ e,e∈t.1→Bd x1 n e∧(e.2.1 < (k:Int)∨(e.2.1=(k:Int)∧0 < m∧∀ z,x5[l.length+m - 1]?=some z→e.1≤z)))∧t.1.Pairwise LT) ⟨rfl,rfl,(fun e he=>⟨(hI e he).1,.inl (hI e he).2⟩),hP⟩ ?_
    rintro m ⟨l',i⟩ hm ⟨h0,h1,h2,hP⟩
    simp only at h0 h1 h2 hP
    subst h0
    unfold sparseref09_Entries_l4
    by_cases hmb:l.length+m < b
    · obtain ⟨x,hx⟩:∃ x,x5[l.length+m]?=some x:=⟨x5[l.length+m]'(by omega),by simp [show l.length+m < x5.length by omega]⟩
      obtain ⟨y,hy⟩:∃ y,x7[l.length+m]?=some y:=⟨x7[l.length+m]'(by omega),by simp [show l.length+m < x7.length by omega]⟩
      have e3:getI x5 ((l.length+m:Nat):Int)=some x:=hx
      have e4:getI x7 ((l.length+m:Nat):Int)=some y:=hy
      have e6:((l.length+m:Nat):Int) < (b:Int):=by omega
      have hw2:wa .i64 ((l.length+m:Nat):Int) 1=((l.length+(m+1):Nat):Int):=by rw [wa1 (by omega)]; congr 1
      have hc:=h.cl k _ _ hkl hb (l.length+m) x (by omega) (by omega) hx
      simp only [vcD,implies_true,Bool.false_eq_true,reduceCtorEq,hwk,e2,e3,e4,e6,hw2]
      refine ⟨by rw [h1,List.length_singleton]; omega,by omega,by rw [List.length_append,h1,List.length_singleton]; omega,fun e he=>?_,lt_snoc hP (fun e he=>?_)⟩
      · rw [List.mem_append,List.mem_singleton] at he
        rcases he with he | rfl
        · refine ⟨(h2 e he).1,?_⟩
          rcases (h2 e he).2 with h3 | ⟨h3,h4,h6⟩
          · exact .inl h3
          · refine .inr ⟨h3,by omega,fun z hz=>?_⟩
            rw [show l.length+(m+1) - 1=l.length+m by omega,hx] at hz
            obtain rfl:=Option.some.inj hz
            obtain ⟨u,hu⟩:∃ u,x5[l.length+m - 1]?=some u:=⟨x5[l.length+m - 1]'(by omega),by simp [show l.length+m - 1 < x5.length by omega]⟩
            have:=h6 u hu
            have:=hc.2.2 (by omega) u hu
            omega
        · refine ⟨⟨⟨hc.1,hc.2.1⟩,by simp only; omega,by simp only; omega⟩,.inr ⟨rfl,by omega,fun z hz=>?_⟩⟩
          rw [show l.length+(m+1) - 1=l.length+m by omega,hx] at hz
          obtain rfl:=Option.some.inj hz
          exact Int.le_refl _
      · rcases (h2 e he).2 with h3 | ⟨h3,h4,h6⟩
        · exact .inl h3
        · refine .inr ⟨h3,?_⟩
          obtain ⟨u,hu⟩:∃ u,x5[l.length+m - 1]?=some u:=⟨x5[l.length+m - 1]'(by omega),by simp [show l.length+m - 1 < x5.length by omega]⟩
          have:=h6 u hu
          have:=hc.2.2 (by omega) u hu
          simp only; omega
    · have e6:¬ ((l.length+m:Nat):Int) < (b:Int):=by omega
      simp only [vcD,implies_true,Bool.false_eq_true,reduceCtorEq,hwk,e2,e6]
      exact ⟨by omega,(fun e he=>⟨(h2 e he).1,by rcases (h2 e he).2 with h3 | ⟨h3,_⟩<;>omega⟩),hP⟩
  · have e5:¬ (k:Int) < (n:Int):=by omega
    simp only [vcD,implies_true,Bool.false_eq_true,reduceCtorEq,e5]
    have:k=n:=by omega
    subst this
    rw [hsn] at hkl
    have:=Option.some.inj hkl
    exact ⟨by omega,(fun e he=>(hI e he).1),hP⟩
theorem ent_l4:matrix_entries_l4=sparseref09_Entries_l4:=rfl
theorem ent_l3:matrix_entries_l3=sparseref09_Entries_l3:=rfl
theorem ents {x1 x2:Int} {x3 x5 x7:List Int} (h:Va x1 x2 x3 x5 x7) (h5:x5.length≤100000) (hp:matrix_Check x1 x2 x3 x5 x7=some 0) (hr:sparseref09_Check x1 x2 x3 x5 x7=some 0):
    ∃ l,matrix_Entries x1 x2 x3 x5 x7=some l∧sparseref09_Entries x1 x2 x3 x5 x7=some l∧l.length≤x5.length∧(∀ e,e∈l→Bd x1 x2 e)∧l.Pairwise LT:=by
  obtain ⟨l,h1,h2,h3⟩:=entries_ok h h5
  refine ⟨l,?_,?_,h2,h3⟩
  · unfold matrix_Entries matrix_entries
    rw [bindS hp,if_pos rfl,ent_l3,h1]; rfl
  · unfold sparseref09_Entries
    rw [bindS hr,if_pos rfl,h1]; rfl
def PR (c:List Int) (m:Nat) (i j:Nat):Prop:=∃ a b:Nat,b < a∧a < m∧c[a]?=some (i:Int)∧c[b]?=some (j:Int)
def PB (c:List Int) (a q:Nat) (i j:Nat):Prop:=∃ b:Nat,b < q∧c[a]?=some (i:Int)∧c[b]?=some (j:Int)
theorem PR.succ {c:List Int} {m i j:Nat}:PR c (m+1) i j↔PR c m i j∨PB c m m i j:=by
  constructor
  · rintro ⟨a,b,h1,h2,h3,h4⟩
    by_cases ha:a=m
    · subst ha; exact .inr ⟨b,h1,h3,h4⟩
    · exact .inl ⟨a,b,h1,by omega,h3,h4⟩
  · rintro (⟨a,b,h1,h2,h3,h4⟩ | ⟨b,h1,h2,h3⟩)
    · exact ⟨a,b,h1,by omega,h3,h4⟩
    · exact ⟨m,b,h1,by omega,h2,h3⟩
theorem PB.succ {c:List Int} {a q:Nat} {v w:Nat} (ha:c[a]?=some (v:Int)) (hq:c[q]?=some (w:Int)) {i j:Nat}:PB c a (q+1) i j↔PB c a q i j∨(i=v∧j=w):=by
  constructor
  · rintro ⟨b,h1,h2,h3⟩
    by_cases hb:b=q
    · subst hb
      rw [ha] at h2; rw [hq] at h3
      have:=Option.some.inj h2
      have:=Option.some.inj h3
      exact .inr ⟨by omega,by omega⟩
    · exact .inl ⟨b,by omega,h2,h3⟩
  · rintro (⟨b,h1,h2,h3⟩ | ⟨rfl,rfl⟩)
    · exact ⟨b,by omega,h2,h3⟩
    · exact ⟨q,by omega,ha,hq⟩
def RR (rows:List (List Int)) (i j:Nat):Prop:=∃ c,c∈rows∧PR c c.length i j
theorem RR.succ {rows:List (List Int)} {k:Nat} {c:List Int} (h:rows[k]?=some c) {i j:Nat}:RR (rows.take (k+1)) i j↔RR (rows.take k) i j∨PR c c.length i j:=by
  unfold RR
  constructor
  · rintro ⟨x,hx,h1⟩
    rw [mts h] at hx
    rcases hx with hx | rfl
    · exact .inl ⟨x,hx,h1⟩
    · exact .inr h1
  · rintro (⟨x,hx,h1⟩ | h1)
    · exact ⟨x,(mts h).2 (.inl hx),h1⟩
    · exact ⟨c,(mts h).2 (.inr rfl),h1⟩
def cols (l:List (Int×Int×Int)) (r:Nat):List Int:=(l.filter fun e=>decide (e.1=(r:Int))).map (·.2.1)
def En (l:List (Int×Int×Int)) (r c:Nat):Prop:=∃ e,e∈l∧e.1=(r:Int)∧e.2.1=(c:Int)
theorem cols_mem {l:List (Int×Int×Int)} {r:Nat} {x:Int}:x∈cols l r↔∃ e,e∈l∧e.1=(r:Int)∧e.2.1=x:=by
  simp [cols,and_assoc]
theorem cols_snoc {l:List (Int×Int×Int)} {e:Int×Int×Int} {r:Nat}:cols (l++[e]) r=if e.1=(r:Int) then cols l r++[e.2.1] else cols l r:=by
  unfold cols
  rw [List.filter_append,List.map_append]
  by_cases h:e.1=(r:Int)
  · simp [h]
  · simp [h]
theorem cols_len {l:List (Int×Int×Int)} {r:Nat}:(cols l r).length≤l.length:=by
  unfold cols; rw [List.length_map]; exact List.length_filter_le _ _
def Nb (l:List (Int×Int×Int)) (i j:Nat):Prop:=i≠j∧∃ r,En l r i∧En l r j
theorem nb_rows {l:List (Int×Int×Int)} {m n:Nat} (hr:∀ e,e∈l→Bd m n e) {rows:List (List Int)} (h1:rows.length=m) (h2:∀ r,r < m→rows[r]?=some (cols l r)) {i j:Nat} (hij:i≠j):(RR rows i j∨RR rows j i)↔∃ r,En l r i∧En l r j:=by
  have half:∀ {i j:Nat},RR rows i j→∃ r,En l r i∧En l r j:=by
    rintro i j ⟨c,hc,a,b,hba,ha,hi,hj⟩
    obtain ⟨r,hr',hc'⟩:=List.mem_iff_getElem.1 hc
    have hrm:r < m:=by omega
    have:=h2 r hrm
    rw [List.getElem?_eq_getElem (by omega),hc'] at this
    obtain rfl:=Option.some.inj this
    exact ⟨r,cols_mem.1 (mem_get hi),cols_mem.1 (mem_get hj)⟩
  constructor
  · rintro (h | h)
    · exact half h
    · obtain ⟨r,h3,h4⟩:=half h
      exact ⟨r,h4,h3⟩
  · rintro ⟨r,hi,hj⟩
    have hrm:r < m:=by
      obtain ⟨e,he,h3,_⟩:=hi
      have:=(hr e he).1
      omega
    have hmem:=List.mem_of_getElem? (h2 r hrm)
    obtain ⟨a,ha⟩:=List.mem_iff_getElem?.1 (cols_mem.2 hi)
    obtain ⟨b,hb⟩:=List.mem_iff_getElem?.1 (cols_mem.2 hj)
    have hal:=(List.getElem?_eq_some_iff.1 ha).1
    have hbl:=(List.getElem?_eq_some_iff.1 hb).1
    by_cases hab:a < b
    · exact .inr ⟨_,hmem,b,a,hab,hbl,hb,ha⟩
    · by_cases hba:b < a
      · exact .inl ⟨_,hmem,a,b,hba,hal,ha,hb⟩
      · obtain rfl:a=b:=by omega
        rw [ha] at hb
        have:=Option.some.inj hb
        omega
end Pu
namespace Pu
open Pl Sx Go M Vc
structure Ng (adj:List (List Int)) (l:List (Int×Int×Int)) (n:Nat):Prop where
  gr:Gr adj
  len:adj.length=n
  nb:∀ (v w:Nat),v < n→w < n→∀ ll,adj[v]?=some ll→((w:Int)∈ll↔Nb l v w)
end Pu
namespace Pu
theorem pw_snoc {α:Type} {R:α→α→Prop} {l:List α} {x:α}:(l++[x]).Pairwise R↔l.Pairwise R∧∀ y,y∈l→R y x:=by
  rw [List.pairwise_append]
  simp
end Pu
namespace Pw
open Pu Pl Sx Go M Vc
def coll (tm:Nat→Prop) [DecidablePred tm]:Nat→List Int
  | 0=>[]
  | m+1=>coll tm m++(if tm m then [(m:Int)] else [])
theorem coll_mem {tm:Nat→Prop} [DecidablePred tm] {x:Int}:∀ m,x∈coll tm m↔0≤x∧x.toNat < m∧tm x.toNat:=by
  intro m
  induction m with
  | zero=>simp [coll]
  | succ m ih=>
    rw [coll,List.mem_append,ih]
    constructor
    · rintro (h | h)
      · exact ⟨h.1,by omega,h.2.2⟩
      · split at h
        · rename_i hc
          simp only [List.mem_singleton] at h; subst h
          exact ⟨by omega,by omega,by simpa using hc⟩
        · simp at h
    · rintro ⟨h1,h2,h3⟩
      by_cases hx:x.toNat=m
      · right
        rw [hx] at h3
        rw [if_pos h3]
        simp; omega
      · exact .inl ⟨h1,by omega,h3⟩
theorem coll_asc {tm:Nat→Prop} [DecidablePred tm]:∀ m,(coll tm m).Pairwise (· < ·):=by
  intro m
  induction m with
  | zero=>exact .nil
  | succ m ih=>
    rw [coll,List.pairwise_append]
    refine ⟨ih,?_,?_⟩
    · split<;>simp
    · intro x hx y hy
      have:=(coll_mem m).1 hx
      split at hy
      · simp at hy; omega
      · simp at hy
theorem coll_len {tm:Nat→Prop} [DecidablePred tm]:∀ m,(coll tm m).length≤m:=by
  intro m
  induction m with
  | zero=>simp [coll]
  | succ m ih=>rw [coll,List.length_append]; split<;>simp<;>omega
theorem entries_ok {x1 x2:Int} {x3 x5 x7:List Int} (h:Va x1 x2 x3 x5 x7) (h5:x5.length≤100000):
    Ret (loop (matrix_entries_l3 x2 x3 x5 x7) ([],0)) (fun l=>l.length≤x5.length∧(∀ e,e∈l→Bd x1 x2 e)∧l.Pairwise LT):=by
  obtain ⟨hs1,hs2,hs3⟩:=h.sz
  obtain ⟨n,rfl⟩:=Int.eq_ofNat_of_zero_le hs2.1
  have hl:x3.length=n+1:=by have:=h.hd.ls; omega
  have hsn:x3[n]?=some (x5.length:Int):=by simpa using h.hd.sn
  have hv:=h.hd.lv
  refine ret_loop n (fun k (t:List (Int×Int×Int)×Int)=>t.2=k∧x3[k]?=some (t.1.length:Int)∧(∀ e,e∈t.1→Bd x1 n e∧e.2.1 < (k:Int))∧t.1.Pairwise LT) ⟨rfl,by simpa using h.hd.s0,(fun e he=>by simp at he),.nil⟩ ?_
  rintro k ⟨l,i⟩ hk ⟨rfl,hkl,hI,hP⟩
  simp only at hkl hI hP
  unfold matrix_entries_l3
  by_cases hkn:k < n
  · have hwk:wa .i64 (k:Int) 1=((k+1:Nat):Int):=wa1 (by omega)
    obtain ⟨b,hb⟩:∃ b,x3[k+1]?=some b:=⟨x3[k+1]'(by omega),by simp [show k+1 < x3.length by omega]⟩
    have hab:=h.mo k _ b hkl hb
    have hbn:=mo_le h.mo (show k+1≤n by omega) hb hsn
    obtain ⟨b,rfl⟩:=Int.eq_ofNat_of_zero_le (show 0≤b by omega)
    have e1:getI x3 (k:Int)=some (l.length:Int):=hkl
    have e2:getI x3 ((k+1:Nat):Int)=some (b:Int):=hb
    have e5:(k:Int) < (n:Int):=by omega
    simp only [ret_bind,ret_if,e1,e5,ret_some,vq_l,vq_r,hwk,true_implies,not_true_eq_false,false_implies,and_true]
    refine ret_call (P:=fun l'=>l'.length=b∧(∀ e,e∈l'→Bd x1 n e∧e.2.1≤(k:Int))∧l'.Pairwise LT) ?_ (fun l' hl'=>⟨hkn,trivial,by rw [hb,hl'.1],fun e he=>⟨(hl'.2.1 e he).1,by have:=(hl'.2.1 e he).2; omega⟩,hl'.2.2⟩)
    refine ret_loop (b - l.length) (fun m (t:List (Int×Int×Int)×Int)=>t.2=((l.length+m:Nat):Int)∧t.1.length=l.length+m∧(∀ e,e∈t.1→Bd x1 n e∧(e.2.1 < (k:Int)∨(e.2.1=(k:Int)∧0 < m∧∀ z,x5[l.length+m - 1]?=some z→e.1≤z)))∧t.1.Pairwise LT) ⟨rfl,rfl,(fun e he=>⟨(hI e he).1,.inl (hI e he).2⟩),hP⟩ ?_
    rintro m ⟨l',i⟩ hm ⟨h0,h1,h2,hP⟩
    simp only at h0 h1 h2 hP
    subst h0
    unfold matrix_entries_l4
    by_cases hmb:l.length+m < b
    · obtain ⟨x,hx⟩:∃ x,x5[l.length+m]?=some x:=⟨x5[l.length+m]'(by omega),by simp [show l.length+m < x5.length by omega]⟩
      obtain ⟨y,hy⟩:∃ y,x7[l.length+m]?=some y:=⟨x7[l.length+m]'(by omega),by simp [show l.length+m < x7.length by omega]⟩
      have e3:getI x5 ((l.length+m:Nat):Int)=some x:=hx
      have e4:getI x7 ((l.length+m:Nat):Int)=some y:=hy
      have e6:((l.length+m:Nat):Int) < (b:Int):=by omega
      have hw2:wa .i64 ((l.length+m:Nat):Int) 1=((l.length+(m+1):Nat):Int):=by rw [wa1 (by omega)]; congr 1
      have hc:=h.cl k _ _ hkl hb (l.length+m) x (by omega) (by omega) hx
      simp only [vcD,implies_true,Bool.false_eq_true,reduceCtorEq,hwk,e2,e3,e4,e6,hw2]
      refine ⟨by rw [h1,List.length_singleton]; omega,by omega,by rw [List.length_append,h1,List.length_singleton]; omega,fun e he=>?_,lt_snoc hP (fun e he=>?_)⟩
      · rw [List.mem_append,List.mem_singleton] at he
        rcases he with he | rfl
        · refine ⟨(h2 e he).1,?_⟩
          rcases (h2 e he).2 with h3 | ⟨h3,h4,h6⟩
          · exact .inl h3
          · refine .inr ⟨h3,by omega,fun z hz=>?_⟩
            rw [show l.length+(m+1) - 1=l.length+m by omega,hx] at hz
            obtain rfl:=Option.some.inj hz
            obtain ⟨u,hu⟩:∃ u,x5[l.length+m - 1]?=some u:=⟨x5[l.length+m - 1]'(by omega),by simp [show l.length+m - 1 < x5.length by omega]⟩
            have:=h6 u hu
            have:=hc.2.2 (by omega) u hu
            omega
        · refine ⟨⟨⟨hc.1,hc.2.1⟩,by simp only; omega,by simp only; omega⟩,.inr ⟨rfl,by omega,fun z hz=>?_⟩⟩
          rw [show l.length+(m+1) - 1=l.length+m by omega,hx] at hz
          obtain rfl:=Option.some.inj hz
          exact Int.le_refl _
      · rcases (h2 e he).2 with h3 | ⟨h3,h4,h6⟩
        · exact .inl h3
        · refine .inr ⟨h3,?_⟩
          obtain ⟨u,hu⟩:∃ u,x5[l.length+m - 1]?=some u:=⟨x5[l.length+m - 1]'(by omega),by simp [show l.length+m - 1 < x5.length by omega]⟩
          have:=h6 u hu
          have:=hc.2.2 (by omega) u hu
          simp only; omega
    · have e6:¬ ((l.length+m:Nat):Int) < (b:Int):=by omega
      simp only [vcD,implies_true,Bool.false_eq_true,reduceCtorEq,hwk,e2,e6]
      exact ⟨by omega,(fun e he=>⟨(h2 e he).1,by rcases (h2 e he).2 with h3 | ⟨h3,_⟩<;>omega⟩),hP⟩
  · have e5:¬ (k:Int) < (n:Int):=by omega
    simp only [vcD,implies_true,Bool.false_eq_true,reduceCtorEq,e5]
    have:k=n:=by omega
    subst this
    rw [hsn] at hkl
    have:=Option.some.inj hkl
    exact ⟨by omega,(fun e he=>(hI e he).1),hP⟩
theorem ents {x1 x2:Int} {x3 x5 x7:List Int} (h:Va x1 x2 x3 x5 x7) (h5:x5.length≤100000) (hp:matrix_Check x1 x2 x3 x5 x7=some 0):
    ∃ l,matrix_Entries x1 x2 x3 x5 x7=some l∧l.length≤x5.length∧(∀ e,e∈l→Bd x1 x2 e)∧l.Pairwise LT:=by
  obtain ⟨l,h1,h2,h3⟩:=entries_ok h h5
  refine ⟨l,?_,h2,h3⟩
  unfold matrix_Entries matrix_entries
  rw [bindS hp,if_pos rfl,h1]; rfl
open Classical in
theorem coll_gr {R:Nat→Nat→Prop} {n:Nat} (hs:∀ i j,R i j→R j i) (hi:∀ i,¬ R i i):Gr ((List.range n).map fun i=>coll (fun j=>R i j) n):=by
  have hg:∀ (v:Nat) l,((List.range n).map fun i=>coll (fun j=>R i j) n)[v]?=some l→v < n∧l=coll (fun j=>R v j) n:=by
    intro v l h
    have hv:v < n:=by have:=(List.getElem?_eq_some_iff.1 h).1; simpa using this
    refine ⟨hv,?_⟩
    simp [hv] at h; exact h.symm
  refine ⟨?_,?_,?_⟩
  · intro v l h
    obtain ⟨_,rfl⟩:=hg v l h
    exact coll_asc n
  · intro v l x h hx
    obtain ⟨hv,rfl⟩:=hg v l h
    have:=(coll_mem n).1 hx
    simp only [List.length_map,List.length_range]
    refine ⟨by omega,by omega,?_⟩
    rintro rfl
    exact hi v (by simpa using this.2.2)
  · intro v l x h hx
    obtain ⟨hv,rfl⟩:=hg v l h
    have hm:=(coll_mem n).1 hx
    exact ⟨coll (fun j=>R x.toNat j) n,by simp [hm.2.1],(coll_mem n).2 ⟨by omega,by simpa using hv,by simpa using hs _ _ hm.2.2⟩⟩
theorem coll_memx {tm:Nat→Prop} (I:DecidablePred tm) {x:Int} (n:Nat):x∈@coll tm I n↔0≤x∧x.toNat < n∧tm x.toNat:=@coll_mem tm I x n
end Pw
namespace Pw
open Pu Pl Sx Go M Vc
def vtest (r e:Int):Bool:=match sparsemake_Value_j1 r e with
  | some v=>Fn v
  | none=>false
set_option maxRecDepth 1000000 in
theorem vall:((List.range 17).all fun r=>(List.range 13).all fun e=>vtest (r:Int) ((e:Int) - 6))=true:=by kernel_rfl
theorem vone {r e:Nat} (hr:r < 17) (he:e < 13):∃ v,sparsemake_Value_j1 (r:Int) ((e:Int) - 6)=some v∧Fn v=true:=by
  have h:=List.all_eq_true.1 vall r (List.mem_range.2 hr)
  have h:=List.all_eq_true.1 h e (List.mem_range.2 he)
  unfold vtest at h
  split at h
  · rename_i v hv
    exact ⟨v,hv,h⟩
  · cases h
theorem value_ok (x:Int):∃ v,sparsemake_Value x=some v∧Fn v=true:=by
  unfold sparsemake_Value
  obtain ⟨r,h1,h2⟩:=place_ok x 17 (by omega) (by omega)
  have h1':sparsekit_Place x 17=some (r:Int):=h1
  rw [bindS h1']
  split
  · have hx:0≤wc .u64 x∧wc .u64 x < 18446744073709551616:=by unfold wc; rw [IntKind.wrap_u64]; omega
    generalize wc .u64 x=y at hx
    have e1:wqc .u64 y 17=y / 17:=by
      unfold wqc
      rw [Int.tdiv_eq_ediv_of_nonneg hx.1]
      exact IntWalk.u64_in _ (by omega)
    have e2:wc .i64 (y / 17)=y / 17:=by unfold wc; exact IntWalk.i64_in _ (by constructor<;>omega)
    have e3:wqc .i64 (y / 17) 3=y / 17 / 3:=by
      unfold wqc
      rw [Int.tdiv_eq_ediv_of_nonneg (by omega)]
      exact IntWalk.i64_in _ (by constructor<;>omega)
    have e4:wrc (y / 17 / 3) 13=y / 17 / 3 % 13:=by
      unfold wrc
      exact Int.tmod_eq_emod_of_nonneg (by omega)
    rw [e1,e2,e3,e4]
    obtain ⟨e,he⟩:=Int.eq_ofNat_of_zero_le (show 0≤y / 17 / 3 % 13 by omega)
    rw [he,ws_i (by omega) (by omega)]
    exact vone h2 (by omega)
  · exact vone (e:=6) h2 (by omega)
def El (m n:Nat) (e:Int×Int×Int):Prop:=Bd m n e∧Fn e.2.2=true
theorem pack_table {E:List (Int×Int×Int)} {m n:Nat} (hm:m≤200) (hn:n≤200) (hl:E.length≤1000) (hE:∀ e,e∈E→El m n e):
    Ret (loop (sparseref09_Pack_l1 E (m:Int)) (List.replicate (m*n) 0,0)) (fun T=>T.length=m*n∧∀ x,x∈T→0≤x∧x≤(E.length:Int)):=by
  refine ret_loop E.length (fun k (t:List Int×Int)=>t.2=k∧t.1.length=m*n∧∀ x,x∈t.1→0≤x∧x≤(E.length:Int)) ⟨rfl,by simp,fun x hx=>by have:=(List.mem_replicate.1 hx).2; omega⟩ ?_
  rintro k ⟨T,i⟩ hk ⟨rfl,h1,h2⟩
  simp only at h1 h2
  unfold sparseref09_Pack_l1
  by_cases hkl:k < E.length
  · obtain ⟨e,he⟩:∃ e,E[k]?=some e:=⟨E[k],by simp [hkl]⟩
    obtain ⟨⟨hr,hc⟩,_⟩:=hE e (mem_get he)
    obtain ⟨r,h3⟩:=Int.eq_ofNat_of_zero_le hr.1
    obtain ⟨c,h4⟩:=Int.eq_ofNat_of_zero_le hc.1
    have e1:getI E (k:Int)=some e:=he
    have e5:(k:Int) < (E.length:Int):=by omega
    have hw:wa .i64 (k:Int) 1=((k+1:Nat):Int):=wa1 (by omega)
    have hcm:c*m+m≤m*n:=by
      have:(c+1)*m≤n*m:=Nat.mul_le_mul_right m (by omega)
      rw [Nat.succ_mul] at this
      rw [Nat.mul_comm m n]; exact this
    have hmn:m*n≤200*200:=Nat.mul_le_mul hm hn
    have hw2:wm .i64 (c:Int) (m:Int)=((c*m:Nat):Int):=by rw [wm_i (by rw [← Int.natCast_mul]; omega) (by rw [← Int.natCast_mul]; omega),Int.natCast_mul]
    have hw3:wa .i64 ((c*m:Nat):Int) (r:Int)=((c*m+r:Nat):Int):=by rw [wa_i (by omega) (by omega)]; omega
    simp only [vcD,implies_true,Bool.false_eq_true,reduceCtorEq,e1,e5,hw,h3,h4,hw2,hw3]
    refine ⟨by omega,by omega,hkl,by simp [h1],fun x hx=>?_⟩
    rcases List.mem_or_eq_of_mem_set hx with h | rfl
    · exact h2 x h
    · omega
  · have e5:¬ (k:Int) < (E.length:Int):=by omega
    simp only [vcD,implies_true,Bool.false_eq_true,reduceCtorEq,e5]
    exact ⟨h1,h2⟩
theorem pack_col {E:List (Int×Int×Int)} {T:List Int} {m n j:Nat} (hm:m≤200) (hn:n≤200) (hl:E.length≤1000) (hE:∀ e,e∈E→El m n e) (hT:T.length=m*n) (hT2:∀ x,x∈T→0≤x∧x≤(E.length:Int)) (hj:j < n)
    {i v:List Int} (hv:v.length=i.length) (hi:i.length≤j*m) (hF:Ff v):
    Ret (loop (sparseref09_Pack_l13 (m:Int) T (j:Int) E) (i,v,0)) (fun o=>o.2.length=o.1.length∧Ff o.2∧∃ c:List Int,o.1=i++c∧c.length≤m∧c.Pairwise (· < ·)∧∀ x,x∈c→0≤x∧x < (m:Int)):=by
  have hcm:j*m+m≤m*n:=by
    have:(j+1)*m≤n*m:=Nat.mul_le_mul_right m (by omega)
    rw [Nat.succ_mul] at this
    rw [Nat.mul_comm m n]; exact this
  have hmn:m*n≤200*200:=Nat.mul_le_mul hm hn
  refine ret_loop m (fun k (t:List Int×List Int×Int)=>t.2.2=k∧t.2.1.length=t.1.length∧Ff t.2.1∧∃ c:List Int,t.1=i++c∧c.length≤k∧c.Pairwise (· < ·)∧∀ x,x∈c→0≤x∧x < (k:Int)) ⟨rfl,hv,hF,[],by simp⟩ ?_
  rintro k ⟨i',v',r⟩ hk ⟨rfl,h1,h2,c,h3,h4,h5,h6⟩
  simp only at h1 h2 h3
  subst h3
  unfold sparseref09_Pack_l13 sparseref09_Pack_j14
  by_cases hkm:k < m
  · have hw:wa .i64 (k:Int) 1=((k+1:Nat):Int):=wa1 (by omega)
    have e5:(k:Int) < (m:Int):=by omega
    have hw2:wm .i64 (j:Int) (m:Int)=((j*m:Nat):Int):=by rw [wm_i (by rw [← Int.natCast_mul]; omega) (by rw [← Int.natCast_mul]; omega),Int.natCast_mul]
    have hw3:wa .i64 ((j*m:Nat):Int) (k:Int)=((j*m+k:Nat):Int):=by rw [wa_i (by omega) (by omega)]; omega
    obtain ⟨x,hx⟩:∃ x,T[j*m+k]?=some x:=⟨T[j*m+k]'(by omega),by simp [show j*m+k < T.length by omega]⟩
    have hxr:=hT2 x (mem_get hx)
    have e1:getI T ((j*m+k:Nat):Int)=some x:=hx
    have hlen:(i++c).length=i.length+c.length:=List.length_append
    by_cases h0:(0:Int) < x
    · obtain ⟨q,hq⟩:∃ q:Nat,x=(q:Int)+1:=⟨(x - 1).toNat,by omega⟩
      subst hq
      obtain ⟨e,he⟩:∃ e,E[q]?=some e:=⟨E[q]'(by omega),by simp [show q < E.length by omega]⟩
      have e2:getI E (q:Int)=some e:=he
      have hw4:ws .i64 ((q:Int)+1) 1=(q:Int):=by rw [ws_i (by omega) (by omega)]; omega
      simp only [vcD,implies_true,Bool.false_eq_true,reduceCtorEq,e1,e2,e5,h0,hw,hw2,hw3,hw4]
      refine ⟨by rw [hlen,List.length_singleton]; omega,by rw [h1,hlen,List.length_singleton]; omega,hkm,by rw [List.length_append,List.length_append,h1]; rfl,fun f hf=>?_,c++[(k:Int)],by rw [List.append_assoc],by rw [List.length_append,List.length_singleton]; omega,?_,fun y hy=>?_⟩
      · rw [List.mem_append,List.mem_singleton] at hf
        rcases hf with hf | rfl
        · exact h2 f hf
        · exact (hE e (mem_get he)).2
      · rw [pw_snoc]
        exact ⟨h5,fun y hy=>by have:=h6 y hy; omega⟩
      · rw [List.mem_append,List.mem_singleton] at hy
        rcases hy with hy | rfl
        · have:=h6 y hy; omega
        · omega
    · simp only [vcD,implies_true,Bool.false_eq_true,reduceCtorEq,e1,e5,h0,hw,hw2,hw3]
      exact ⟨hkm,h1,h2,c,rfl,by omega,h5,fun y hy=>by have:=h6 y hy; omega⟩
  · have e5:¬ (k:Int) < (m:Int):=by omega
    simp only [vcD,implies_true,Bool.false_eq_true,reduceCtorEq,e5]
    exact ⟨h1,h2,c,rfl,by omega,h5,fun y hy=>by have:=h6 y hy; omega⟩
theorem mo_snoc {s:List Int} {x:Int} (h:Mo s) (hl:∀ a,s[s.length - 1]?=some a→a≤x):Mo (s++[x]):=by
  intro j a b ha hb
  by_cases hj:j+1 < s.length
  · rw [List.getElem?_append_left (by omega)] at ha hb
    exact h j a b ha hb
  · by_cases hj2:j+1=s.length
    · rw [List.getElem?_append_left (by omega)] at ha
      rw [List.getElem?_append_right (by omega),hj2] at hb
      simp at hb
      subst hb
      refine hl a ?_
      rw [← ha]
      congr 1
      omega
    · rw [List.getElem?_eq_none (by simp; omega)] at hb
      cases hb
theorem cl_snoc {m:Int} {s i c:List Int} (hp:0 < s.length) (hM:Mo s) (hs:s[s.length - 1]?=some (i.length:Int)) (h:Cl m s i) (hc:c.Pairwise (· < ·)) (hr:∀ x,x∈c→0≤x∧x < m):
    Cl m (s++[((i++c).length:Int)]) (i++c):=by
  intro j a b ha hb k x hak hkb hx
  by_cases hj:j+1 < s.length
  · rw [List.getElem?_append_left (by omega)] at ha hb
    have hbl:=mo_le hM (show j+1≤s.length - 1 by omega) hb hs
    rw [List.getElem?_append_left (by omega)] at hx
    have:=h j a b ha hb k x hak hkb hx
    refine ⟨this.1,this.2.1,fun h1 i' hi'=>this.2.2 h1 i' ?_⟩
    rwa [List.getElem?_append_left (by omega)] at hi'
  · by_cases hj2:j+1=s.length
    · rw [List.getElem?_append_left (by omega),show j=s.length - 1 by omega,hs] at ha
      have ha':=Option.some.inj ha
      rw [List.getElem?_append_right (by omega)] at hx
      have h1:=hr x (mem_get hx)
      refine ⟨h1.1,h1.2,fun h2 i' hi'=>?_⟩
      rw [List.getElem?_append_right (by omega)] at hi'
      obtain ⟨l1,e1⟩:=List.getElem?_eq_some_iff.1 hx
      obtain ⟨l2,e2⟩:=List.getElem?_eq_some_iff.1 hi'
      have:=asc_get hc l1 (i:=k - 1 - i.length) (by omega)
      rw [e1,e2] at this
      exact this
    · rw [List.getElem?_eq_none (by simp; omega)] at hb
      cases hb
theorem pack_ok {E:List (Int×Int×Int)} {m n:Nat} (hm:m≤50) (hn:n≤50) (hl:E.length≤1000) (hE:∀ e,e∈E→El m n e):
    ∃ s i v,sparseref09_Pack (m:Int) (n:Int) E=some ((m:Int),(n:Int),s,i,v)∧Va m n s i v∧Ff v∧i.length≤m*n∧s.length=n+1:=by
  obtain ⟨T,t1,t2,t3⟩:=pack_table (E:=E) (m:=m) (n:=n) (by omega) (by omega) hl hE
  have hmn:m*n≤50*50:=Nat.mul_le_mul hm hn
  have hw2:wm .i64 (m:Int) (n:Int)=((m*n:Nat):Int):=by rw [wm_i (by rw [← Int.natCast_mul]; omega) (by rw [← Int.natCast_mul]; omega),Int.natCast_mul]
  have hloop:Ret (loop (sparseref09_Pack_l10 (n:Int) (m:Int) T E) ([0],[],[],0)) (fun o=>o.1.length=n+1∧o.1[0]?=some 0∧o.1[n]?=some (o.2.1.length:Int)∧o.2.2.length=o.2.1.length∧o.2.1.length≤n*m∧Mo o.1∧Cl m o.1 o.2.1∧Ff o.2.2):=by
    refine ret_loop n (fun k (t:List Int×List Int×List Int×Int)=>t.2.2.2=k∧t.1.length=k+1∧t.1[0]?=some 0∧t.1[k]?=some (t.2.1.length:Int)∧t.2.2.1.length=t.2.1.length∧t.2.1.length≤k*m∧Mo t.1∧Cl m t.1 t.2.1∧Ff t.2.2.1)
      ⟨rfl,rfl,rfl,rfl,rfl,by simp,fun j a b ha hb=>by simp at hb,fun j a b ha hb=>by simp at hb,fun f hf=>by simp at hf⟩ ?_
    rintro k ⟨s,i,v,r⟩ hk ⟨rfl,h1,h2,h3,h4,h5,h6,h7,h8⟩
    simp only at h1 h2 h3 h4 h5 h6 h7 h8
    unfold sparseref09_Pack_l10
    by_cases hkn:k < n
    · have hw:wa .i64 (k:Int) 1=((k+1:Nat):Int):=wa1 (by omega)
      have e5:(k:Int) < (n:Int):=by omega
      have hkm:k*m≤n*m:=Nat.mul_le_mul_right m (by omega)
      simp only [vcD,implies_true,Bool.false_eq_true,reduceCtorEq,e5,hw]
      refine ret_call (pack_col (by omega) (by omega) hl hE t2 t3 hkn h4 h5 h8) ?_
      rintro ⟨i',v'⟩ ⟨g1,g2,c,g3,g4,g5,g6⟩
      simp only at g1 g2 g3
      subst g3
      simp only [vcD,implies_true,Bool.false_eq_true,reduceCtorEq]
      have hlen:(i++c).length=i.length+c.length:=List.length_append
      refine ⟨by rw [h1,List.length_singleton]; omega,hkn,by simp [h1],by rw [List.getElem?_append_left (by omega)]; exact h2,by rw [List.getElem?_append_right (by omega),h1]; simp,g1,by rw [hlen,Nat.succ_mul]; omega,mo_snoc h6 (fun a ha=>?_),cl_snoc (by omega) h6 (by rw [h1]; exact h3) h7 g5 g6,g2⟩
      rw [h1,show k+1 - 1=k by omega,h3] at ha
      have:=Option.some.inj ha
      omega
    · have e5:¬ (k:Int) < (n:Int):=by omega
      simp only [vcD,implies_true,Bool.false_eq_true,reduceCtorEq,e5]
      obtain rfl:k=n:=by omega
      exact ⟨h1,h2,h3,h4,h5,h6,h7,h8⟩
  obtain ⟨⟨s,i,v⟩,l1,l2,l3,l4,l5,l6,l7,l8,l9⟩:=hloop
  simp only at l2 l3 l4 l5 l6 l7 l8 l9
  refine ⟨s,i,v,?_,⟨⟨⟨by omega,by omega⟩,⟨by omega,by omega⟩,by rw [Nat.mul_comm] at l6; omega⟩,⟨l5,by omega,l3,by simpa using l4⟩,l7,l8⟩,l9,by rw [Nat.mul_comm m n]; exact l6,l2⟩
  unfold sparseref09_Pack
  rw [hw2,bindS (mkL_nat 0 (m*n) (by omega)),bindS t1,bindS l1]
theorem matrix_ok {m n:Nat} (hm:m≤50) (hn:n≤50) (l:List Int) (hl:l.length≤1000):
    ∃ s i v,sparsemake_Matrix (m:Int) (n:Int) l=some ((m:Int),(n:Int),s,i,v)∧Va m n s i v∧Ff v∧i.length≤m*n∧s.length=n+1:=by
  have hloop:Ret (loop (sparsemake_Matrix_l5 l (m:Int) (n:Int)) ([],0)) (fun E=>E.length≤1000∧∀ e,e∈E→El m n e):=by
    refine ret_loop l.length (fun k (t:List (Int×Int×Int)×Int)=>t.2=((3*k:Nat):Int)∧t.1.length=k∧∀ e,e∈t.1→El m n e) ⟨rfl,rfl,fun e he=>by simp at he⟩ ?_
    rintro k ⟨E,i⟩ hk ⟨rfl,h1,h2⟩
    simp only at h1 h2
    unfold sparsemake_Matrix_l5
    have hw1:wa .i64 ((3*k:Nat):Int) 1=((3*k+1:Nat):Int):=wa1 (by omega)
    have hw2:wa .i64 ((3*k:Nat):Int) 2=((3*k+2:Nat):Int):=by rw [wa_i (by omega) (by omega)]; omega
    have hw3:wa .i64 ((3*k:Nat):Int) 3=((3*(k+1):Nat):Int):=by rw [wa_i (by omega) (by omega)]; omega
    by_cases hc:3*k+2 < l.length∧0 < m∧0 < n
    · obtain ⟨hk2,hm0,hn0⟩:=hc
      have e5:(((decide (((3*k+2:Nat):Int) < (l.length:Int))) && (decide ((0:Int) < (m:Int)))) && (decide ((0:Int) < (n:Int))))=true:=by simp; omega
      obtain ⟨x,hx⟩:∃ x,l[3*k]?=some x:=⟨l[3*k]'(by omega),by simp [show 3*k < l.length by omega]⟩
      obtain ⟨y,hy⟩:∃ y,l[3*k+1]?=some y:=⟨l[3*k+1]'(by omega),by simp [show 3*k+1 < l.length by omega]⟩
      obtain ⟨z,hz⟩:∃ z,l[3*k+2]?=some z:=⟨l[3*k+2]'(by omega),by simp [show 3*k+2 < l.length by omega]⟩
      have e1:getI l ((3*k:Nat):Int)=some x:=hx
      have e2:getI l ((3*k+1:Nat):Int)=some y:=hy
      have e3:getI l ((3*k+2:Nat):Int)=some z:=hz
      obtain ⟨r,p1,p2⟩:=place_ok x m hm0 (by omega)
      obtain ⟨c,q1,q2⟩:=place_ok y n hn0 (by omega)
      obtain ⟨v,v1,v2⟩:=value_ok z
      simp only [vcD,implies_true,Bool.false_eq_true,reduceCtorEq,hw1,hw2,hw3,e5,e1,e2,e3,p1,q1,v1]
      refine ⟨by rw [List.length_singleton]; omega,by omega,by rw [List.length_append,h1,List.length_singleton],fun e he=>?_⟩
      rw [List.mem_append,List.mem_singleton] at he
      rcases he with he | rfl
      · exact h2 e he
      · exact ⟨⟨⟨by simp only; omega,by simp only; omega⟩,⟨by simp only; omega,by simp only; omega⟩⟩,v2⟩
    · have e5:(((decide (((3*k+2:Nat):Int) < (l.length:Int))) && (decide ((0:Int) < (m:Int)))) && (decide ((0:Int) < (n:Int))))=false:=by
        rw [← Bool.not_eq_true]
        simp only [Bool.and_eq_true,decide_eq_true_eq]
        omega
      simp only [vcD,implies_true,Bool.false_eq_true,reduceCtorEq,hw2,e5]
      exact ⟨by omega,h2⟩
  obtain ⟨E,e1,e2,e3⟩:=hloop
  obtain ⟨s,i,v,p1,p2,p3,p4,p5⟩:=pack_ok (E:=E) hm hn e2 e3
  refine ⟨s,i,v,?_,p2,p3,p4,p5⟩
  unfold sparsemake_Matrix
  rw [bindS e1,bindS p1]
theorem check_zero {x1 x2:Int} {x3 x5 x7:List Int} (hV:Va x1 x2 x3 x5 x7) (hF:Ff x7) (h3:x3.length≤100000) (h5:x5.length≤100000):matrix_Check x1 x2 x3 x5 x7=some 0:=by
  obtain ⟨e,h1,h2⟩:=check_p (x1:=x1) (x2:=x2) (x3:=x3) (x5:=x5) (x7:=x7) h3 h5 (by have:=hV.hd.lv; omega)
  have:Ot x1 x2 x3 x5 x7 0:=.inr (.inr (.inr ⟨rfl,hV.sz,⟨hV.hd,hV.mo,hV.cl⟩,hF⟩))
  rw [h1,h2.uniq this]
end Pw
namespace Px
open Pu Pl Sx Go M Vc
abbrev En3:=Int×Int×Int
def Le (a b:En3):Prop:=a.2.1 < b.2.1∨(a.2.1=b.2.1∧a.1≤b.1)
theorem compare_ok (x y:Int):cmp_Compare_int x y=some (if x < y then -1 else if y < x then 1 else 0):=by
  unfold cmp_Compare_int cmp_isNaN_int
  simp only [decide_true,Bool.not_true,obs,Bool.false_eq_true,if_false]
  split
  · rfl
  · split<;>rfl
theorem or_gen {l:List Int} {x y:Int} (g0:getI l 0=some x) (g1:getI l 1=some y) (hl:l.length=2):cmp_Or_int l=some (if x=0 then y else x):=by
  refine Ret.eq ?_
  unfold cmp_Or_int
  simp only [ret_bind]
  refine ret_call (P:=fun o=>(x=0∧y=0∧o=.inl ())∨((x≠0∨y≠0)∧o=.inr (if x=0 then y else x))) ?_ ?_
  · refine ret_loop 2 (fun k (t:Int)=>t=k∧(0 < k→x=0)∧(1 < k→y=0)) ⟨rfl,by omega,by omega⟩ ?_
    rintro k _ hk ⟨rfl,h1,h2⟩
    unfold cmp_Or_int_l1
    have hk3:k=0∨k=1∨k=2:=by omega
    rcases hk3 with rfl | rfl | rfl
    · have e1:getI l ((0:Nat):Int)=some x:=g0
      have e5:((0:Nat):Int) < (l.length:Int):=by omega
      have hw:wa .i64 ((0:Nat):Int) 1=((0+1:Nat):Int):=wa1 (by omega)
      by_cases hx:x=0
      · rw [if_pos e5]
        simp only [ret_bind,ret_of e1]
        rw [if_pos hx,ret_some,vq_l]
        exact ⟨by omega,hw,fun _=>hx,fun h=>by omega⟩
      · rw [if_pos e5]
        simp only [ret_bind,ret_of e1]
        rw [if_neg hx,ret_some,vq_r]
        exact .inr ⟨.inl hx,by rw [if_neg hx]⟩
    · have e1:getI l ((1:Nat):Int)=some y:=g1
      have e5:((1:Nat):Int) < (l.length:Int):=by omega
      have hw:wa .i64 ((1:Nat):Int) 1=((1+1:Nat):Int):=wa1 (by omega)
      have hx:=h1 (by omega)
      by_cases hy:y=0
      · rw [if_pos e5]
        simp only [ret_bind,ret_of e1]
        rw [if_pos hy,ret_some,vq_l]
        exact ⟨by omega,hw,fun _=>hx,fun _=>hy⟩
      · rw [if_pos e5]
        simp only [ret_bind,ret_of e1]
        rw [if_neg hy,ret_some,vq_r]
        exact .inr ⟨.inr hy,by rw [if_pos hx]⟩
    · have e5:¬ ((2:Nat):Int) < (l.length:Int):=by omega
      rw [if_neg e5,ret_some,vq_r]
      exact .inl ⟨h1 (by omega),h2 (by omega),rfl⟩
  · rintro o (⟨hx,hy,rfl⟩ | ⟨_,rfl⟩)
    · simp only [ret_some]; rw [if_pos hx,hy]
    · simp only [ret_some]
theorem or_ok (x y:Int):cmp_Or_int [x,y]=some (if x=0 then y else x):=or_gen rfl rfl rfl
theorem less_e (a b:En3):∃ c,matrix_sorted_1 a.1 a.2.1 a.2.2 b.1 b.2.1 b.2.2=some c∧(c < 0↔LT a b):=by
  unfold matrix_sorted_1
  rw [bindS (compare_ok _ _),bindS (compare_ok _ _),bindS (or_ok _ _)]
  refine ⟨_,rfl,?_⟩
  unfold Pu.LT
  split<;>split<;>(try split)<;>(try split)<;>omega
end Px
namespace Px
open Pu Pl Sx Go M Vc
theorem gm {α:Type} {l A B:List α} {p:α} {k:Nat} (h:l=A++p::B) (hk:k=A.length):getI l (k:Int)=some p:=by
  subst h hk
  rw [getI_lt (by simp)]
  simp
theorem sm {α:Type} {l A B:List α} {p q:α} {k:Nat} (h:l=A++p::B) (hk:k=A.length):setI l (k:Int) q=some (A++q::B):=by
  subst h hk
  rw [setI_lt (by simp)]
  simp
theorem Le.rfl' (a:En3):Le a a:=by unfold Le; omega
theorem Le.tr {a b c:En3} (h:Le a b) (h':Le b c):Le a c:=by unfold Le at *; omega
theorem Le.of {a b:En3} (h:LT a b):Le a b:=by unfold Pu.LT at h; unfold Le; omega
theorem le_not {a b:En3}:Le a b↔¬ LT b a:=by unfold Pu.LT Le; omega
abbrev Srt (l:List En3):Prop:=l.Pairwise Le
theorem nil_snoc {α:Type} (l:List α):l=[]∨∃ m z,l=m++[z]:=by
  rcases List.eq_nil_or_concat l with h | ⟨m,z,h⟩
  · exact .inl h
  · exact .inr ⟨m,z,by rw [h]; simp⟩
theorem insE {x s y:List En3} {e:En3} (hl:x.length+s.length+y.length≤2000) (hs:Srt s):
    ∃ w,loop (slices_insertionSortCmpFunc_apiEntry_l28 (x.length:Int)) (x++s++e::y,((x.length+s.length:Nat):Int))=some (x++w++y)∧w.Perm (s++[e])∧Srt w:=by
  obtain ⟨o,h1,w,rfl,h2⟩:=whileG (step:=slices_insertionSortCmpFunc_apiEntry_l28 (x.length:Int)) (s:=(x++s++e::y,((x.length+s.length:Nat):Int)))
    (fun t=>∃ s1 s2,t=(x++s1++e::(s2++y),((x.length+s1.length:Nat):Int))∧s=s1++s2∧∀ z,z∈s2→Le e z)
    (fun o=>∃ w,o=x++w++y∧w.Perm (s++[e])∧Srt w) (fun t=>t.2.toNat)
    ⟨s,[],by simp,by simp,fun z hz=>by simp at hz⟩ (by simp only; omega) (by
    rintro t ⟨s1,s2,rfl,rfl,h2⟩
    unfold slices_insertionSortCmpFunc_apiEntry_l28
    simp only
    simp only [List.length_append] at hl
    rcases nil_snoc s1 with rfl | ⟨s1,z,rfl⟩
    · rw [if_neg (by simp),obs,if_neg (by simp)]
      refine .inr ⟨_,rfl,e::s2,by simp,?_,List.pairwise_cons.2 ⟨h2,by simpa using hs⟩⟩
      simpa using (List.perm_append_singleton e s2).symm
    · have e0:ws .i64 ((x.length+(s1++[z]).length:Nat):Int) 1=((x.length+s1.length:Nat):Int):=by
        simp only [List.length_append,List.length_singleton] at hl ⊢
        rw [ws_in (by constructor<;>omega)]; omega
      have g1:getI (x++(s1++[z])++e::(s2++y)) ((x.length+(s1++[z]).length:Nat):Int)=some e:=gm (A:=x++(s1++[z])) (B:=s2++y) (by simp) (by simp)
      have g2:getI (x++(s1++[z])++e::(s2++y)) ((x.length+s1.length:Nat):Int)=some z:=gm (A:=x++s1) (B:=e::(s2++y)) (by simp) (by simp)
      obtain ⟨c,c1,c2⟩:=less_e e z
      rw [if_pos (by simp; omega),e0,bindS g1,bindS g2,bindS c1,obs]
      have hp:=List.pairwise_append.1 hs
      by_cases hlt:c < 0
      · have g3:setI (x++(s1++[z])++e::(s2++y)) ((x.length+(s1++[z]).length:Nat):Int) z=some (x++(s1++[z])++z::(s2++y)):=sm (A:=x++(s1++[z])) (B:=s2++y) (p:=e) (by simp) (by simp)
        have g4:setI (x++(s1++[z])++z::(s2++y)) ((x.length+s1.length:Nat):Int) e=some (x++s1++e::(z::s2++y)):=by
          rw [sm (A:=x++s1) (B:=z::(s2++y)) (p:=z) (by simp) (by simp)]; simp
        rw [if_pos (by simpa using hlt),bindS g2,bindS g1,bindS g3,bindS g4]
        refine .inl ⟨_,rfl,⟨s1,z::s2,rfl,by simp,fun z' hz'=>?_⟩,by simp; omega⟩
        rcases List.mem_cons.1 hz' with rfl | hz'
        · exact Le.of (c2.1 hlt)
        · exact h2 z' hz'
      · rw [if_neg (by simpa using hlt)]
        have hze:Le z e:=le_not.2 fun h=>hlt (c2.2 h)
        refine .inr ⟨_,rfl,s1++[z]++e::s2,by simp,?_,?_⟩
        · simpa using ((List.perm_append_singleton e s2).symm.cons z).append_left s1
        · refine List.pairwise_append.2 ⟨hp.1,List.pairwise_cons.2 ⟨h2,hp.2.1⟩,fun a ha b hb=>?_⟩
          rcases List.mem_cons.1 hb with rfl | hb
          · rcases List.mem_append.1 ha with ha' | ha'
            · exact ((List.pairwise_append.1 hp.1).2.2 a ha' z (by simp)).tr hze
            · simp at ha'; subst ha'; exact hze
          · exact hp.2.2 a ha b hb)
  exact ⟨w,h1,h2⟩
theorem insB {x u y:List En3} (hl:x.length+u.length+y.length≤2000):∃ w,slices_insertionSortCmpFunc_apiEntry (x++u++y) (x.length:Int) ((x.length+u.length:Nat):Int)=some (x++w++y)∧w.Perm u∧Srt w:=by
  unfold slices_insertionSortCmpFunc_apiEntry
  rw [wa1 (by omega)]
  cases u with
  | nil=>
    have h1:loop (slices_insertionSortCmpFunc_apiEntry_l21 ((x.length+([]:List En3).length:Nat):Int) (x.length:Int)) (x++[]++y,((x.length+1:Nat):Int))=some (x++[]++y):=by
      refine Ret.eq ?_
      refine ret_loop 0 (fun k (t:List En3×Int)=>t=(x++[]++y,((x.length+1:Nat):Int))) rfl ?_
      rintro k _ hk rfl
      unfold slices_insertionSortCmpFunc_apiEntry_l21
      simp only
      rw [if_neg (by simp; omega),ret_some,vq_r]
    rw [bindS h1]
    exact ⟨[],rfl,.refl _,List.Pairwise.nil⟩
  | cons a u=>
    obtain ⟨o,h1,w,rfl,h2⟩:=whileG (step:=slices_insertionSortCmpFunc_apiEntry_l21 ((x.length+(a::u).length:Nat):Int) (x.length:Int)) (s:=(x++a::u++y,((x.length+1:Nat):Int)))
      (fun t=>∃ w r,t=(x++w++(r++y),((x.length+w.length:Nat):Int))∧(w++r).Perm (a::u)∧Srt w)
      (fun o=>∃ w,o=x++w++y∧w.Perm (a::u)∧Srt w) (fun t=>(((x.length+(a::u).length:Nat):Int) - t.2).toNat)
      ⟨[a],u,by simp,by simp,by simp⟩ (by simp at hl ⊢; omega) (by
      rintro t ⟨w,r,rfl,h2,h3⟩
      unfold slices_insertionSortCmpFunc_apiEntry_l21
      simp only
      have hlen:=h2.length_eq
      simp only [List.length_append] at hlen
      cases r with
      | nil=>
        simp only [List.length_nil] at hlen
        rw [if_neg (by omega)]
        exact .inr ⟨_,rfl,w,by simp,by simpa using h2,h3⟩
      | cons e r=>
        simp only [List.length_cons] at hlen hl
        obtain ⟨w',k1,k2,k3⟩:=insE (x:=x) (s:=w) (e:=e) (y:=r++y) (by simp; omega) h3
        rw [if_pos (by simp; omega),show x++w++(e::r++y)=x++w++e::(r++y) by simp,bindS k1,wa1 (by omega)]
        have hl':=k2.length_eq
        simp only [List.length_append,List.length_singleton] at hl'
        refine .inl ⟨_,rfl,⟨w',r,by rw [hl']; rfl,?_,k3⟩,by simp; omega⟩
        refine ((k2.append_right r).trans ?_).trans h2
        simp)
    rw [bindS h1]
    exact ⟨w,rfl,h2⟩
theorem swpR {x u z v y:List En3} (huv:u.length=v.length) (hl:x.length+u.length+z.length+v.length+y.length≤2000):
    slices_swapRangeCmpFunc_apiEntry (x++u++z++v++y) (x.length:Int) ((x.length+u.length+z.length:Nat):Int) (u.length:Int)=some (x++v++z++u++y):=by
  unfold slices_swapRangeCmpFunc_apiEntry
  have h1:loop (slices_swapRangeCmpFunc_apiEntry_l1 (u.length:Int) ((x.length+u.length+z.length:Nat):Int) (x.length:Int)) (x++u++z++v++y,0)=some (x++v++z++u++y):=by
    refine Ret.eq ?_
    refine ret_loop u.length (fun k (t:List En3×Int)=>∃ u0 u1 v0 v1,u=u0++u1∧v=v0++v1∧u0.length=k∧v0.length=k∧t=(x++v0++u1++z++u0++v1++y,(k:Int))) ⟨[],u,[],v,rfl,rfl,rfl,rfl,by simp⟩ ?_
    rintro k _ hk ⟨u0,u1,v0,v1,rfl,rfl,h3,h4,rfl⟩
    unfold slices_swapRangeCmpFunc_apiEntry_l1
    simp only
    simp only [List.length_append] at huv hl hk ⊢
    cases u1 with
    | nil=>
      simp only [List.length_nil] at huv hk
      have hv1:v1=[]:=List.length_eq_zero_iff.1 (by omega)
      subst hv1
      rw [if_neg (by simp only [List.length_nil]; omega),ret_some,vq_r]
      simp
    | cons p u1=>
      cases v1 with
      | nil=>simp only [List.length_cons,List.length_nil] at huv; omega
      | cons q v1=>
        simp only [List.length_cons] at huv hl hk ⊢
        have w1:wa .i64 ((x.length+(u0.length+(u1.length+1))+z.length:Nat):Int) (k:Int)=((x++v0++p::u1++z++u0).length:Int):=by
          rw [wa_in (by constructor<;>omega)]; simp; omega
        have w2:wa .i64 (x.length:Int) (k:Int)=((x++v0).length:Int):=by
          rw [wa_in (by constructor<;>omega)]; simp; omega
        have g1:getI (x++v0++p::u1++z++u0++q::v1++y) ((x++v0++p::u1++z++u0).length:Int)=some q:=gm (A:=x++v0++p::u1++z++u0) (B:=v1++y) (by simp) rfl
        have g2:getI (x++v0++p::u1++z++u0++q::v1++y) ((x++v0).length:Int)=some p:=gm (A:=x++v0) (B:=u1++z++u0++q::v1++y) (by simp) rfl
        have g3:setI (x++v0++p::u1++z++u0++q::v1++y) ((x++v0).length:Int) q=some (x++v0++q::(u1++z++u0++q::v1++y)):=sm (p:=p) (A:=x++v0) (B:=u1++z++u0++q::v1++y) (by simp) rfl
        have g4:setI (x++v0++q::(u1++z++u0++q::v1++y)) ((x++v0++p::u1++z++u0).length:Int) p=some (x++v0++q::u1++z++u0++p::(v1++y)):=sm (p:=q) (A:=x++v0++q::u1++z++u0) (B:=v1++y) (by simp) (by simp)
        rw [if_pos (by omega),w1,w2,bindS g1,bindS g2,bindS g3,bindS g4,wa1 (by omega),ret_some,vq_l]
        exact ⟨by omega,u0++[p],u1,v0++[q],v1,by simp,by simp,by simp [h3],by simp [h4],by simp⟩
  rw [bindS h1]
theorem rotE {x u v y:List En3} (hu:u≠[]) (hv:v≠[]) (hl:x.length+u.length+v.length+y.length≤2000):
    slices_rotateCmpFunc_apiEntry (x++u++v++y) (x.length:Int) ((x.length+u.length:Nat):Int) ((x.length+u.length+v.length:Nat):Int)=some (x++v++u++y):=by
  unfold slices_rotateCmpFunc_apiEntry
  have w1:ws .i64 ((x.length+u.length:Nat):Int) (x.length:Int)=(u.length:Int):=by rw [ws_in (by constructor<;>omega)]; omega
  have w2:ws .i64 ((x.length+u.length+v.length:Nat):Int) ((x.length+u.length:Nat):Int)=(v.length:Int):=by rw [ws_in (by constructor<;>omega)]; omega
  have hup:0 < u.length:=List.length_pos_iff.2 hu
  have hvp:0 < v.length:=List.length_pos_iff.2 hv
  obtain ⟨⟨d,i⟩,h1,x',u',v',y',h2,h3,h4,h5,h6⟩:=whileG (step:=slices_rotateCmpFunc_apiEntry_l3 ((x.length+u.length:Nat):Int)) (s:=(x++u++v++y,(u.length:Int),(v.length:Int)))
    (fun t=>∃ x' u' v' y',t=(x'++u'++v'++y',(u'.length:Int),(v'.length:Int))∧0 < u'.length∧0 < v'.length∧x'.length+u'.length=x.length+u.length∧x'++v'++u'++y'=x++v++u++y)
    (fun o=>∃ x' u' v' y',o.1=x'++u'++v'++y'∧o.2=(u'.length:Int)∧u'.length=v'.length∧x'.length+u'.length=x.length+u.length∧x'++v'++u'++y'=x++v++u++y) (fun t=>(t.2.1+t.2.2).toNat)
    ⟨x,u,v,y,rfl,hup,hvp,rfl,rfl⟩ (by simp only; omega) (by
    rintro t ⟨x',u',v',y',rfl,h2,h3,h4,h5⟩
    have h6:=congrArg List.length h5
    simp only [List.length_append] at h6
    unfold slices_rotateCmpFunc_apiEntry_l3 slices_rotateCmpFunc_apiEntry_j4
    simp only
    by_cases he:u'.length=v'.length
    · rw [if_pos (by omega)]
      exact .inr ⟨_,rfl,x',u',v',y',rfl,rfl,he,h4,h5⟩
    · have w3:ws .i64 ((x.length+u.length:Nat):Int) (u'.length:Int)=(x'.length:Int):=by rw [ws_in (by constructor<;>omega)]; omega
      rw [if_neg (by omega),w3]
      by_cases hlt:v'.length < u'.length
      · obtain ⟨u1,u2,rfl,hu1⟩:∃ u1 u2,u'=u1++u2∧u1.length=v'.length:=⟨u'.take v'.length,u'.drop v'.length,by simp,by simp; omega⟩
        simp only [List.length_append] at h2 h4 h6 hlt ⊢
        have w4:((x.length+u.length:Nat):Int)=((x'.length+u1.length+u2.length:Nat):Int):=by omega
        have w5:ws .i64 ((v'.length+u2.length:Nat):Int) (v'.length:Int)=(u2.length:Int):=by rw [ws_in (by constructor<;>omega)]; omega
        have hs:=swpR (x:=x') (u:=u1) (z:=u2) (v:=v') (y:=y') hu1 (by omega)
        rw [if_pos (by omega),w4,← hu1,← List.append_assoc x' u1 u2,bindS hs,hu1,w5]
        refine .inl ⟨_,rfl,⟨x'++v',u2,u1,y',by simp [hu1],by omega,by omega,by simp; omega,?_⟩,by simp only; omega⟩
        rw [← h5]
        simp
      · obtain ⟨v1,v2,rfl,hv2⟩:∃ v1 v2,v'=v1++v2∧v2.length=u'.length:=⟨v'.take (v'.length - u'.length),v'.drop (v'.length - u'.length),by simp,by simp; omega⟩
        simp only [List.length_append] at h3 h6 hlt he ⊢
        have w4:ws .i64 (wa .i64 ((x.length+u.length:Nat):Int) ((v1.length+v2.length:Nat):Int)) (u'.length:Int)=((x'.length+u'.length+v1.length:Nat):Int):=by
          rw [wa_in (by constructor<;>omega),ws_in (by constructor<;>omega)]; omega
        have w5:ws .i64 ((v1.length+v2.length:Nat):Int) (u'.length:Int)=(v1.length:Int):=by rw [ws_in (by constructor<;>omega)]; omega
        have hs:=swpR (x:=x') (u:=u') (z:=v1) (v:=v2) (y:=y') hv2.symm (by omega)
        rw [if_neg (by omega),w4,← List.append_assoc (x'++u') v1 v2,bindS hs,w5]
        refine .inl ⟨_,rfl,⟨x',v2,v1,u'++y',by simp [hv2],by omega,by omega,by omega,?_⟩,by simp only; omega⟩
        rw [← h5]
        simp)
  simp only at h2 h3
  subst h2 h3
  have h7:=congrArg List.length h6
  simp only [List.length_append] at h7
  have w3:ws .i64 ((x.length+u.length:Nat):Int) (u'.length:Int)=(x'.length:Int):=by rw [ws_in (by constructor<;>omega)]; omega
  have hs:=swpR (x:=x') (u:=u') (z:=[]) (v:=v') (y:=y') h4 (by simp; omega)
  simp only [List.append_nil,List.length_nil,Nat.add_zero] at hs
  rw [w1,w2,bindS h1]
  simp only
  rw [w3,← h5,bindS hs,h6]
end Px
namespace Px
open Pu Pl Sx Go M Vc
theorem bsr {step:Int×Int→Option ((Int×Int)⊕Int)} (P:Nat→Prop) {lo hi:Nat} (hlh:lo≤hi) (hb:hi < 1000000)
    (hmono:∀ i j,lo≤i→i≤j→j < hi→P i→P j)
    (hstep:∀ p q:Nat,lo≤p→p < q→q≤hi→(P ((p+q) / 2)∧step ((p:Int),(q:Int))=some (.inl ((p:Int),(((p+q) / 2:Nat):Int))))∨(¬ P ((p+q) / 2)∧step ((p:Int),(q:Int))=some (.inl ((((p+q) / 2+1:Nat):Int),(q:Int)))))
    (hend:∀ p:Nat,step ((p:Int),(p:Int))=some (.inr (p:Int))):
    ∃ r:Nat,loop step ((lo:Int),(hi:Int))=some (r:Int)∧lo≤r∧r≤hi∧(∀ i,lo≤i→i < r→¬ P i)∧∀ i,r≤i→i < hi→P i:=by
  obtain ⟨o,h1,r,rfl,h2⟩:=whileG (step:=step) (s:=((lo:Int),(hi:Int)))
    (fun t=>∃ p q:Nat,t=((p:Int),(q:Int))∧lo≤p∧p≤q∧q≤hi∧(∀ i,lo≤i→i < p→¬ P i)∧∀ i,q≤i→i < hi→P i)
    (fun o=>∃ r:Nat,o=(r:Int)∧lo≤r∧r≤hi∧(∀ i,lo≤i→i < r→¬ P i)∧∀ i,r≤i→i < hi→P i) (fun t=>(t.2 - t.1).toNat)
    ⟨lo,hi,rfl,Nat.le_refl _,hlh,Nat.le_refl _,fun i h h'=>by omega,fun i h h'=>by omega⟩ (by simp only; omega) (by
    rintro t ⟨p,q,rfl,h1,h2,h3,h4,h5⟩
    by_cases hpq:p=q
    · subst hpq
      exact .inr ⟨_,hend p,p,rfl,h1,h3,h4,h5⟩
    · rcases hstep p q h1 (by omega) h3 with ⟨k1,k2⟩ | ⟨k1,k2⟩
      · exact .inl ⟨_,k2,⟨p,(p+q) / 2,rfl,h1,by omega,by omega,h4,fun i hi hi2=>hmono _ i (by omega) hi hi2 k1⟩,by simp only; omega⟩
      · exact .inl ⟨_,k2,⟨(p+q) / 2+1,q,rfl,by omega,by omega,h3,fun i hi hi2 hp=>k1 (hmono i _ hi (by omega) (by omega) hp),h5⟩,by simp only; omega⟩)
  exact ⟨r,h1,h2⟩
theorem srt_get {l:List En3} (h:Srt l) {i j:Nat} {a b:En3} (ha:l[i]?=some a) (hb:l[j]?=some b) (hij:i≤j):Le a b:=by
  obtain ⟨h1,rfl⟩:=List.getElem?_eq_some_iff.1 ha
  obtain ⟨h2,rfl⟩:=List.getElem?_eq_some_iff.1 hb
  by_cases he:i=j
  · subst he; exact Le.rfl' _
  · exact List.pairwise_iff_getElem.1 h i j h1 h2 (by omega)
theorem gseg {A v y:List En3} {i h:Nat} {z:En3} (hz:v[i]?=some z) (hh:h=A.length+i):getI (A++v++y) (h:Int)=some z:=by
  subst hh
  have hi:=(List.getElem?_eq_some_iff.1 hz).1
  rw [getI_lt (by simp; omega),← List.getElem?_eq_getElem,List.append_assoc,List.getElem?_append_right (by omega),List.getElem?_append_left (by omega),show A.length+i - A.length=i by omega]
  exact hz
theorem at_lt {v:List En3} {i:Nat} (h:i < v.length):∃ z,v[i]?=some z:=⟨v[i],List.getElem?_eq_getElem h⟩
theorem take_mem {l:List En3} {k:Nat} {z:En3} (h:z∈l.take k):∃ i,i < k∧l[i]?=some z:=by
  obtain ⟨i,hi⟩:=List.mem_iff_getElem?.1 h
  rw [List.getElem?_take] at hi
  by_cases hk:i < k
  · rw [if_pos hk] at hi; exact ⟨i,hk,hi⟩
  · rw [if_neg hk] at hi; cases hi
theorem drop_mem {l:List En3} {k:Nat} {z:En3} (h:z∈l.drop k):∃ i,k≤i∧l[i]?=some z:=by
  obtain ⟨i,hi⟩:=List.mem_iff_getElem?.1 h
  rw [List.getElem?_drop] at hi
  exact ⟨k+i,by omega,hi⟩
theorem one_left {x v y:List En3} {e:En3} (hv:Srt v) (hl:x.length+v.length+y.length≤2000) (hv0:v≠[]):
    ∃ r d,loop (slices_symMergeCmpFunc_apiEntry_l3 (x++[e]++v++y) (x.length:Int)) (((x.length+1:Nat):Int),((x.length+1+v.length:Nat):Int))=some r∧loop (slices_symMergeCmpFunc_apiEntry_l4 r) (x++[e]++v++y,(x.length:Int))=some (x++d++y)∧d.Perm ([e]++v)∧Srt d:=by
  obtain ⟨r,h1,h2,h3,h4,h5⟩:=bsr (step:=slices_symMergeCmpFunc_apiEntry_l3 (x++[e]++v++y) (x.length:Int)) (fun h=>∀ z,v[h - (x.length+1)]?=some z→¬ LT z e) (lo:=x.length+1) (hi:=x.length+1+v.length) (by omega) (by omega)
    (fun i j hi hij hj hp z hz hlt=>by
      obtain ⟨z',hz'⟩:=at_lt (v:=v) (i:=i - (x.length+1)) (by omega)
      have:=srt_get hv hz' hz (by omega)
      have h6:=hp z' hz'
      unfold Pu.LT at *; unfold Le at this; omega)
    (fun p q hp hpq hq=>by
      unfold slices_symMergeCmpFunc_apiEntry_l3 slices_symMergeCmpFunc_apiEntry_j5
      simp only
      obtain ⟨z,hz⟩:=at_lt (v:=v) (i:=(p+q) / 2 - (x.length+1)) (by omega)
      obtain ⟨c,c1,c2⟩:=less_e z e
      have g1:getI (x++[e]++v++y) (((p+q) / 2:Nat):Int)=some z:=gseg hz (by simp; omega)
      have g2:getI (x++[e]++v++y) (x.length:Int)=some e:=gm (A:=x) (B:=v++y) (by simp) rfl
      rw [if_pos (by omega),mid_ok p q hpq (by omega),bindS g1,bindS g2,bindS c1,wa1 (by omega)]
      by_cases hlt:c < 0
      · rw [if_pos hlt]
        exact .inr ⟨fun h=>h z hz (c2.1 hlt),rfl⟩
      · rw [if_neg hlt]
        refine .inl ⟨fun z' hz'=>?_,rfl⟩
        rw [hz] at hz'
        obtain rfl:=Option.some.inj hz'
        exact fun h=>hlt (c2.2 h))
    (fun p=>by unfold slices_symMergeCmpFunc_apiEntry_l3; simp only; rw [if_neg (by omega)])
  have hsplit:v=v.take (r - (x.length+1))++v.drop (r - (x.length+1)):=(List.take_append_drop _ _).symm
  have hlen:(v.take (r - (x.length+1))).length=r - (x.length+1):=by rw [List.length_take]; omega
  have a1:∀ z,z∈v.take (r - (x.length+1))→LT z e:=fun z hz=>by
    obtain ⟨i,hi,hiz⟩:=take_mem hz
    have:=h4 (x.length+1+i) (by omega) (by omega)
    refine Classical.byContradiction fun hn=>this fun z' hz'=>?_
    rw [show x.length+1+i - (x.length+1)=i by omega,hiz] at hz'
    obtain rfl:=Option.some.inj hz'
    exact hn
  have a2:∀ z,z∈v.drop (r - (x.length+1))→Le e z:=fun z hz=>by
    obtain ⟨i,hi,hiz⟩:=drop_mem hz
    have hil:=(List.getElem?_eq_some_iff.1 hiz).1
    refine le_not.2 (h5 (x.length+1+i) (by omega) (by omega) z ?_)
    rw [show x.length+1+i - (x.length+1)=i by omega]
    exact hiz
  generalize v.take (r - (x.length+1))=v1 at hsplit hlen a1
  generalize v.drop (r - (x.length+1))=v2 at hsplit a2
  subst hsplit
  have hp:=List.pairwise_append.1 hv
  simp only [List.length_append] at hl h3
  have k1:loop (slices_symMergeCmpFunc_apiEntry_l4 (r:Int)) (x++[e]++(v1++v2)++y,(x.length:Int))=some (x++(v1++e::v2)++y):=by
    refine Ret.eq ?_
    refine ret_loop v1.length (fun k (t:List En3×Int)=>∃ va vb,v1=va++vb∧va.length=k∧t=(x++va++e::(vb++v2++y),((x.length+k:Nat):Int))) ⟨[],v1,rfl,rfl,by simp⟩ ?_
    rintro k _ hk ⟨va,vb,rfl,h6,rfl⟩
    unfold slices_symMergeCmpFunc_apiEntry_l4
    simp only
    simp only [List.length_append] at hlen hk hl
    have e0:ws .i64 (r:Int) 1=((r - 1:Nat):Int):=by rw [ws_in (by constructor<;>omega)]; omega
    rw [e0]
    cases vb with
    | nil=>
      simp only [List.length_nil] at hlen hk
      rw [if_neg (by omega),ret_some,vq_r]
      simp
    | cons z vb=>
      simp only [List.length_cons] at hlen hk hl
      have g1:getI (x++va++e::(z::vb++v2++y)) ((x.length+k+1:Nat):Int)=some z:=gm (A:=x++va++[e]) (B:=vb++v2++y) (by simp) (by simp; omega)
      have g2:getI (x++va++e::(z::vb++v2++y)) ((x.length+k:Nat):Int)=some e:=gm (A:=x++va) (B:=z::vb++v2++y) rfl (by simp; omega)
      have g3:setI (x++va++e::(z::vb++v2++y)) ((x.length+k:Nat):Int) z=some (x++va++z::(z::vb++v2++y)):=sm (p:=e) (A:=x++va) (B:=z::vb++v2++y) rfl (by simp; omega)
      have g4:setI (x++va++z::(z::vb++v2++y)) ((x.length+k+1:Nat):Int) e=some (x++va++[z]++e::(vb++v2++y)):=sm (p:=z) (A:=x++va++[z]) (B:=vb++v2++y) (by simp) (by simp; omega)
      rw [if_pos (by omega),wa1 (by omega),bindS g1,bindS g2,bindS g3,bindS g4,ret_some,vq_l]
      exact ⟨by simp only [List.length_append,List.length_cons]; omega,va++[z],vb,by simp,by simp [h6],by simp [Nat.add_assoc]⟩
  refine ⟨(r:Int),v1++e::v2,h1,k1,?_,List.pairwise_append.2 ⟨hp.1,List.pairwise_cons.2 ⟨a2,hp.2.1⟩,fun a ha b hb=>?_⟩⟩
  · simp
  · rcases List.mem_cons.1 hb with rfl | hb
    · exact Le.of (a1 a ha)
    · exact hp.2.2 a ha b hb
theorem one_right {x u y:List En3} {e:En3} (hu:Srt u) (hl:x.length+u.length+y.length≤2000) (hu0:u≠[]):
    ∃ r d,loop (slices_symMergeCmpFunc_apiEntry_l8 (x++u++[e]++y) ((x.length+u.length:Nat):Int)) ((x.length:Int),((x.length+u.length:Nat):Int))=some r∧loop (slices_symMergeCmpFunc_apiEntry_l9 r) (x++u++[e]++y,((x.length+u.length:Nat):Int))=some (x++d++y)∧d.Perm (u++[e])∧Srt d:=by
  obtain ⟨r,h1,h2,h3,h4,h5⟩:=bsr (step:=slices_symMergeCmpFunc_apiEntry_l8 (x++u++[e]++y) ((x.length+u.length:Nat):Int)) (fun h=>∀ z,u[h - x.length]?=some z→LT e z) (lo:=x.length) (hi:=x.length+u.length) (by omega) (by omega)
    (fun i j hi hij hj hp z hz=>by
      obtain ⟨z',hz'⟩:=at_lt (v:=u) (i:=i - x.length) (by omega)
      have:=srt_get hu hz' hz (by omega)
      have h6:=hp z' hz'
      unfold Pu.LT at *; unfold Le at this; omega)
    (fun p q hp hpq hq=>by
      unfold slices_symMergeCmpFunc_apiEntry_l8 slices_symMergeCmpFunc_apiEntry_j10
      simp only
      obtain ⟨z,hz⟩:=at_lt (v:=u) (i:=(p+q) / 2 - x.length) (by omega)
      obtain ⟨c,c1,c2⟩:=less_e e z
      have g1:getI (x++u++[e]++y) (((p+q) / 2:Nat):Int)=some z:=by
        rw [List.append_assoc (x++u)]
        exact gseg hz (by omega)
      have g2:getI (x++u++[e]++y) ((x.length+u.length:Nat):Int)=some e:=gm (A:=x++u) (B:=y) (by simp) (by simp)
      rw [if_pos (by omega),mid_ok p q hpq (by omega),bindS g2,bindS g1,bindS c1,wa1 (by omega)]
      by_cases hlt:c < 0
      · rw [if_pos hlt]
        refine .inl ⟨fun z' hz'=>?_,rfl⟩
        rw [hz] at hz'
        obtain rfl:=Option.some.inj hz'
        exact c2.1 hlt
      · rw [if_neg hlt]
        exact .inr ⟨fun h=>hlt (c2.2 (h z hz)),rfl⟩)
    (fun p=>by unfold slices_symMergeCmpFunc_apiEntry_l8; simp only; rw [if_neg (by omega)])
  have hsplit:u=u.take (r - x.length)++u.drop (r - x.length):=(List.take_append_drop _ _).symm
  have hlen:(u.take (r - x.length)).length=r - x.length:=by rw [List.length_take]; omega
  have a1:∀ z,z∈u.take (r - x.length)→Le z e:=fun z hz=>by
    obtain ⟨i,hi,hiz⟩:=take_mem hz
    have:=h4 (x.length+i) (by omega) (by omega)
    refine le_not.2 fun hn=>this fun z' hz'=>?_
    rw [show x.length+i - x.length=i by omega,hiz] at hz'
    obtain rfl:=Option.some.inj hz'
    exact hn
  have a2:∀ z,z∈u.drop (r - x.length)→LT e z:=fun z hz=>by
    obtain ⟨i,hi,hiz⟩:=drop_mem hz
    have hil:=(List.getElem?_eq_some_iff.1 hiz).1
    refine h5 (x.length+i) (by omega) (by omega) z ?_
    rw [show x.length+i - x.length=i by omega]
    exact hiz
  generalize u.take (r - x.length)=u1 at hsplit hlen a1
  generalize u.drop (r - x.length)=u2 at hsplit a2
  subst hsplit
  have hp:=List.pairwise_append.1 hu
  simp only [List.length_append] at hl h3 h1 ⊢
  have k1:loop (slices_symMergeCmpFunc_apiEntry_l9 (r:Int)) (x++(u1++u2)++[e]++y,((x.length+(u1.length+u2.length):Nat):Int))=some (x++(u1++e::u2)++y):=by
    refine Ret.eq ?_
    refine ret_loop u2.length (fun k (t:List En3×Int)=>∃ ua ub,u2=ua++ub∧ub.length=k∧t=(x++u1++ua++e::(ub++y),((x.length+u1.length+ua.length:Nat):Int))) ⟨u2,[],by simp,rfl,by simp [Nat.add_assoc]⟩ ?_
    rintro k _ hk ⟨ua,ub,rfl,h6,rfl⟩
    unfold slices_symMergeCmpFunc_apiEntry_l9
    simp only
    simp only [List.length_append] at hk hl
    rcases nil_snoc ua with rfl | ⟨ua,z,rfl⟩
    · rw [if_neg (by simp only [List.length_nil]; omega),ret_some,vq_r]
      simp
    · simp only [List.length_append,List.length_singleton] at hk hl
      have e0:ws .i64 ((x.length+u1.length+(ua++[z]).length:Nat):Int) 1=((x.length+u1.length+ua.length:Nat):Int):=by
        simp only [List.length_append,List.length_singleton]
        rw [ws_in (by constructor<;>omega)]; omega
      have g1:getI (x++u1++(ua++[z])++e::(ub++y)) ((x.length+u1.length+ua.length:Nat):Int)=some z:=gm (A:=x++u1++ua) (B:=e::(ub++y)) (by simp) (by simp [Nat.add_assoc])
      have g2:getI (x++u1++(ua++[z])++e::(ub++y)) ((x.length+u1.length+(ua++[z]).length:Nat):Int)=some e:=gm (A:=x++u1++(ua++[z])) (B:=ub++y) rfl (by simp [Nat.add_assoc])
      have g3:setI (x++u1++(ua++[z])++e::(ub++y)) ((x.length+u1.length+(ua++[z]).length:Nat):Int) z=some (x++u1++(ua++[z])++z::(ub++y)):=sm (p:=e) (A:=x++u1++(ua++[z])) (B:=ub++y) rfl (by simp [Nat.add_assoc])
      have g4:setI (x++u1++(ua++[z])++z::(ub++y)) ((x.length+u1.length+ua.length:Nat):Int) e=some (x++u1++ua++e::(z::ub++y)):=by
        rw [sm (p:=z) (A:=x++u1++ua) (B:=z::(ub++y)) (by simp) (by simp [Nat.add_assoc])]
        simp
      rw [if_pos (by simp only [List.length_append,List.length_singleton]; omega),e0,bindS g1,bindS g2,bindS g3,bindS g4,ret_some,vq_l]
      exact ⟨by simp only [List.length_append,List.length_singleton]; omega,ua,z::ub,by simp,by simp [h6],rfl⟩
  refine ⟨(r:Int),u1++e::u2,h1,k1,?_,List.pairwise_append.2 ⟨hp.1,List.pairwise_cons.2 ⟨fun z hz=>Le.of (a2 z hz),hp.2.1⟩,fun a ha b hb=>?_⟩⟩
  · simpa using ((List.perm_append_singleton e u2).symm).append_left u1
  · rcases List.mem_cons.1 hb with rfl | hb
    · exact a1 a ha
    · exact hp.2.2 a ha b hb
def RecOk (rec:List En3→Int→Int→Int→Option (List En3)) (N:Nat):Prop:=∀ x u v y:List En3,u.length+v.length < N→u≠[]→v≠[]→Srt u→Srt v→x.length+u.length+v.length+y.length≤2000→
  ∃ w,rec (x++u++v++y) (x.length:Int) ((x.length+u.length:Nat):Int) ((x.length+u.length+v.length:Nat):Int)=some (x++w++y)∧w.Perm (u++v)∧Srt w
theorem join_srt {u v:List En3} (hu:Srt u) (hv:Srt v) (h:∀ a,a∈u→∀ b,b∈v→Le a b):Srt (u++v):=List.pairwise_append.2 ⟨hu,hv,h⟩
theorem j16_ok {rec:List En3→Int→Int→Int→Option (List En3)} {N:Nat} (hrec:RecOk rec N) {x u1 v1 u2 v2 y:List En3} {r b m:Nat} (hr:r=x.length+u1.length) (hb:b=x.length+u1.length+v1.length+u2.length+v2.length) (hm:m=x.length+u1.length+u2.length)
    (hmid:(x.length+b) / 2=x.length+u1.length+v1.length) (hab:x.length < b) (h1:u1.length+v1.length < N) (h2:u2.length+v2.length < N) (s1:Srt u1) (s2:Srt v1) (s3:Srt u2) (s4:Srt v2) (hl:b+y.length≤2000)
    (hc:∀ a,a∈u1++v1→∀ b,b∈u2++v2→Le a b):
    ∃ w,slices_symMergeCmpFunc_apiEntry_j16 rec (x.length:Int) (r:Int) (b:Int) (m:Int) (x++u1++v1++u2++v2++y)=some (x++w++y)∧w.Perm (u1++v1++(u2++v2))∧Srt w:=by
  have q1:∃ w1,(if ((decide ((x.length:Int) < (r:Int))) && (decide ((r:Int) < (((x.length+b) / 2:Nat):Int))))=true then (rec (x++u1++v1++u2++v2++y) (x.length:Int) (r:Int) (((x.length+b) / 2:Nat):Int)) else some (x++u1++v1++u2++v2++y))=some (x++w1++u2++v2++y)∧w1.Perm (u1++v1)∧Srt w1:=by
    by_cases hu:u1=[]
    · subst hu
      simp only [List.length_nil] at hr
      rw [if_neg (by simp; omega)]
      exact ⟨v1,by simp,by simp,s2⟩
    · have hup:=List.length_pos_iff.2 hu
      by_cases hv:v1=[]
      · subst hv
        simp only [List.length_nil] at hmid
        rw [if_neg (by simp; omega)]
        exact ⟨u1,by simp,by simp,s1⟩
      · have hvp:=List.length_pos_iff.2 hv
        obtain ⟨w,w1,w2,w3⟩:=hrec x u1 v1 (u2++v2++y) h1 hu hv s1 s2 (by simp; omega)
        refine ⟨w,?_,w2,w3⟩
        rw [if_pos (by simp; omega),hr,hmid]
        rw [show x++u1++v1++u2++v2++y=x++u1++v1++(u2++v2++y) by simp,w1]
        simp
  obtain ⟨w1,p1,p2,p3⟩:=q1
  have hw1:=p2.length_eq
  simp only [List.length_append] at hw1
  have q2:∃ w2,slices_symMergeCmpFunc_apiEntry_j18 rec (x.length:Int) (b:Int) (m:Int) (r:Int) (x++w1++u2++v2++y)=some (x++w1++w2++y)∧w2.Perm (u2++v2)∧Srt w2:=by
    unfold slices_symMergeCmpFunc_apiEntry_j18 slices_symMergeCmpFunc_apiEntry_j20
    have e1:ws .i64 (wa .i64 (((x.length+b) / 2:Nat):Int) (m:Int)) (r:Int)=(((x.length+b) / 2+u2.length:Nat):Int):=by
      rw [wa_in (by constructor<;>omega),ws_in (by constructor<;>omega)]; omega
    rw [mid_ok _ _ hab (by omega),e1]
    by_cases hu:u2=[]
    · subst hu
      rw [if_neg (by simp)]
      exact ⟨v2,by simp,by simp,s4⟩
    · have hup:=List.length_pos_iff.2 hu
      by_cases hv:v2=[]
      · subst hv
        simp only [List.length_nil] at hb
        rw [if_neg (by simp; omega)]
        exact ⟨u2,by simp,by simp,s3⟩
      · have hvp:=List.length_pos_iff.2 hv
        obtain ⟨w,k1,k2,k3⟩:=hrec (x++w1) u2 v2 y h2 hu hv s3 s4 (by simp; omega)
        refine ⟨w,?_,k2,k3⟩
        have e2:(((x.length+b) / 2:Nat):Int)=(((x++w1).length:Nat):Int):=by simp; omega
        have e3:(((x.length+b) / 2+u2.length:Nat):Int)=(((x++w1).length+u2.length:Nat):Int):=by simp; omega
        have e4:(b:Int)=(((x++w1).length+u2.length+v2.length:Nat):Int):=by simp; omega
        rw [if_pos (by simp; omega),e3,e2,e4,bindS k1]
  obtain ⟨w2,r1,r2,r3⟩:=q2
  refine ⟨w1++w2,?_,p2.append r2,join_srt p3 r3 fun a ha b hb=>hc a (p2.mem_iff.1 ha) b (r2.mem_iff.1 hb)⟩
  unfold slices_symMergeCmpFunc_apiEntry_j16
  rw [mid_ok _ _ hab (by omega)]
  by_cases hcond:((decide ((x.length:Int) < (r:Int))) && (decide ((r:Int) < (((x.length+b) / 2:Nat):Int))))=true
  · rw [if_pos hcond] at p1 ⊢
    rw [bindS p1,r1]
    simp
  · rw [if_neg hcond] at p1 ⊢
    rw [sInj p1,r1]
    simp
theorem j11_ok {rec:List En3→Int→Int→Int→Option (List En3)} {N:Nat} (hrec:RecOk rec N) {x u v y:List En3} {lo hi:Nat} (hu:Srt u) (hv:Srt v) (hu0:1 < u.length) (hv0:1 < v.length) (hN:u.length+v.length < N+1) (hl:x.length+u.length+v.length+y.length≤2000)
    (hlo:(x.length+(x.length+u.length+v.length)) / 2 < x.length+u.length∧lo+(x.length+u.length+v.length)=(x.length+(x.length+u.length+v.length)) / 2+(x.length+u.length)∧hi=(x.length+(x.length+u.length+v.length)) / 2∨x.length+u.length≤(x.length+(x.length+u.length+v.length)) / 2∧lo=x.length∧hi=x.length+u.length):
    ∃ w,slices_symMergeCmpFunc_apiEntry_j11 rec (x++u++v++y) (x.length:Int) ((x.length+u.length+v.length:Nat):Int) ((x.length+u.length:Nat):Int) (lo:Int) (hi:Int)=some (x++w++y)∧w.Perm (u++v)∧Srt w:=by
  generalize hmid:(x.length+(x.length+u.length+v.length)) / 2=mid at hlo
  obtain ⟨r,h1,h2,h3,h4,h5⟩:=bsr (step:=slices_symMergeCmpFunc_apiEntry_l14 (x++u++v++y) (x.length:Int) ((x.length+u.length+v.length:Nat):Int) ((x.length+u.length:Nat):Int)) (fun c=>∃ a b,u[c - x.length]?=some a∧v[mid - 1 - c]?=some b∧LT b a) (lo:=lo) (hi:=hi) (by omega) (by omega)
    (fun i j hi hij hj=>by
      rintro ⟨a,b,ha,hb,hlt⟩
      obtain ⟨a',ha'⟩:=at_lt (v:=u) (i:=j - x.length) (by omega)
      obtain ⟨b',hb'⟩:=at_lt (v:=v) (i:=mid - 1 - j) (by omega)
      have q1:=srt_get hu ha ha' (by omega)
      have q2:=srt_get hv hb' hb (by omega)
      exact ⟨a',b',ha',hb',by unfold Pu.LT at *; unfold Le at q1 q2; omega⟩)
    (fun p q hp hpq hq=>by
      unfold slices_symMergeCmpFunc_apiEntry_l14 slices_symMergeCmpFunc_apiEntry_j21
      simp only
      obtain ⟨a,ha⟩:=at_lt (v:=u) (i:=(p+q) / 2 - x.length) (by omega)
      obtain ⟨b,hb⟩:=at_lt (v:=v) (i:=mid - 1 - (p+q) / 2) (by omega)
      obtain ⟨c,c1,c2⟩:=less_e b a
      have e1:ws .i64 (ws .i64 (wa .i64 (mid:Int) ((x.length+u.length:Nat):Int)) 1) (((p+q) / 2:Nat):Int)=((mid+(x.length+u.length) - 1 - (p+q) / 2:Nat):Int):=by
        rw [wa_in (by constructor<;>omega),ws_in (x:=_+_) (by constructor<;>omega),ws_in (by constructor<;>omega)]; omega
      have g1:getI (x++u++v++y) ((mid+(x.length+u.length) - 1 - (p+q) / 2:Nat):Int)=some b:=gseg hb (by simp; omega)
      have g2:getI (x++u++v++y) (((p+q) / 2:Nat):Int)=some a:=by
        rw [List.append_assoc (x++u)]
        exact gseg ha (by omega)
      rw [if_pos (by omega),mid_ok p q hpq (by omega),mid_ok _ _ (by omega) (by omega),hmid,e1,bindS g1,bindS g2,bindS c1,wa1 (by omega)]
      by_cases hlt:c < 0
      · rw [if_pos hlt]
        exact .inl ⟨⟨a,b,ha,hb,c2.1 hlt⟩,rfl⟩
      · rw [if_neg hlt]
        refine .inr ⟨?_,rfl⟩
        rintro ⟨a',b',ha',hb',h⟩
        rw [ha] at ha'
        rw [hb] at hb'
        obtain rfl:=Option.some.inj ha'
        obtain rfl:=Option.some.inj hb'
        exact hlt (c2.2 h))
    (fun p=>by unfold slices_symMergeCmpFunc_apiEntry_l14; simp only; rw [if_neg (by omega)])
  have hsu:u=u.take (r - x.length)++u.drop (r - x.length):=(List.take_append_drop _ _).symm
  have hsv:v=v.take (mid - r)++v.drop (mid - r):=(List.take_append_drop _ _).symm
  have hlu:(u.take (r - x.length)).length=r - x.length:=by rw [List.length_take]; omega
  have hlv:(v.take (mid - r)).length=mid - r:=by rw [List.length_take]; omega
  have a1:∀ z,z∈u.take (r - x.length)→∀ z',z'∈v.drop (mid - r)→Le z z':=fun z hz z' hz'=>by
    obtain ⟨i,hi,hiz⟩:=take_mem hz
    obtain ⟨j,hj,hjz⟩:=drop_mem hz'
    have hjl:=(List.getElem?_eq_some_iff.1 hjz).1
    obtain ⟨a,ha⟩:=at_lt (v:=u) (i:=r - 1 - x.length) (by omega)
    obtain ⟨b,hb⟩:=at_lt (v:=v) (i:=mid - 1 - (r - 1)) (by omega)
    have q1:=srt_get hu hiz ha (by omega)
    have q2:=srt_get hv hb hjz (by omega)
    have q3:Le a b:=le_not.2 fun h=>h4 (r - 1) (by omega) (by omega) ⟨a,b,ha,hb,h⟩
    exact (q1.tr q3).tr q2
  have a2:∀ z,z∈v.take (mid - r)→∀ z',z'∈u.drop (r - x.length)→Le z z':=fun z hz z' hz'=>by
    obtain ⟨i,hi,hiz⟩:=take_mem hz
    obtain ⟨j,hj,hjz⟩:=drop_mem hz'
    have hjl:=(List.getElem?_eq_some_iff.1 hjz).1
    obtain ⟨a,b,ha,hb,hlt⟩:=h5 r (by omega) (by omega)
    have q1:=srt_get hv hiz hb (by omega)
    have q2:=srt_get hu ha hjz (by omega)
    exact (q1.tr (Le.of hlt)).tr q2
  have hdu:(u.drop (r - x.length)).length=u.length - (r - x.length):=List.length_drop
  have hdv:(v.drop (mid - r)).length=v.length - (mid - r):=List.length_drop
  generalize u.take (r - x.length)=u1 at hsu hlu a1
  generalize u.drop (r - x.length)=u2 at hsu a2 hdu
  generalize v.take (mid - r)=v1 at hsv hlv a2
  generalize v.drop (mid - r)=v2 at hsv a1 hdv
  subst hsu hsv
  simp only [List.length_append] at*
  have pu:=List.pairwise_append.1 hu
  have pv:=List.pairwise_append.1 hv
  obtain ⟨w,w1,w2,w3⟩:=j16_ok hrec (x:=x) (u1:=u1) (v1:=v1) (u2:=u2) (v2:=v2) (y:=y) (r:=r) (b:=x.length+(u1.length+u2.length)+(v1.length+v2.length)) (m:=x.length+(u1.length+u2.length)) (by omega) (by omega) (by omega) (by omega) (by omega) (by omega) (by omega) pu.1 pv.1 pu.2.1 pv.2.1 (by omega) (fun a ha b hb=>by
    rcases List.mem_append.1 ha with ha | ha
    · rcases List.mem_append.1 hb with hb | hb
      · exact pu.2.2 a ha b hb
      · exact a1 a ha b hb
    · rcases List.mem_append.1 hb with hb | hb
      · exact a2 a ha b hb
      · exact pv.2.2 a ha b hb)
  refine ⟨w,?_,w2.trans ?_,w3⟩
  · unfold slices_symMergeCmpFunc_apiEntry_j11
    have e1:ws .i64 (wa .i64 (mid:Int) ((x.length+(u1.length+u2.length):Nat):Int)) (r:Int)=((mid+(x.length+(u1.length+u2.length)) - r:Nat):Int):=by
      rw [wa_in (by constructor<;>omega),ws_in (by constructor<;>omega)]; omega
    rw [bindS h1,mid_ok _ _ (by omega) (by omega),hmid,e1]
    by_cases hrot:u2≠[]∧v1≠[]
    · have hup:=List.length_pos_iff.2 hrot.1
      have hvp:=List.length_pos_iff.2 hrot.2
      have hro:=rotE (x:=x++u1) (u:=u2) (v:=v1) (y:=v2++y) hrot.1 hrot.2 (by simp; omega)
      have e2:((x++u1).length:Int)=(r:Int):=by simp; omega
      have e3:(((x++u1).length+u2.length:Nat):Int)=((x.length+(u1.length+u2.length):Nat):Int):=by simp; omega
      have e4:(((x++u1).length+u2.length+v1.length:Nat):Int)=((mid+(x.length+(u1.length+u2.length)) - r:Nat):Int):=by simp; omega
      rw [e2,e3,e4] at hro
      rw [if_pos (by simp; omega),show x++(u1++u2)++(v1++v2)++y=x++u1++u2++v1++(v2++y) by simp,bindS hro,← List.append_assoc (x++u1++v1++u2) v2 y,w1]
    · have hsame:x++(u1++u2)++(v1++v2)++y=x++u1++v1++u2++v2++y:=by
        by_cases h6:u2=[]
        · subst h6; simp
        · have h7:v1=[]:=Classical.byContradiction fun h7=>hrot ⟨h6,h7⟩
          subst h7; simp
      have hno:u2.length=0∨v1.length=0:=by
        by_cases h6:u2=[]
        · subst h6; exact .inl rfl
        · have h7:v1=[]:=Classical.byContradiction fun h7=>hrot ⟨h6,h7⟩
          subst h7; exact .inr rfl
      rw [if_neg (by simp only [Bool.and_eq_true,decide_eq_true_eq]; omega),hsame,w1]
  · have h6:(u1++v1++(u2++v2)).Perm (u1++(u2++v1++v2)):=by
      rw [List.append_assoc]
      refine List.Perm.append_left u1 ?_
      rw [← List.append_assoc]
      exact (List.perm_append_comm).append_right v2
    refine h6.trans ?_
    simp
theorem sym_succ (k:Nat):slices_symMergeCmpFunc_apiEntry (k+1)=slices_symMergeCmpFunc_apiEntry_body (slices_symMergeCmpFunc_apiEntry k):=by simp only [slices_symMergeCmpFunc_apiEntry]
theorem sym_ok:∀ N:Nat,RecOk (slices_symMergeCmpFunc_apiEntry N) N:=by
  intro N
  induction N with
  | zero=>intro x u v y h; omega
  | succ N ih=>
    intro x u v y hN hu0 hv0 hu hv hl
    have hup:=List.length_pos_iff.2 hu0
    have hvp:=List.length_pos_iff.2 hv0
    rw [sym_succ]
    unfold slices_symMergeCmpFunc_apiEntry_body
    have e1:ws .i64 ((x.length+u.length:Nat):Int) (x.length:Int)=(u.length:Int):=by rw [ws_in (by constructor<;>omega)]; omega
    have e2:ws .i64 ((x.length+u.length+v.length:Nat):Int) ((x.length+u.length:Nat):Int)=(v.length:Int):=by rw [ws_in (by constructor<;>omega)]; omega
    rw [e1,e2]
    by_cases h1:u.length=1
    · obtain ⟨e,rfl⟩:=List.length_eq_one_iff.1 h1
      obtain ⟨r,d,k1,k2,k3,k4⟩:=one_left (x:=x) (v:=v) (y:=y) (e:=e) hv (by omega) hv0
      rw [if_pos (by simp)]
      simp only [List.length_singleton]
      rw [bindS k1,bindS k2]
      exact ⟨d,rfl,k3,k4⟩
    · rw [if_neg (by omega)]
      by_cases h2:v.length=1
      · obtain ⟨e,rfl⟩:=List.length_eq_one_iff.1 h2
        obtain ⟨r,d,k1,k2,k3,k4⟩:=one_right (x:=x) (u:=u) (y:=y) (e:=e) hu (by omega) hu0
        rw [if_pos (by simp),bindS k1,bindS k2]
        exact ⟨d,rfl,k3,k4⟩
      · rw [if_neg (by omega),mid_ok _ _ (by omega) (by omega)]
        by_cases h3:(x.length+(x.length+u.length+v.length)) / 2 < x.length+u.length
        · have e3:ws .i64 (wa .i64 (((x.length+(x.length+u.length+v.length)) / 2:Nat):Int) ((x.length+u.length:Nat):Int)) ((x.length+u.length+v.length:Nat):Int)=(((x.length+(x.length+u.length+v.length)) / 2+(x.length+u.length) - (x.length+u.length+v.length):Nat):Int):=by
            rw [wa_in (by constructor<;>omega),ws_in (by constructor<;>omega)]; omega
          rw [if_pos (by omega),e3]
          exact j11_ok ih hu hv (by omega) (by omega) hN hl (.inl ⟨h3,by omega,rfl⟩)
        · rw [if_neg (by omega)]
          exact j11_ok ih hu hv (by omega) (by omega) hN hl (.inr ⟨by omega,rfl,rfl⟩)
inductive Blk (s:Nat):List En3→Prop
  | small {l:List En3} (h:Srt l) (hl:l.length≤s):Blk s l
  | cons {u r:List En3} (h:Srt u) (hl:u.length=s) (hr:Blk s r):Blk s (u++r)
theorem Blk.sorted {s:Nat} {l:List En3} (h:Blk s l) (hl:l.length≤s) (hs:0 < s):Srt l:=by
  cases h with
  | small h _=>exact h
  | @cons u r h hu hr=>
    simp only [List.length_append] at hl
    have:r=[]:=List.length_eq_zero_iff.1 (by omega)
    subst this
    simpa using h
def Clo (s:Nat) (x:List En3):Prop:=∀ r,Blk s r→Blk s (x++r)
theorem Clo.snoc {s:Nat} {x u:List En3} (h:Clo s x) (hu:Srt u) (hl:u.length=s):Clo s (x++u):=fun r hr=>by
  rw [List.append_assoc]
  exact h _ (.cons hu hl hr)
theorem sym_big {x u v y:List En3} (hu0:u≠[]) (hv0:v≠[]) (hu:Srt u) (hv:Srt v) (hl:x.length+u.length+v.length+y.length≤2000):
    ∃ w,slices_symMergeCmpFunc_apiEntry FUEL (x++u++v++y) (x.length:Int) ((x.length+u.length:Nat):Int) ((x.length+u.length+v.length:Nat):Int)=some (x++w++y)∧w.Perm (u++v)∧Srt w:=
  sym_ok FUEL x u v y (by unfold FUEL; omega) hu0 hv0 hu hv hl
def Mg (l:List En3) (s:Nat) (d:List En3) (a:Nat) (x r:List En3):Prop:=d=x++r∧a=x.length∧Clo (2*s) x∧Blk s r∧d.Perm l
theorem merge_pass {l:List En3} {s:Nat} (hs:0 < s) (hs2:s < l.length) (hn:l.length≤1000) (hB:Blk s l) {d:List En3} (hd:d=l):
    Ret (loop (slices_stableCmpFunc_apiEntry_l7 (l.length:Int) (s:Int)) (d,0,wm .i64 2 (s:Int))) (fun o=>∃ (a:Nat) (x r:List En3),o.2=(a:Int)∧Mg l s o.1 a x r∧r.length < 2*s):=by
  subst hd
  have hw2:wm .i64 2 (s:Int)=((2*s:Nat):Int):=by rw [wm_i (by omega) (by omega)]; omega
  rw [hw2]
  refine ret_loop d.length (fun k (t:List En3×Int×Int)=>∃ (a:Nat) (x r:List En3),t.2.1=(a:Int)∧t.2.2=((a+2*s:Nat):Int)∧Mg d s t.1 a x r∧k≤a) ⟨0,[],d,rfl,by simp,⟨rfl,rfl,fun r hr=>hr,hB,.refl _⟩,Nat.le_refl _⟩ ?_
  rintro k ⟨d',a',b'⟩ hk ⟨a,x,r,e1,e2,⟨rfl,rfl,m3,m4,m5⟩,hka⟩
  simp only at e1 e2 m5
  subst e1 e2
  have hlen:=m5.length_eq
  simp only [List.length_append] at hlen
  unfold slices_stableCmpFunc_apiEntry_l7
  simp only
  by_cases hc:x.length+2*s≤d.length
  · rw [if_pos (by omega)]
    obtain ⟨u,v,y,rfl,hu,hv,hul,hvl,hy⟩:∃ u v y,r=u++v++y∧Srt u∧Srt v∧u.length=s∧v.length=s∧Blk s y:=by
      cases m4 with
      | small h h'=>omega
      | @cons u r h hu hr=>
        simp only [List.length_append] at hlen
        cases hr with
        | small h' h''=>exact ⟨u,r,[],by simp,h,h',hu,by omega,.small .nil (by simp)⟩
        | @cons v y h' hv hy=>exact ⟨u,v,y,by simp,h,h',hu,hv,hy⟩
    simp only [List.length_append] at hlen
    obtain ⟨w,w1,w2,w3⟩:=sym_big (x:=x) (u:=u) (v:=v) (y:=y) (by rintro rfl; simp at hul; omega) (by rintro rfl; simp at hvl; omega) hu hv (by omega)
    have hwl:=w2.length_eq
    simp only [List.length_append] at hwl
    have e3:wa .i64 (x.length:Int) (s:Int)=((x.length+u.length:Nat):Int):=by rw [wa_in (by constructor<;>omega)]; omega
    have e4:((x.length+2*s:Nat):Int)=((x.length+u.length+v.length:Nat):Int):=by omega
    have e5:wa .i64 ((x.length+u.length+v.length:Nat):Int) ((2*s:Nat):Int)=((x.length+w.length+2*s:Nat):Int):=by rw [wa_in (by constructor<;>omega)]; omega
    rw [hw2,e3,e4,e5,show x++(u++v++y)=x++u++v++y by simp,bindS w1,ret_some,vq_l]
    refine ⟨by omega,x.length+w.length,x++w,y,by simp only; omega,rfl,⟨by simp,by simp,m3.snoc w3 (by omega),hy,?_⟩,by omega⟩
    refine List.Perm.trans ?_ m5
    simp only [List.append_assoc]
    rw [← List.append_assoc u v y]
    exact (w2.append_right y).append_left x
  · rw [if_neg (by omega),ret_some,vq_r]
    exact ⟨x.length,x,r,rfl,⟨rfl,rfl,m3,m4,m5⟩,by omega⟩
theorem merge_round {l:List En3} {s:Nat} (hs:0 < s) (hs2:s < l.length) (hn:l.length≤1000) (hB:Blk s l):
    Ret (slices_stableCmpFunc_apiEntry_l6 (l.length:Int) (l,(s:Int))) (VQ (fun t=>∃ d,t=(d,((2*s:Nat):Int))∧d.Perm l∧Blk (2*s) d) (fun _=>False)):=by
  unfold slices_stableCmpFunc_apiEntry_l6 slices_stableCmpFunc_apiEntry_j8
  simp only
  rw [if_pos (by omega),ret_bind]
  have hw2:wm .i64 (s:Int) 2=((2*s:Nat):Int):=by rw [wm_i (by omega) (by omega)]; omega
  refine ret_call (merge_pass hs hs2 hn hB rfl) ?_
  rintro ⟨d,a'⟩ ⟨a,x,r,e1,⟨m1,m2,m3,m4,m5⟩,hr⟩
  simp only at e1 m1 m5
  subst e1 m1 m2
  have hlen:=m5.length_eq
  simp only [List.length_append] at hlen
  have e3:wa .i64 (x.length:Int) (s:Int)=((x.length+s:Nat):Int):=by rw [wa_in (by constructor<;>omega)]; omega
  simp only
  rw [e3,hw2]
  by_cases hc:x.length+s < l.length
  · obtain ⟨u,v,rfl,hu,hv,hul,hvl⟩:∃ u v,r=u++v∧Srt u∧Srt v∧u.length=s∧0 < v.length:=by
      cases m4 with
      | small h h'=>omega
      | @cons u r h hu hr'=>
        simp only [List.length_append] at hlen hr
        exact ⟨u,r,rfl,h,hr'.sorted (by omega) hs,hu,by omega⟩
    simp only [List.length_append] at hlen hr
    obtain ⟨w,w1,w2,w3⟩:=sym_big (x:=x) (u:=u) (v:=v) (y:=[]) (by rintro rfl; simp at hul; omega) (by rintro rfl; simp at hvl) hu hv (by simp; omega)
    have hwl:=w2.length_eq
    simp only [List.length_append] at hwl
    have e4:((x.length+s:Nat):Int)=((x.length+u.length:Nat):Int):=by omega
    have e5:(l.length:Int)=((x.length+u.length+v.length:Nat):Int):=by omega
    rw [if_pos (by omega),e4,e5,show x++(u++v)=x++u++v++[] by simp,bindS w1,ret_some,vq_l]
    refine ⟨x++w,by simp,?_,m3 _ (.small w3 (by omega))⟩
    exact (w2.append_left x).trans m5
  · rw [if_neg (by omega),ret_some,vq_l]
    exact ⟨x++r,rfl,m5,m3 _ (.small (m4.sorted (by omega) hs) (by omega))⟩
theorem first_pass {l:List En3} (hn:l.length≤1000):Ret (loop (slices_stableCmpFunc_apiEntry_l1 (l.length:Int)) (l,0,20)) (fun o=>∃ x r,o=(x++r,(x.length:Int))∧Clo 20 x∧r.length < 20∧(x++r).Perm l):=by
  refine ret_loop l.length (fun k (t:List En3×Int×Int)=>∃ x r,t=(x++r,(x.length:Int),((x.length+20:Nat):Int))∧Clo 20 x∧(x++r).Perm l∧k≤x.length) ⟨[],l,rfl,fun r hr=>hr,.refl _,Nat.le_refl _⟩ ?_
  rintro k _ hk ⟨x,r,rfl,h2,h3,h4⟩
  have hlen:=h3.length_eq
  simp only [List.length_append] at hlen
  unfold slices_stableCmpFunc_apiEntry_l1
  simp only
  by_cases hc:x.length+20≤l.length
  · obtain ⟨u,y,rfl,hul⟩:∃ u y,r=u++y∧u.length=20:=⟨r.take 20,r.drop 20,by simp,by simp; omega⟩
    simp only [List.length_append] at hlen
    obtain ⟨w,w1,w2,w3⟩:=insB (x:=x) (u:=u) (y:=y) (by omega)
    have hwl:=w2.length_eq
    rw [hul] at w1
    have e5:wa .i64 ((x.length+20:Nat):Int) 20=(((x++w).length+20:Nat):Int):=by rw [wa_in (by constructor<;>omega)]; simp; omega
    rw [if_pos (by omega),← List.append_assoc x u y,bindS w1,e5,ret_some,vq_l]
    refine ⟨by omega,x++w,y,by simp; omega,h2.snoc w3 (by omega),?_,by simp; omega⟩
    refine List.Perm.trans ?_ h3
    rw [List.append_assoc]
    exact (w2.append_right y).append_left x
  · rw [if_neg (by omega),ret_some,vq_r]
    exact ⟨x,r,rfl,h2,by omega,h3⟩
theorem stableE {l:List En3} (hn:l.length≤1000):∃ m,slices_SortStableFunc_apiEntry l=some m∧m.Perm l∧m.Pairwise Le:=by
  obtain ⟨_,p1,x,r,rfl,p2,p3,p4⟩:=first_pass hn
  have hlen:=p4.length_eq
  simp only [List.length_append] at hlen
  obtain ⟨w,w1,w2,w3⟩:=insB (x:=x) (u:=r) (y:=[]) (by simp; omega)
  have hwl:=w2.length_eq
  simp only [List.append_nil] at w1
  rw [show ((x.length+r.length:Nat):Int)=(l.length:Int) by omega] at w1
  have hp:(x++w).Perm l:=(w2.append_left x).trans p4
  obtain ⟨o,q1,q2,q3⟩:=whileG (step:=slices_stableCmpFunc_apiEntry_l6 (l.length:Int)) (s:=(x++w,20)) (fun t=>∃ (d:List En3) (s:Nat),t=(d,(s:Int))∧0 < s∧d.Perm l∧Blk s d) (fun o=>o.Perm l∧Srt o) (fun t=>((l.length:Int) - t.2).toNat)
    ⟨x++w,20,rfl,by omega,hp,p2 _ (.small w3 (by omega))⟩ (by simp only; omega) (by
    rintro t ⟨d,s,rfl,h1,h2,h3⟩
    have hdl:=h2.length_eq
    by_cases hc:s < l.length
    · obtain ⟨o,k1,k2⟩:=merge_round h1 (by omega) (by omega) h3
      rw [hdl] at k1
      cases o with
      | inr o=>exact absurd k2 id
      | inl t'=>
        obtain ⟨d',rfl,k3,k4⟩:=k2
        exact .inl ⟨_,k1,⟨d',2*s,rfl,by omega,k3.trans h2,k4⟩,by simp only; omega⟩
    · unfold slices_stableCmpFunc_apiEntry_l6
      simp only
      rw [if_neg (by omega)]
      exact .inr ⟨_,rfl,h2,h3.sorted (by omega) h1⟩)
  refine ⟨o,?_,q2,q3⟩
  unfold slices_SortStableFunc_apiEntry slices_stableCmpFunc_apiEntry
  rw [bindS p1]
  simp only
  rw [bindS w1,bindS q1]
  rfl
theorem sortedE {l:List En3} (hl:l.length≤1000):∃ m,matrix_sorted l=some m∧m.Perm l∧m.Pairwise Le:=by
  obtain ⟨m,h1,h2⟩:=stableE hl
  unfold matrix_sorted slices_Clone_apiEntry
  rw [app_small (by simp; omega)]
  simp only [obs,List.nil_append]
  rw [bindS h1]
  exact ⟨m,rfl,h2⟩
end Px
namespace Px
open Pu Pl Sx Go M Vc
def Sd (s i:List Int) (r c:Nat):Prop:=∃ (k:Nat) (a b:Int),s[c]?=some a∧s[c+1]?=some b∧a≤(k:Int)∧(k:Int) < b∧i[k]?=some (r:Int)
theorem stored_ok {m n:Nat} {s i v:List Int} (hV:Va m n s i v) (hi:i.length≤100000) {r c:Nat} (hr:r < m) (hc:c < n):Ret (sparseref09_Stored (m:Int) (n:Int) s i v (r:Int) (c:Int)) (fun b=>b=true↔Sd s i r c):=by
  have hls:=hV.hd.ls
  obtain ⟨a,ha⟩:∃ a,s[c]?=some a:=⟨s[c]'(by omega),by simp [show c < s.length by omega]⟩
  obtain ⟨b,hb⟩:∃ b,s[c+1]?=some b:=⟨s[c+1]'(by omega),by simp [show c+1 < s.length by omega]⟩
  have hab:=hV.mo c a b ha hb
  have h0a:=mo_le hV.mo (Nat.zero_le c) hV.hd.s0 ha
  have hsn:s[n]?=some (i.length:Int):=by simpa using hV.hd.sn
  have hbn:=mo_le hV.mo (show c+1≤n by omega) hb hsn
  obtain ⟨a,rfl⟩:=Int.eq_ofNat_of_zero_le h0a
  obtain ⟨b,rfl⟩:=Int.eq_ofNat_of_zero_le (show 0≤b by omega)
  unfold sparseref09_Stored
  have hno:¬ ((((decide ((r:Int) < 0)) || (decide ((m:Int)≤(r:Int)))) || (decide ((c:Int) < 0))) || (decide ((n:Int)≤(c:Int))))=true:=by
    simp only [Bool.or_eq_true,decide_eq_true_eq]; omega
  have e1:getI s (c:Int)=some (a:Int):=ha
  rw [if_neg hno]
  simp only [ret_bind,ret_of e1]
  have hw:wa .i64 (c:Int) 1=((c+1:Nat):Int):=wa1 (by have:=hV.sz.2.1; omega)
  have e2:getI s ((c+1:Nat):Int)=some (b:Int):=hb
  refine ret_call (P:=fun o=>(o=.inr ()∧Sd s i r c)∨(o=.inl ()∧¬ Sd s i r c)) ?_ ?_
  · refine ret_loop (b - a) (fun k (t:Int)=>t=((a+k:Nat):Int)∧∀ q,q < k→i[a+q]?≠some (r:Int)) ⟨rfl,fun q hq=>by omega⟩ ?_
    rintro k _ hk ⟨rfl,hI⟩
    unfold sparseref09_Stored_l4
    by_cases hkb:a+k < b
    · obtain ⟨x,hx⟩:∃ x,i[a+k]?=some x:=⟨i[a+k]'(by omega),by simp [show a+k < i.length by omega]⟩
      have e3:getI i ((a+k:Nat):Int)=some x:=hx
      have e5:((a+k:Nat):Int) < (b:Int):=by omega
      have hw2:wa .i64 ((a+k:Nat):Int) 1=((a+(k+1):Nat):Int):=by rw [wa1 (by omega)]; congr 1
      by_cases hxr:x=(r:Int)
      · subst hxr
        simp only [vcD,implies_true,Bool.false_eq_true,reduceCtorEq,hw,e2,e3,e5]
        exact ⟨a+k,a,b,ha,hb,by omega,by omega,hx⟩
      · simp only [vcD,implies_true,Bool.false_eq_true,reduceCtorEq,hw,e2,e3,e5,hxr,hw2]
        refine ⟨by omega,fun q hq=>?_⟩
        by_cases hqk:q=k
        · subst hqk; rw [hx]; simpa using hxr
        · exact hI q (by omega)
    · have e5:¬ ((a+k:Nat):Int) < (b:Int):=by omega
      simp only [vcD,implies_true,Bool.false_eq_true,reduceCtorEq,hw,e2,e5]
      rintro ⟨q,a',b',h1,h2,h3,h4,h5⟩
      rw [ha] at h1; rw [hb] at h2
      obtain rfl:=Option.some.inj h1
      obtain rfl:=Option.some.inj h2
      exact hI (q - a) (by omega) (by rw [show a+(q - a)=q by omega]; exact h5)
  · rintro o (⟨rfl,h⟩ | ⟨rfl,h⟩)
    · simp only [ret_some]; exact ⟨fun _=>h,fun _=>trivial⟩
    · simp only [ret_some]; exact ⟨fun h'=>(by cases h'),fun h'=>absurd h' h⟩
end Px
namespace Px
open Pu Pl Sx Go M Vc
theorem loop_part {τ ρ:Type} {step:τ→Option (τ⊕ρ)} {I:τ→Prop} {Post:ρ→Prop} {s:τ} {o:ρ} (h:loop step s=some o) (h0:I s)
    (hs:∀ t r,I t→step t=some r→VQ I Post r):Post o:=by
  have key:∀ (fuel:Nat) (t:τ),I t→loopN step fuel t=some o→Post o:=by
    intro fuel
    induction fuel with
    | zero=>intro t _ h; simp [loopN] at h
    | succ fuel ih=>
      intro t ht h
      simp only [loopN] at h
      cases hst:step t with
      | none=>rw [hst] at h; cases h
      | some r=>
        have hv:=hs t r ht hst
        rw [hst] at h
        cases r with
        | inl t'=>exact ih t' hv h
        | inr o'=>simp only [Option.some.injEq] at h; subst h; exact hv
  exact key FUEL s h0 h
theorem bindE {α β:Type} {m:Option α} {f:α→Option β} {y:β} (h:m.bind f=some y):∃ x,m=some x∧f x=some y:=by
  cases m with
  | none=>cases h
  | some x=>exact ⟨x,rfl,h⟩
theorem getE {α:Type} {l:List α} {i:Int} {x:α} (h:getI l i=some x):0≤i∧l[i.toNat]?=some x:=by
  cases i with
  | ofNat k=>exact ⟨Int.natCast_nonneg k,h⟩
  | negSucc k=>cases h
theorem setE {α:Type} {l m:List α} {i:Int} {z:α} (h:setI l i z=some m):0≤i∧i.toNat < l.length∧m=l.set i.toNat z:=by
  cases i with
  | ofNat k=>
    simp only [setI] at h
    by_cases hk:k < l.length
    · rw [if_pos hk] at h
      exact ⟨Int.natCast_nonneg k,hk,(Option.some.inj h).symm⟩
    · rw [if_neg hk] at h; cases h
  | negSucc k=>cases h
theorem appE {α:Type} {l m o:List α} (h:app l m=some o):o=l++m:=by
  unfold app at h
  split at h
  · exact (Option.some.inj h).symm
  · cases h
def pos:Int→Bool:=fun x=>decide (0 < x)
theorem count_set {T:List Int} {k:Nat} (h:k < T.length) (z:Int):(T.set k z).countP pos≤T.countP pos+1:=by
  rw [List.countP_set (h:=h)]
  split<;>split<;>omega
theorem count_take {T:List Int} {k:Nat}:(T.take k).countP pos≤T.countP pos:=(List.take_sublist k T).countP_le
theorem table_few {E:List (Int×Int×Int)} {m:Int} {T T':List Int} (hl:E.length≤1000) (h0:T.countP pos=0)
    (h:loop (sparseref09_Pack_l1 E m) (T,0)=some T'):T'.countP pos≤E.length:=by
  refine loop_part (I:=fun (t:List Int×Int)=>(0:Int)≤t.2∧t.2≤(E.length:Int)∧((t.1.countP pos:Nat):Int)≤t.2) (Post:=fun T'=>T'.countP pos≤E.length) h ⟨by omega,by simp,by simp only; omega⟩ ?_
  rintro ⟨T,i⟩ r ⟨h1,h2,h3⟩ hs
  simp only at h1 h2 h3
  unfold sparseref09_Pack_l1 at hs
  simp only at hs
  by_cases hi:i < (E.length:Int)
  · rw [if_pos hi] at hs
    obtain ⟨e,_,hs⟩:=bindE hs
    obtain ⟨e',_,hs⟩:=bindE hs
    obtain ⟨T2,g3,hs⟩:=bindE hs
    obtain ⟨_,g4,rfl⟩:=setE g3
    obtain rfl:=Option.some.inj hs
    have hw:wa .i64 i 1=i+1:=wa_i (by omega) (by omega)
    have:=count_set g4 (wa .i64 i 1)
    rw [vq_l,hw]
    rw [hw] at this
    exact ⟨by omega,by simp only; omega,by simp only; omega⟩
  · rw [if_neg hi] at hs
    obtain rfl:=Option.some.inj hs
    rw [vq_r]; omega
theorem col_few {E:List (Int×Int×Int)} {m j:Nat} {T i v:List Int} {o:List Int×List Int} (hm:m≤50) (hj:j≤50) (hi:i.length≤(T.take (j*m)).countP pos)
    (h:loop (sparseref09_Pack_l13 (m:Int) T (j:Int) E) (i,v,0)=some o):o.1.length≤(T.take (j*m+m)).countP pos:=by
  refine loop_part (I:=fun t=>∃ k:Nat,t.2.2=(k:Int)∧k≤m∧t.1.length≤(T.take (j*m+k)).countP pos) (Post:=fun o=>o.1.length≤(T.take (j*m+m)).countP pos) h ⟨0,rfl,by omega,by simpa using hi⟩ ?_
  rintro ⟨i,v,r'⟩ r ⟨k,h1,h2,h3⟩ hs
  simp only at h1 h3
  subst h1
  unfold sparseref09_Pack_l13 at hs
  simp only at hs
  by_cases hk:(k:Int) < (m:Int)
  · rw [if_pos hk] at hs
    have hjm:j*m≤50*50:=Nat.mul_le_mul hj hm
    have hw2:wm .i64 (j:Int) (m:Int)=((j*m:Nat):Int):=by rw [wm_i (by rw [← Int.natCast_mul]; omega) (by rw [← Int.natCast_mul]; omega),Int.natCast_mul]
    have hw3:wa .i64 ((j*m:Nat):Int) (k:Int)=((j*m+k:Nat):Int):=by rw [wa_i (by omega) (by omega)]; omega
    have hw:wa .i64 (k:Int) 1=((k+1:Nat):Int):=wa1 (by omega)
    obtain ⟨x,g1,hs⟩:=bindE hs
    rw [hw2,hw3] at g1
    obtain ⟨_,g1⟩:=getE g1
    rw [Int.toNat_natCast] at g1
    have ht:T.take (j*m+(k+1))=T.take (j*m+k)++[x]:=tks g1
    by_cases h0:(0:Int) < x
    · rw [if_pos h0] at hs
      obtain ⟨i2,g2,hs⟩:=bindE hs
      obtain ⟨_,_,hs⟩:=bindE hs
      obtain ⟨_,_,hs⟩:=bindE hs
      obtain rfl:=appE g2
      unfold sparseref09_Pack_j14 at hs
      obtain rfl:=Option.some.inj hs
      rw [vq_l]
      refine ⟨k+1,hw,by omega,?_⟩
      rw [ht,List.countP_append,List.length_append]
      simp [pos,h0,h3]
    · rw [if_neg h0] at hs
      unfold sparseref09_Pack_j14 at hs
      obtain rfl:=Option.some.inj hs
      rw [vq_l]
      refine ⟨k+1,hw,by omega,?_⟩
      rw [ht,List.countP_append]
      simp only
      omega
  · rw [if_neg hk] at hs
    obtain rfl:=Option.some.inj hs
    obtain rfl:k=m:=by omega
    rw [vq_r]; exact h3
theorem pack_few {E:List (Int×Int×Int)} {m n:Nat} (hm:m≤50) (hn:n≤50) (hl:E.length≤1000) {o:Int×Int×List Int×List Int×List Int}
    (h:sparseref09_Pack (m:Int) (n:Int) E=some o):o.2.2.2.1.length≤E.length:=by
  have hmn:m*n≤50*50:=Nat.mul_le_mul hm hn
  have hw2:wm .i64 (m:Int) (n:Int)=((m*n:Nat):Int):=by rw [wm_i (by rw [← Int.natCast_mul]; omega) (by rw [← Int.natCast_mul]; omega),Int.natCast_mul]
  unfold sparseref09_Pack at h
  rw [hw2,bindS (mkL_nat 0 (m*n) (by omega))] at h
  obtain ⟨T,t1,h⟩:=bindE h
  have hT:=table_few hl (by simp [List.countP_replicate,pos]) t1
  obtain ⟨⟨s,i,v⟩,t2,h⟩:=bindE h
  have hi:i.length≤T.countP pos:=by
    refine loop_part (I:=fun t=>∃ k:Nat,t.2.2.2=(k:Int)∧k≤n∧t.2.1.length≤(T.take (k*m)).countP pos) (Post:=fun o=>o.2.1.length≤T.countP pos) t2 ⟨0,rfl,by omega,by simp⟩ ?_
    rintro ⟨s,i,v,r'⟩ r ⟨k,h1,h2,h3⟩ hs
    simp only at h1 h3
    subst h1
    unfold sparseref09_Pack_l10 at hs
    simp only at hs
    by_cases hk:(k:Int) < (n:Int)
    · rw [if_pos hk] at hs
      obtain ⟨⟨i2,v2⟩,g1,hs⟩:=bindE hs
      obtain ⟨s2,_,hs⟩:=bindE hs
      obtain rfl:=Option.some.inj hs
      rw [vq_l]
      refine ⟨k+1,wa1 (by omega),by omega,?_⟩
      rw [Nat.succ_mul]
      exact col_few hm (by omega) h3 g1
    · rw [if_neg hk] at hs
      obtain rfl:=Option.some.inj hs
      rw [vq_r]
      exact Nat.le_trans h3 count_take
  obtain rfl:=Option.some.inj h
  simp only
  omega
theorem made_few {m n:Nat} (hm:m≤50) (hn:n≤50) {l:List Int} (hl:l.length≤300) {o:Int×Int×List Int×List Int×List Int}
    (h:sparsemake_Matrix (m:Int) (n:Int) l=some o):o.2.2.2.1.length≤100:=by
  unfold sparsemake_Matrix at h
  obtain ⟨E,t1,h⟩:=bindE h
  obtain ⟨o',t2,h⟩:=bindE h
  have hE:E.length≤100:=by
    refine loop_part (I:=fun t=>t.2=((3*t.1.length:Nat):Int)∧3*t.1.length≤l.length) (Post:=fun E=>E.length≤100) t1 ⟨rfl,by simp⟩ ?_
    rintro ⟨E,i⟩ r ⟨h1,h2⟩ hs
    simp only at h1 h2
    subst h1
    unfold sparsemake_Matrix_l5 at hs
    simp only at hs
    have hw2:wa .i64 ((3*E.length:Nat):Int) 2=((3*E.length+2:Nat):Int):=by rw [wa_i (by omega) (by omega)]; omega
    have hw3:wa .i64 ((3*E.length:Nat):Int) 3=((3*(E.length+1):Nat):Int):=by rw [wa_i (by omega) (by omega)]; omega
    split at hs
    · rename_i hc
      simp only [Bool.and_eq_true,decide_eq_true_eq] at hc
      rw [hw2] at hc
      obtain ⟨_,_,hs⟩:=bindE hs
      obtain ⟨_,_,hs⟩:=bindE hs
      obtain ⟨_,_,hs⟩:=bindE hs
      obtain ⟨_,_,hs⟩:=bindE hs
      obtain ⟨_,_,hs⟩:=bindE hs
      obtain ⟨_,_,hs⟩:=bindE hs
      obtain ⟨E2,g2,hs⟩:=bindE hs
      obtain rfl:=appE g2
      obtain rfl:=Option.some.inj hs
      rw [vq_l]
      simp only [List.length_append,List.length_singleton]
      exact ⟨hw3,by omega⟩
    · obtain rfl:=Option.some.inj hs
      rw [vq_r]; omega
  have:=pack_few hm hn (by omega) t2
  obtain rfl:=Option.some.inj h
  simp only
  omega
def At (s i v:List Int) (l:List En3):Prop:=∀ (q:Nat) (e:En3),l[q]?=some e→i[q]?=some e.1∧v[q]?=some e.2.2∧∃ (c:Nat) (a b:Int),e.2.1=(c:Int)∧s[c]?=some a∧s[c+1]?=some b∧a≤(q:Int)∧(q:Int) < b
theorem at_snoc {s i v:List Int} {l:List En3} {e:En3} (h:At s i v l) (h1:i[l.length]?=some e.1) (h2:v[l.length]?=some e.2.2) {c:Nat} {a b:Int} (h3:e.2.1=(c:Int)) (h4:s[c]?=some a) (h5:s[c+1]?=some b) (h6:a≤(l.length:Int)) (h7:(l.length:Int) < b):At s i v (l++[e]):=by
  intro q e' hq
  by_cases hl:q < l.length
  · rw [List.getElem?_append_left hl] at hq
    exact h q e' hq
  · rw [List.getElem?_append_right (by omega)] at hq
    have hq0:q=l.length:=by
      have:=(List.getElem?_eq_some_iff.1 hq).1
      simp at this; omega
    subst hq0
    simp at hq
    subst hq
    exact ⟨h1,h2,c,a,b,h3,h4,h5,h6,h7⟩
theorem entries_at {m n:Nat} {s i v:List Int} (h:Va m n s i v) {l:List En3} (he:matrix_entries (m:Int) (n:Int) s i v=some l):At s i v l∧l.length=i.length:=by
  unfold matrix_entries at he
  obtain ⟨l',t1,he⟩:=bindE he
  obtain rfl:=Option.some.inj he
  have hls:=h.hd.ls
  have hn:=h.sz.2.1
  have hi:=h.sz.2.2
  have hsn:s[n]?=some (i.length:Int):=by simpa using h.hd.sn
  refine loop_part (I:=fun t=>∃ k:Nat,t.2=(k:Int)∧k≤n∧s[k]?=some (t.1.length:Int)∧At s i v t.1) (Post:=fun l=>At s i v l∧l.length=i.length) t1 ⟨0,rfl,by omega,by simpa using h.hd.s0,fun q e hq=>by simp at hq⟩ ?_
  rintro ⟨l,j⟩ r ⟨k,h1,h2,h3,h4⟩ hs
  simp only at h1 h3 h4
  subst h1
  unfold matrix_entries_l3 at hs
  simp only at hs
  by_cases hk:(k:Int) < (n:Int)
  · rw [if_pos hk] at hs
    obtain ⟨a,g1,hs⟩:=bindE hs
    obtain ⟨_,g1⟩:=getE g1
    rw [Int.toNat_natCast,h3] at g1
    obtain rfl:=Option.some.inj g1
    obtain ⟨l2,g2,hs⟩:=bindE hs
    obtain rfl:=Option.some.inj hs
    have hw:wa .i64 (k:Int) 1=((k+1:Nat):Int):=wa1 (by omega)
    rw [vq_l]
    obtain ⟨b,hb⟩:∃ b,s[k+1]?=some b:=⟨s[k+1]'(by omega),by simp [show k+1 < s.length by omega]⟩
    have hab:=h.mo k _ b h3 hb
    have hbn:=mo_le h.mo (show k+1≤n by omega) hb hsn
    have:(l2.length:Int)=b∧At s i v l2:=by
      refine loop_part (I:=fun t=>t.2=(t.1.length:Int)∧l.length≤t.1.length∧(t.1.length:Int)≤b∧At s i v t.1) (Post:=fun l2=>(l2.length:Int)=b∧At s i v l2) g2 ⟨rfl,by simp,hab,h4⟩ ?_
      rintro ⟨l3,q⟩ r ⟨k1,k2,k3,k4⟩ hs
      simp only at k1 k2 k3 k4
      subst k1
      unfold matrix_entries_l4 at hs
      simp only at hs
      rw [hw] at hs
      obtain ⟨b',f1,hs⟩:=bindE hs
      obtain ⟨_,f1⟩:=getE f1
      rw [Int.toNat_natCast,hb] at f1
      obtain rfl:=Option.some.inj f1
      by_cases hq:(l3.length:Int) < b
      · rw [if_pos hq] at hs
        obtain ⟨x,f2,hs⟩:=bindE hs
        obtain ⟨y,f3,hs⟩:=bindE hs
        obtain ⟨l4,f4,hs⟩:=bindE hs
        obtain rfl:=appE f4
        obtain rfl:=Option.some.inj hs
        obtain ⟨_,f2⟩:=getE f2
        obtain ⟨_,f3⟩:=getE f3
        rw [Int.toNat_natCast] at f2 f3
        rw [vq_l]
        simp only [List.length_append,List.length_singleton]
        exact ⟨wa1 (by omega),by omega,by omega,at_snoc k4 f2 f3 rfl h3 hb (by omega) hq⟩
      · rw [if_neg hq] at hs
        obtain rfl:=Option.some.inj hs
        rw [vq_r]; exact ⟨by omega,k4⟩
    exact ⟨k+1,hw,by omega,by rw [hb,this.1],this.2⟩
  · rw [if_neg hk] at hs
    obtain rfl:=Option.some.inj hs
    obtain rfl:k=n:=by omega
    rw [h3] at hsn
    have:=Option.some.inj hsn
    rw [vq_r]; exact ⟨h4,by omega⟩
theorem sd_en {m n:Nat} {s i v:List Int} (h:Va m n s i v) {l:List En3} (hA:At s i v l) (hl:l.length=i.length) {r c:Nat}:Sd s i r c↔En l r c:=by
  constructor
  · rintro ⟨k,a,b,h1,h2,h3,h4,h5⟩
    have hk:=(List.getElem?_eq_some_iff.1 h5).1
    obtain ⟨e,he⟩:∃ e,l[k]?=some e:=⟨l[k]'(by omega),by simp [show k < l.length by omega]⟩
    obtain ⟨g1,g2,c',a',b',g3,g4,g5,g6,g7⟩:=hA k e he
    rw [h5] at g1
    have hc:c'=c:=by
      by_cases h1':c' < c
      · have:=mo_le h.mo (show c'+1≤c by omega) g5 h1
        omega
      · by_cases h2':c < c'
        · have:=mo_le h.mo (show c+1≤c' by omega) h2 g4
          omega
        · omega
    subst hc
    exact ⟨e,mem_get he,(Option.some.inj g1).symm,g3⟩
  · rintro ⟨e,he,h1,h2⟩
    obtain ⟨q,hq⟩:=List.mem_iff_getElem?.1 he
    obtain ⟨g1,g2,c',a',b',g3,g4,g5,g6,g7⟩:=hA q e hq
    obtain rfl:c'=c:=by omega
    exact ⟨q,a',b',g4,g5,g6,g7,by rw [g1,h1]⟩
end Px
namespace Px
open Pu Pw Pl Sx Go M Vc
def cnt (o:List En3) (c:Nat):Nat:=o.countP fun e=>decide (e.2.1 < (c:Int))
def ccol (o:List En3) (c:Nat):Nat:=o.countP fun e=>decide (e.2.1=(c:Int))
theorem cnt_succ (o:List En3) (c:Nat):cnt o (c+1)=cnt o c+ccol o c:=by
  unfold cnt ccol
  induction o with
  | nil=>rfl
  | cons e o ih=>
    simp only [List.countP_cons,ih,decide_eq_true_eq]
    by_cases h1:e.2.1 < (c:Int)
    · rw [if_pos h1,if_pos (by omega),if_neg (by omega)]; omega
    · by_cases h2:e.2.1=(c:Int)
      · rw [if_neg h1,if_pos (by omega),if_pos h2]; omega
      · rw [if_neg h1,if_neg (by omega),if_neg h2]; omega
theorem cnt_le {o:List En3} {c c':Nat} (h:c≤c'):cnt o c≤cnt o c':=by
  induction c' with
  | zero=>rw [show c=0 by omega]; exact Nat.le_refl _
  | succ c' ih=>
    by_cases hc:c=c'+1
    · rw [hc]; exact Nat.le_refl _
    · have:=ih (by omega); rw [cnt_succ]; omega
theorem cnt_all {o:List En3} {n:Nat} (h:∀ e,e∈o→e.2.1 < (n:Int)):cnt o n=o.length:=by
  unfold cnt
  rw [List.countP_eq_length]
  intro e he; simpa using h e he
theorem cnt_none {o:List En3} {c:Nat} (h:∀ e,e∈o→(c:Int)≤e.2.1):cnt o c=0:=by
  unfold cnt
  rw [List.countP_eq_zero]
  intro e he; have:=h e he; simp; omega
theorem cnt_lt {o:List En3} (hs:o.Pairwise fun a b=>a.2.1≤b.2.1) (c:Nat):∀ {q:Nat} {e:En3},o[q]?=some e→(q < cnt o c↔e.2.1 < (c:Int)):=by
  induction o with
  | nil=>intro q e h; simp at h
  | cons x o ih=>
    intro q e h
    obtain ⟨h1,h2⟩:=List.pairwise_cons.1 hs
    by_cases hx:x.2.1 < (c:Int)
    · have e1:cnt (x::o) c=cnt o c+1:=by unfold cnt; rw [List.countP_cons,if_pos (by simpa using hx)]
      cases q with
      | zero=>simp at h; subst h; rw [e1]; exact ⟨fun _=>hx,fun _=>by omega⟩
      | succ q=>
        simp only [List.getElem?_cons_succ] at h
        rw [e1,← ih h2 h]; omega
    · have e0:cnt (x::o) c=0:=cnt_none (fun e he=>by
        rcases List.mem_cons.1 he with rfl | he
        · omega
        · have:=h1 e he; omega)
      rw [e0]
      have:x.2.1≤e.2.1:=by
        cases q with
        | zero=>simp at h; subst h; exact Int.le_refl _
        | succ q=>simp only [List.getElem?_cons_succ] at h; exact h1 e (mem_get h)
      omega
theorem count_loop {o:List En3} {m n:Nat} (hn:n≤50) (hl:o.length≤100) (hB:∀ e,e∈o→Bd m n e):
    Ret (loop (matrix_build_l3 o) (List.replicate (n+1) 0,[],[],0)) (fun t=>t.1.length=n+1∧t.1[0]?=some 0∧(∀ c,c < n→t.1[c+1]?=some (ccol o c:Int))∧t.2.1=o.map (·.1)∧t.2.2=o.map (·.2.2)):=by
  refine ret_loop o.length (fun k (t:List Int×List Int×List Int×Int)=>t.2.2.2=k∧t.1.length=n+1∧t.1[0]?=some 0∧(∀ c,c < n→t.1[c+1]?=some (ccol (o.take k) c:Int))∧t.2.1=(o.take k).map (·.1)∧t.2.2.1=(o.take k).map (·.2.2)) ⟨rfl,by simp,by simp,fun c hc=>by simp [hc,ccol],by simp,by simp⟩ ?_
  rintro k ⟨s,i,v,k'⟩ hk ⟨rfl,h1,h2,h3,h4,h5⟩
  simp only at h1 h2 h3 h4 h5
  subst h4 h5
  unfold matrix_build_l3
  by_cases hkl:k < o.length
  · obtain ⟨e,he⟩:∃ e,o[k]?=some e:=⟨o[k],by simp [hkl]⟩
    obtain ⟨hr,hc⟩:=hB e (mem_get he)
    obtain ⟨c,h6⟩:=Int.eq_ofNat_of_zero_le hc.1
    have e1:getI o (k:Int)=some e:=he
    have e5:(k:Int) < (o.length:Int):=by omega
    have hw:wa .i64 (k:Int) 1=((k+1:Nat):Int):=wa1 (by omega)
    have hw2:wa .i64 (c:Int) 1=((c+1:Nat):Int):=wa1 (by omega)
    have hcn:c < n:=by omega
    have h7:=h3 c hcn
    have e2:getI s ((c+1:Nat):Int)=some (ccol (o.take k) c:Int):=h7
    have hle:ccol (o.take k) c≤100:=Nat.le_trans List.countP_le_length (by simp; omega)
    have hw3:wa .i64 (ccol (o.take k) c:Int) 1=((ccol (o.take k) c+1:Nat):Int):=wa1 (by omega)
    have ht:=tks he
    simp only [vcD,implies_true,Bool.false_eq_true,reduceCtorEq,e1,e2,e5,hw,h6,hw2,hw3,List.length_map,List.length_take,List.length_singleton]
    refine ⟨by omega,by omega,by omega,by omega,hkl,by simp [h1],by rw [List.getElem?_set,if_neg (by omega)]; exact h2,fun c' hc'=>?_,by rw [ht]; simp,by rw [ht]; simp⟩
    rw [List.getElem?_set,ht]
    have hcc:ccol (o.take k++[e]) c'=ccol (o.take k) c'+if c=c' then 1 else 0:=by
      unfold ccol
      rw [List.countP_append,List.countP_singleton]
      congr 1
      by_cases hcc:c=c'
      · rw [if_pos hcc,if_pos (by simp; omega)]
      · rw [if_neg hcc,if_neg (by simp; omega)]
    rw [hcc]
    by_cases hcc:c=c'
    · subst hcc; rw [if_pos rfl,if_pos (by omega),if_pos rfl]
    · rw [if_neg (by omega),if_neg hcc,h3 c' hc']; rfl
  · have e5:¬ (k:Int) < (o.length:Int):=by omega
    have ht:o.take k=o:=take_all (by omega)
    rw [ht] at h3
    simp only [vcD,implies_true,Bool.false_eq_true,reduceCtorEq,e5,ht]
    exact ⟨h1,h2,h3⟩
theorem sum_loop {o:List En3} {n:Nat} (hn:n≤50) (hl:o.length≤100) (hc0:cnt o 0=0) {s:List Int} (h1:s.length=n+1) (h2:s[0]?=some 0) (h3:∀ c,c < n→s[c+1]?=some (ccol o c:Int)):
    Ret (loop (matrix_build_l4 (n:Int)) (s,0)) (fun s=>s.length=n+1∧∀ c,c≤n→s[c]?=some (cnt o c:Int)):=by
  refine ret_loop n (fun k (t:List Int×Int)=>t.2=k∧t.1.length=n+1∧(∀ c,c≤k→t.1[c]?=some (cnt o c:Int))∧∀ c,k≤c→c < n→t.1[c+1]?=some (ccol o c:Int)) ⟨rfl,h1,fun c hc=>by rw [show c=0 by omega,hc0]; exact h2,fun c _ hc=>h3 c hc⟩ ?_
  rintro k ⟨s,k'⟩ hk ⟨rfl,g1,g2,g3⟩
  simp only at g1 g2 g3
  unfold matrix_build_l4
  by_cases hkn:k < n
  · have hw:wa .i64 (k:Int) 1=((k+1:Nat):Int):=wa1 (by omega)
    have e1:getI s ((k+1:Nat):Int)=some (ccol o k:Int):=g3 k (Nat.le_refl _) hkn
    have e2:getI s (k:Int)=some (cnt o k:Int):=g2 k (Nat.le_refl _)
    have e5:(k:Int) < (n:Int):=by omega
    have a1:ccol o k≤100:=Nat.le_trans List.countP_le_length hl
    have a2:cnt o k≤100:=Nat.le_trans List.countP_le_length hl
    have hw3:wa .i64 (ccol o k:Int) (cnt o k:Int)=(cnt o (k+1):Int):=by rw [wa_i (by omega) (by omega),cnt_succ]; omega
    simp only [vcD,implies_true,Bool.false_eq_true,reduceCtorEq,e1,e2,e5,hw,hw3]
    refine ⟨by omega,by omega,hkn,by simp [g1],fun c hc=>?_,fun c hc hc2=>?_⟩
    · rw [List.getElem?_set]
      by_cases hck:k+1=c
      · subst hck; rw [if_pos rfl,if_pos (by omega)]
      · rw [if_neg hck]; exact g2 c (by omega)
    · rw [List.getElem?_set,if_neg (by omega)]; exact g3 c (by omega) hc2
  · have e5:¬ (k:Int) < (n:Int):=by omega
    simp only [vcD,implies_true,Bool.false_eq_true,reduceCtorEq,e5]
    exact ⟨g1,fun c hc=>g2 c (by omega)⟩
def Apart (l:List En3):Prop:=l.Pairwise fun a b=>¬ (a.1=b.1∧a.2.1=b.2.1)
theorem lt_apart {l:List En3} (h:l.Pairwise LT):Apart l:=h.imp fun {a b} h=>by unfold Pu.LT at h; omega
theorem build_ok {l:List En3} {m n:Nat} (hm:m≤50) (hn:n≤50) (hl:l.length≤100) (hB:∀ e,e∈l→Bd m n e) (hF:∀ e,e∈l→Fn e.2.2=true) (hA:Apart l):
    ∃ s i v,matrix_build (m:Int) (n:Int) l=some ((m:Int),(n:Int),s,i,v)∧Va m n s i v∧Ff v∧i.length=l.length∧s.length=n+1∧∃ o,matrix_entries (m:Int) (n:Int) s i v=some o∧o.Perm l∧o.Pairwise LT:=by
  obtain ⟨o,o1,o2,o3⟩:=sortedE (l:=l) (by omega)
  have hol:=o2.length_eq
  have hBo:∀ e,e∈o→Bd m n e:=fun e he=>hB e (o2.mem_iff.1 he)
  have hAo:Apart o:=(o2.pairwise_iff (fun {a b} h h'=>h ⟨h'.1.symm,h'.2.symm⟩)).2 hA
  have hLT:o.Pairwise LT:=by
    rw [List.pairwise_iff_getElem]
    intro i j hi hj hij
    have a1:=List.pairwise_iff_getElem.1 o3 i j hi hj hij
    have a2:=List.pairwise_iff_getElem.1 hAo i j hi hj hij
    unfold Le at a1; unfold Pu.LT; omega
  have hCol:o.Pairwise fun a b=>a.2.1≤b.2.1:=hLT.imp fun {a b} h=>by unfold Pu.LT at h; omega
  have hc0:cnt o 0=0:=cnt_none fun e he=>by have:=(hBo e he).2.1; omega
  have hcn:cnt o n=o.length:=cnt_all fun e he=>(hBo e he).2.2
  obtain ⟨⟨s0,i,v⟩,t1,s1,s2,s3,s4,s5⟩:=count_loop hn (by omega) hBo
  simp only at s1 s2 s3 s4 s5
  obtain ⟨s,t2,s6,s7⟩:=sum_loop hn (by omega) hc0 s1 s2 s3
  have hil:i.length=o.length:=by rw [s4]; simp
  have hvl:v.length=o.length:=by rw [s5]; simp
  have key:∀ (c:Nat) (a b:Int),s[c]?=some a→s[c+1]?=some b→a=(cnt o c:Int)∧b=(cnt o (c+1):Int)∧c < n:=by
    intro c a b ha hb
    have hc:c+1 < s.length:=(List.getElem?_eq_some_iff.1 hb).1
    rw [s7 c (by omega)] at ha
    rw [s7 (c+1) (by omega)] at hb
    exact ⟨(Option.some.inj ha).symm,(Option.some.inj hb).symm,by omega⟩
  have colOf:∀ (c q:Nat) (e:En3),o[q]?=some e→cnt o c≤q→q < cnt o (c+1)→e.2.1=(c:Int):=by
    intro c q e he h1 h2
    have a1:=cnt_lt hCol c he
    have a2:=cnt_lt hCol (c+1) he
    have a3:=a2.1 h2
    have a4:¬ e.2.1 < (c:Int):=fun h=>absurd (a1.2 h) (by omega)
    omega
  have hV:Va m n s i v:=by
    refine ⟨⟨⟨by omega,by omega⟩,⟨by omega,by omega⟩,by omega⟩,⟨by omega,by omega,by rw [s7 0 (by omega),hc0]; rfl,?_⟩,?_,?_⟩
    · rw [show ((n:Int).toNat)=n by omega,s7 n (Nat.le_refl _),hcn,hil]
    · intro c a b ha hb
      obtain ⟨rfl,rfl,hc⟩:=key c a b ha hb
      have:=@cnt_le o c (c+1) (by omega)
      omega
    · intro c a b ha hb k x hak hkb hx
      obtain ⟨rfl,rfl,hc⟩:=key c a b ha hb
      have hk:k < o.length:=by have:=(List.getElem?_eq_some_iff.1 hx).1; omega
      obtain ⟨e,he⟩:∃ e,o[k]?=some e:=⟨o[k],by simp [hk]⟩
      rw [s4,List.getElem?_map,he] at hx
      have hx':=Option.some.inj hx
      simp only at hx'
      have hb1:=(hBo e (mem_get he)).1
      refine ⟨by omega,by omega,fun h2 x' hx2=>?_⟩
      obtain ⟨e',he'⟩:∃ e',o[k - 1]?=some e':=⟨o[k - 1]'(by omega),by simp [show k - 1 < o.length by omega]⟩
      rw [s4,List.getElem?_map,he'] at hx2
      have hx2':=Option.some.inj hx2
      simp only at hx2'
      have c1:=colOf c k e he (by omega) (by omega)
      have c2:=colOf c (k - 1) e' he' (by omega) (by omega)
      have:=List.pairwise_iff_getElem.1 hLT (k - 1) k (by omega) hk (by omega)
      rw [(List.getElem?_eq_some_iff.1 he).2,(List.getElem?_eq_some_iff.1 he').2] at this
      unfold Pu.LT at this
      omega
  have hFv:Ff v:=by
    intro f hf
    rw [s5,List.mem_map] at hf
    obtain ⟨e,he,rfl⟩:=hf
    exact hF e (o2.mem_iff.1 he)
  have hent:matrix_entries (m:Int) (n:Int) s i v=some o:=by
    obtain ⟨o',g1,g2,g3,g4⟩:=Pw.ents hV (by omega) (check_zero hV hFv (by omega) (by omega))
    unfold matrix_Entries at g1
    rw [bindS (check_zero hV hFv (by omega) (by omega)),if_pos rfl] at g1
    obtain ⟨o2',g5,g6⟩:=bindE g1
    obtain rfl:=Option.some.inj g6
    obtain ⟨k1,k2⟩:=entries_at hV g5
    rw [g5]
    congr 1
    apply List.ext_getElem?
    intro q
    by_cases hq:q < o.length
    · obtain ⟨e,he⟩:∃ e,o2'[q]?=some e:=⟨o2'[q]'(by omega),by simp [show q < o2'.length by omega]⟩
      obtain ⟨e',he'⟩:∃ e',o[q]?=some e':=⟨o[q],by simp [hq]⟩
      obtain ⟨f1,f2,c,a,b,f3,f4,f5,f6,f7⟩:=k1 q e he
      obtain ⟨rfl,rfl,hc⟩:=key c a b f4 f5
      rw [s4,List.getElem?_map,he'] at f1
      rw [s5,List.getElem?_map,he'] at f2
      have f1':=Option.some.inj f1
      have f2':=Option.some.inj f2
      have f8:=colOf c q e' he' (by omega) (by omega)
      rw [he,he']
      congr 1
      obtain ⟨ea,eb,ec⟩:=e
      obtain ⟨fa,fb,fc⟩:=e'
      simp only at f1' f2' f3 f8
      rw [f1',f2',f3,f8]
    · rw [List.getElem?_eq_none (by omega),List.getElem?_eq_none (by omega)]
  refine ⟨s,i,v,?_,hV,hFv,by omega,s6,o,hent,o2,hLT⟩
  unfold matrix_build
  rw [show wa .i64 (n:Int) 1=((n+1:Nat):Int) from wa1 (by omega),bindS (mkL_nat 0 (n+1) (by omega)),bindS o1,bindS t1]
  simp only
  rw [bindS t2]
end Px
namespace Px
open Pu Pl Sx Go M Vc
structure Pm (l:List Int) (n:Nat):Prop where
  len:l.length=n
  nd:l.Nodup
  rng:∀ x,x∈l→0≤x∧x < (n:Int)
theorem shuf_step {out left:List Int} {n k:Nat} {at':Nat} (h1:out.length=k) (h2:left.length+k=n) (hnd:(out++left).Nodup) (hr:∀ x,x∈out++left→0≤x∧x < (n:Int)) (hat:at' < left.length):
    (out++[left[at']]).length=k+1∧(left.take at'++left.drop (at'+1)).length+(k+1)=n∧((out++[left[at']])++(left.take at'++left.drop (at'+1))).Nodup∧∀ x,x∈(out++[left[at']])++(left.take at'++left.drop (at'+1))→0≤x∧x < (n:Int):=by
  have hp:((out++[left[at']])++(left.take at'++left.drop (at'+1))).Perm (out++left):=by
    rw [List.append_assoc]
    refine List.Perm.append_left _ ?_
    have h3:left=left.take at'++left[at']::left.drop (at'+1):=by
      rw [List.getElem_cons_drop]; exact (List.take_append_drop at' left).symm
    conv=>rhs; rw [h3]
    show (left[at']::(left.take at'++left.drop (at'+1))).Perm (left.take at'++left[at']::left.drop (at'+1))
    exact List.perm_middle.symm
  refine ⟨by simp [h1],by simp; omega,hp.nodup_iff.2 hnd,fun x hx=>hr x (hp.mem_iff.1 hx)⟩
def ShI (n k:Nat) (t:List Int×List Int×Int):Prop:=t.2.2=(k:Int)∧t.2.1.length=k∧t.1.length+k=n∧(t.2.1++t.1).Nodup∧∀ x,x∈t.2.1++t.1→0≤x∧x < (n:Int)
end Px
namespace Px
open Pu Pl Sx Go M Vc
theorem nodup_le:∀ (n:Nat) (l:List Int),l.Nodup→(∀ x,x∈l→0≤x∧x < (n:Int))→l.length≤n:=by
  intro n
  induction n with
  | zero=>
    intro l _ h
    cases l with
    | nil=>simp
    | cons x l=>have:=h x (by simp); omega
  | succ n ih=>
    intro l hd h
    by_cases hn:(n:Int)∈l
    · have h1:=ih (l.erase (n:Int)) (hd.erase _) (fun x hx=>by
        have h2:=(hd.mem_erase_iff).1 hx
        have:=h x h2.2
        have:=h2.1
        omega)
      rw [List.length_erase_of_mem hn] at h1
      omega
    · have h1:=ih l hd (fun x hx=>by
        have:=h x hx
        have:x≠(n:Int):=fun e=>hn (e▸hx)
        omega)
      omega
theorem pm_onto {l:List Int} {n:Nat} (h:Pm l n) {y:Nat} (hy:y < n):∃ k:Nat,l[k]?=some (y:Int):=by
  refine Classical.byContradiction fun hno=>?_
  have hnm:(y:Int)∉l:=fun hm=>hno (List.mem_iff_getElem?.1 hm)
  have h1:=nodup_le n ((y:Int)::l) (List.nodup_cons.2 ⟨hnm,h.nd⟩) (fun x hx=>by
    rcases List.mem_cons.1 hx with rfl | hx
    · omega
    · exact h.rng x hx)
  rw [List.length_cons,h.len] at h1
  omega
def pl (r:List Int) (x:Int):Int:=r[x.toNat]?.getD 0
structure Pls (r:List Int) (n:Nat):Prop where
  len:r.length=n
  rng:∀ x:Nat,x < n→∃ k:Nat,r[x]?=some (k:Int)∧k < n
  inj:∀ x y:Nat,x < n→y < n→pl r x=pl r y→x=y
theorem pls_of {l r:List Int} {n:Nat} (h:Pm l n) (h1:r.length=n) (h2:∀ (k:Nat) (x:Int),l[k]?=some x→r[x.toNat]?=some (k:Int)):Pls r n:=by
  have hg:∀ x:Nat,x < n→∃ k:Nat,r[x]?=some (k:Int)∧l[k]?=some (x:Int):=by
    intro x hx
    obtain ⟨k,hk⟩:=pm_onto h hx
    exact ⟨k,by simpa using h2 k x hk,hk⟩
  refine ⟨h1,fun x hx=>?_,fun x y hx hy he=>?_⟩
  · obtain ⟨k,g1,g2⟩:=hg x hx
    have:=(List.getElem?_eq_some_iff.1 g2).1
    have:=h.len
    exact ⟨k,g1,by omega⟩
  · obtain ⟨k,g1,g2⟩:=hg x hx
    obtain ⟨k',g3,g4⟩:=hg y hy
    unfold pl at he
    simp only [Int.toNat_natCast,g1,g3,Option.getD_some] at he
    have:k=k':=by omega
    subst this
    rw [g2] at g4
    have:=Option.some.inj g4
    omega
theorem Pls.get {r:List Int} {n:Nat} (h:Pls r n) {x:Int} (h0:0≤x) (h1:x < n):getI r x=some (pl r x)∧0≤pl r x∧pl r x < n:=by
  obtain ⟨x,rfl⟩:=Int.eq_ofNat_of_zero_le h0
  obtain ⟨k,g1,g2⟩:=h.rng x (by omega)
  unfold pl
  rw [Int.toNat_natCast,g1]
  exact ⟨g1,by rw [Option.getD_some]; omega,by rw [Option.getD_some]; omega⟩
def mv (r c:List Int) (e:En3):En3:=(pl r e.1,pl c e.2.1,e.2.2)
structure Mat (m n:Nat) (s i v:List Int) (l:List En3):Prop where
  va:Va m n s i v
  ff:Ff v
  len:i.length≤100
  sl:s.length=n+1
  ent:matrix_entries (m:Int) (n:Int) s i v=some l
  bd:∀ e,e∈l→Bd m n e
  lt:l.Pairwise LT
theorem Mat.check {m n:Nat} {s i v:List Int} {l:List En3} (h:Mat m n s i v l) (hn:n≤50):matrix_Check (m:Int) (n:Int) s i v=some 0:=Pw.check_zero h.va h.ff (by have:=h.sl; omega) (by have:=h.len; omega)
theorem Mat.ents {m n:Nat} {s i v:List Int} {l:List En3} (h:Mat m n s i v l) (hn:n≤50):matrix_Entries (m:Int) (n:Int) s i v=some l:=by
  unfold matrix_Entries
  rw [bindS (h.check hn),if_pos rfl,bindS h.ent]
theorem Mat.llen {m n:Nat} {s i v:List Int} {l:List En3} (h:Mat m n s i v l):l.length≤100:=by
  have:=(entries_at h.va h.ent).2
  have:=h.len
  omega
theorem Mat.fin {m n:Nat} {s i v:List Int} {l:List En3} (h:Mat m n s i v l) {e:En3} (he:e∈l):Fn e.2.2=true:=by
  obtain ⟨q,hq⟩:=List.mem_iff_getElem?.1 he
  obtain ⟨_,h2,_⟩:=(entries_at h.va h.ent).1 q e hq
  exact h.ff _ (mem_get h2)
theorem mat_of {m n:Nat} {s i v:List Int} (hV:Va m n s i v) (hF:Ff v) (hi:i.length≤100) (hs:s.length=n+1) (hn:n≤50):∃ l,Mat m n s i v l:=by
  have hk:=Pw.check_zero hV hF (by omega) (by omega)
  obtain ⟨l,g1,g2,g3,g4⟩:=Pw.ents hV (by omega) hk
  unfold matrix_Entries at g1
  rw [bindS hk,if_pos rfl] at g1
  obtain ⟨l',g5,g6⟩:=bindE g1
  obtain rfl:=Option.some.inj g6
  exact ⟨l',hV,hF,hi,hs,g5,g3,g4⟩
theorem made_mat {m n:Nat} (hm:m≤50) (hn:n≤50) {x:List Int} (hx:x.length≤300):∃ s i v l,sparsemake_Matrix (m:Int) (n:Int) x=some ((m:Int),(n:Int),s,i,v)∧Mat m n s i v l:=by
  obtain ⟨s,i,v,h1,h2,h3,h4,h5⟩:=Pw.matrix_ok hm hn x (by omega)
  have hi:=made_few hm hn hx h1
  obtain ⟨l,hl⟩:=mat_of h2 h3 hi h5 hn
  exact ⟨s,i,v,l,h1,hl⟩
theorem build_mat {l:List En3} {m n:Nat} (hm:m≤50) (hn:n≤50) (hl:l.length≤100) (hB:∀ e,e∈l→Bd m n e) (hF:∀ e,e∈l→Fn e.2.2=true) (hA:Apart l):
    ∃ s i v o,matrix_build (m:Int) (n:Int) l=some ((m:Int),(n:Int),s,i,v)∧Mat m n s i v o∧o.Perm l:=by
  obtain ⟨s,i,v,h1,h2,h3,h4,h5,o,h6,h7,h8⟩:=build_ok hm hn hl hB hF hA
  exact ⟨s,i,v,o,h1,⟨h2,h3,by omega,h5,h6,fun e he=>hB e (h7.mem_iff.1 he),h8⟩,h7⟩
theorem en_perm {o l:List En3} (h:o.Perm l) {r c:Nat}:En o r c↔En l r c:=by
  unfold En
  exact ⟨fun ⟨e,he,h1⟩=>⟨e,h.mem_iff.1 he,h1⟩,fun ⟨e,he,h1⟩=>⟨e,h.mem_iff.2 he,h1⟩⟩
theorem en_mv {l:List En3} {r c:List Int} {x y:Nat}:En (l.map (mv r c)) x y↔∃ e,e∈l∧pl r e.1=(x:Int)∧pl c e.2.1=(y:Int):=by
  unfold En
  constructor
  · rintro ⟨e,he,h1,h2⟩
    obtain ⟨e',he',rfl⟩:=List.mem_map.1 he
    exact ⟨e',he',h1,h2⟩
  · rintro ⟨e,he,h1,h2⟩
    exact ⟨mv r c e,List.mem_map.2 ⟨e,he,rfl⟩,h1,h2⟩
theorem asc_ext {a b:List Int} (ha:a.Pairwise (· < ·)) (hb:b.Pairwise (· < ·)) (h:∀ x,x∈a↔x∈b):a=b:=by
  have nd:∀ {a:List Int},a.Pairwise (· < ·)→a.Nodup:=fun ha=>(List.nodup_iff_pairwise_ne).2 (ha.imp fun h=>by omega)
  have hp:=(List.perm_ext_iff_of_nodup (nd ha) (nd hb)).2 h
  exact List.Perm.eq_of_pairwise (le:=fun a b:Int=>a < b) (fun a b _ _ h1 h2=>by omega) ha hb hp
theorem gr_ext {a b:List (List Int)} (ha:Gr a) (hb:Gr b) (hl:a.length=b.length) (h:∀ (v w:Nat) l l',v < a.length→w < a.length→a[v]?=some l→b[v]?=some l'→((w:Int)∈l↔(w:Int)∈l')):a=b:=by
  apply List.ext_getElem?
  intro v
  by_cases hv:v < a.length
  · obtain ⟨l,e1⟩:∃ l,a[v]?=some l:=⟨a[v],by simp [hv]⟩
    obtain ⟨l',e2⟩:∃ l',b[v]?=some l':=⟨b[v]'(by omega),by simp [show v < b.length by omega]⟩
    rw [e1,e2]
    congr 1
    refine asc_ext (ha.asc _ _ e1) (hb.asc _ _ e2) fun x=>⟨fun hx=>?_,fun hx=>?_⟩
    · obtain ⟨h0,h1,_⟩:=ha.rng _ _ _ e1 hx
      obtain ⟨w,rfl⟩:=Int.eq_ofNat_of_zero_le h0
      exact (h v w l l' hv (by omega) e1 e2).1 hx
    · obtain ⟨h0,h1,_⟩:=hb.rng _ _ _ e2 hx
      obtain ⟨w,rfl⟩:=Int.eq_ofNat_of_zero_le h0
      exact (h v w l l' hv (by omega) e1 e2).2 hx
  · rw [List.getElem?_eq_none (by omega),List.getElem?_eq_none (by omega)]
theorem ng_ext {a b:List (List Int)} {l l':List En3} {n:Nat} (ha:Ng a l n) (hb:Ng b l' n) (h:∀ v w,v < n→w < n→(Nb l v w↔Nb l' v w)):a=b:=by
  have h1:=ha.len
  have h2:=hb.len
  exact gr_ext ha.gr hb.gr (by omega) fun v w k k' hv hw e1 e2=>by
    rw [ha.nb v w (by omega) (by omega) _ e1,hb.nb v w (by omega) (by omega) _ e2]
    exact h v w (by omega) (by omega)
end Px
