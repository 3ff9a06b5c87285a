/- Tables of numbers; a row minus a multiple of another one, divided exactly. -/
import Derived.Test.YtpfmbaidflhamaaDoorQzA
import Derived.Test.YtpfmbaidflhamaaDoorQzB
import Derived.KernelRfl
import Derived.Test.YtpfmbaidflhamaaDoorSxN
set_option linter.unusedVariables false
set_option linter.unusedSimpArgs false
set_option maxHeartbeats 4000000
namespace Km
open Sx Go M Vc Lm Dt
abbrev Nb:=Bool×List Int
def Lg (l:List Nb) (w:Nat) (f:Nat→Int):Prop:=l.length=w∧∀ c,c < w→∃ z,l[c]?=some z∧Bg (f c) z.1 z.2
def Tg (T:List (List Nb)) (n w:Nat) (A:Mx):Prop:=T.length=n∧∀ r,r < n→∃ l,T[r]?=some l∧Lg l w (A r)
theorem Lg.congr {l:List Nb} {w:Nat} {f g:Nat→Int} (h:Lg l w f) (e:∀ c,c < w→f c=g c):Lg l w g:=⟨h.1,fun c hc=>by obtain ⟨z,h1,h2⟩:=h.2 c hc; exact ⟨z,h1,h2.cast (e c hc)⟩⟩
theorem Tg.congr {T:List (List Nb)} {n w:Nat} {A B:Mx} (h:Tg T n w A) (e:∀ r c,r < n→c < w→A r c=B r c):Tg T n w B:=⟨h.1,fun r hr=>by obtain ⟨l,h1,h2⟩:=h.2 r hr; exact ⟨l,h1,h2.congr fun c hc=>e r c hr hc⟩⟩
theorem Lg.set {l:List Nb} {w:Nat} {f:Nat→Int} (h:Lg l w f) {c:Nat} (hc:c < w) {z:Nb} {v:Int} (hz:Bg v z.1 z.2):Lg (l.set c z) w (fun j=>if j=c then v else f j):=by
  refine ⟨by rw [List.length_set]; exact h.1,fun j hj=>?_⟩
  by_cases e:j=c
  · subst e
    exact ⟨z,by rw [List.getElem?_set_self]; rw [h.1]; exact hc,hz.cast (show v=(if j=j then v else f j) from (if_pos rfl).symm)⟩
  · obtain ⟨y,h1,h2⟩:=h.2 j hj
    exact ⟨y,by rw [List.getElem?_set_ne (fun h=>e h.symm)]; exact h1,h2.cast (show f j=(if j=c then v else f j) from (if_neg e).symm)⟩
theorem Tg.set {T:List (List Nb)} {n w:Nat} {A:Mx} (h:Tg T n w A) {k:Nat} (hk:k < n) {l:List Nb} {g:Nat→Int} (hl:Lg l w g):Tg (T.set k l) n w (up A k g):=by
  refine ⟨by rw [List.length_set]; exact h.1,fun r hr=>?_⟩
  by_cases e:r=k
  · subst e
    exact ⟨l,by rw [List.getElem?_set_self]; rw [h.1]; exact hk,hl.congr fun c _=>up_in.symm⟩
  · obtain ⟨m,h1,h2⟩:=h.2 r hr
    exact ⟨m,by rw [List.getElem?_set_ne (fun h=>e h.symm)]; exact h1,h2.congr fun c _=>(up_out e).symm⟩
theorem at_some {α:Type} {l:List α} {k:Nat} {x:α} (hx:l[k]?=some x) {i:Int} (hi:i=(k:Int)):getI l i=some x:=by
  subst hi
  have:=(List.getElem?_eq_some_iff.1 hx).1
  exact Ret.eq (by rw [ret_get]; exact ⟨by omega,by omega,fun y hy=>by rw [Int.toNat_natCast] at hy; exact Option.some.inj (hy.symm.trans hx)⟩)
theorem set_some {α:Type} {l:List α} {k:Nat} {x:α} (hk:k < l.length) {i:Int} (hi:i=(k:Int)):setI l i x=some (l.set k x):=by
  subst hi
  exact Ret.eq (by rw [ret_set,Int.toNat_natCast]; exact ⟨by omega,by omega,rfl⟩)
theorem Lg.at {l:List Nb} {w:Nat} {f:Nat→Int} (h:Lg l w f) {c:Nat} (hc:c < w) {i:Int} (hi:i=(c:Int)):∃ z,getI l i=some z∧Bg (f c) z.1 z.2:=by
  obtain ⟨z,h1,h2⟩:=h.2 c hc
  exact ⟨z,at_some h1 hi,h2⟩
theorem Tg.at {T:List (List Nb)} {n w:Nat} {A:Mx} (h:Tg T n w A) {r:Nat} (hr:r < n) {i:Int} (hi:i=(r:Int)):∃ l,getI T i=some l∧Lg l w (A r):=by
  obtain ⟨l,h1,h2⟩:=h.2 r hr
  exact ⟨l,at_some h1 hi,h2⟩
theorem negP_bg {s:Bool} {a:List Int} (ha:LW a) (hn:a.length≤1000000):Ret (integer_Neg s a) (fun r=>Bg (- sv s a) r.1 r.2):=by
  unfold integer_Neg
  rw [clone_ok hn,obs,ret_bind]
  exact (big_bg (!s) ha hn).mono fun r hr=>⟨_,rfl,hr.cast (sv_not s a)⟩
theorem quoP_bg {s t:Bool} {a b:List Int} (ha:LW a) (hb:LW b) (hn:a.length≤800) (hm:b.length≤800) {h:Int} (hne:sv t b≠0) (he:sv s a=sv t b*h):Ret (integer_Quo s a t b) (fun r=>Bg h r.1 r.2.1∧r.2.2=0):=by
  unfold integer_Quo
  rw [ret_bind]
  refine (divmod_bg (s:=s) (t:=t) ha hb hn hm hne).mono ?_
  rintro ⟨a,b,c,d,e⟩ ⟨hq,hr,h0⟩
  simp only at hq hr h0 ⊢
  subst h0
  rw [he,Int.mul_emod_right] at hr
  rw [he,Int.mul_ediv_cancel_left _ hne] at hq
  have hd:d=[]:=(lv_zero hr.1 hr.2.1).1 (by rw [hr.abs]; simp)
  subst hd
  rw [if_neg (by simp)]
  exact ⟨_,rfl,hq,rfl⟩
theorem Bg.lenB {v:Int} {s:Bool} {l:List Int} (h:Bg v s l) {M:Int} {m:Nat} (hb:Bd M v) (hM:M < pw m):l.length≤m:=h.len (by have:=hb.1; omega) (by have:=hb.2; omega)
end Km
namespace Km
open Sx Go M Vc Lm Dt
def Okb (n w:Nat) (A:Mx) (M:Int):Prop:=∀ (A':Mx) (cl:Nat→Nat) (q i j:Nat),(∀ i,i < n→∃ i',i' < n∧∀ j,A' i j=A i' j)→q≤n→(∀ s,s < q→cl s < w)→i < n→j < w→Bd M (Rk A' cl q i j)∧Bd M (det q (Pm_ A' cl))
theorem pow_mono {X:Int} (hX:1≤X) {m n:Nat} (h:m≤n):X ^ m≤X ^ n:=by
  obtain ⟨d,rfl⟩:=Nat.exists_eq_add_of_le h
  induction d with
  | zero=>exact Int.le_refl _
  | succ d ih=>
    have h1:=ih (by omega)
    have h2:=Dt.pow_nn (show 0≤X by omega) (m+d)
    have h3:X ^ (m+d)*1≤X ^ (m+d)*X:=Int.mul_le_mul_of_nonneg_left hX h2
    rw [show m+(d+1)=(m+d)+1 by omega,Int.pow_succ]
    omega
theorem okb_of {n w K:Nat} {M:Int} {A:Mx} (hM:1≤M) (hK:1≤K) (hnK:n≤K) (hA:∀ i j,i < n→j < w→Bd M (A i j)):Okb n w A (2*(K*M) ^ (n+2)):=by
  intro A' cl q i j hp hq hc hi hj
  have hKM:1≤(K:Int)*M:=by
    have:(1:Int)*1≤K*M:=Int.mul_le_mul (by omega) hM (by omega) (by omega)
    omega
  have hA':∀ i j,i < n→j < w→Bd M (A' i j):=by
    intro i j hi hj
    obtain ⟨i',h1,h2⟩:=hp i hi
    rw [h2]; exact hA i' j h1 hj
  obtain ⟨h1,h2⟩:=Rk_bd (K:=K) (n:=n) (w:=w) (A:=A') (col:=cl) (k:=q) (i:=i) (j:=j) hM hK hA' hq (by omega) hc hi hj
  have h3:=pow_mono hKM (show q+2≤n+2 by omega)
  exact ⟨h1.mono (by omega),h2.mono (by omega)⟩
section
variable {n w cw:Nat} {A A':Mx} {col:Nat→Nat} {k c:Nat} {sn M:Int}
end
end Km
namespace Km
open Sx Go M Vc Lm Dt
theorem Lg.snoc {l:List Nb} {k:Nat} {f:Nat→Int} (h:Lg l k f) {z:Nb} (hz:Bg (f k) z.1 z.2):Lg (l++[z]) (k+1) f:=by
  refine ⟨by rw [List.length_append,h.1]; rfl,fun c hc=>?_⟩
  by_cases e:c < k
  · obtain ⟨y,h1,h2⟩:=h.2 c e
    exact ⟨y,by rw [List.getElem?_append_left (by rw [h.1]; exact e)]; exact h1,h2⟩
  · obtain rfl:c=k:=by omega
    exact ⟨z,by rw [List.getElem?_append_right (by rw [h.1]; omega),h.1,Nat.sub_self]; rfl,hz⟩
theorem Tg.snoc {T:List (List Nb)} {k w:Nat} {A:Mx} (h:Tg T k w A) {l:List Nb} (hl:Lg l w (A k)):Tg (T++[l]) (k+1) w A:=by
  refine ⟨by rw [List.length_append,h.1]; rfl,fun c hc=>?_⟩
  by_cases e:c < k
  · obtain ⟨y,h1,h2⟩:=h.2 c e
    exact ⟨y,by rw [List.getElem?_append_left (by rw [h.1]; exact e)]; exact h1,h2⟩
  · obtain rfl:c=k:=by omega
    exact ⟨l,by rw [List.getElem?_append_right (by rw [h.1]; omega),h.1,Nat.sub_self]; rfl,hl⟩
section
variable {n w:Nat} {A:Mx} {T:List (List Nb)}
theorem xcolumns_ok (hT:Tg T n w A):exact_columns T=some (if n=0 then 0 else (w:Int)):=by
  unfold exact_columns
  by_cases h0:n=0
  · rw [if_pos (by rw [hT.1]; omega),if_pos h0]
  · rw [if_neg (by rw [hT.1]; omega),if_neg h0]
    obtain ⟨l,h1,h2⟩:=hT.at (r:=0) (by omega) (i:=0) rfl
    rw [h1,obs,h2.1]
theorem xcheck_ok (hT:Tg T n w A) (hn:n≤16) (hw:w≤16):exact_check T=some 0:=by
  have hc:slices_ContainsFunc_apiBig T (if n=0 then 0 else (w:Int))=some false:=by
    refine Ret.eq ?_
    unfold slices_ContainsFunc_apiBig slices_IndexFunc_apiBig
    rw [ret_bind,ret_bind]
    refine (ret_loop (Post:=fun o=>o=.inl ()) n (fun k (i:Int)=>i=(k:Int)) rfl ?_ (by omega)).mono ?_
    · rintro k _ hk rfl
      unfold slices_IndexFunc_apiBig_l1
      rw [hT.1,ret_if]
      refine ⟨fun hlt=>?_,fun _=>⟨_,rfl,rfl⟩⟩
      obtain ⟨l,h1,h2⟩:=hT.at (r:=k) (by omega) (i:=(k:Int)) rfl
      unfold exact_check_1
      rw [h1,obs,obs,h2.1,if_neg (show ¬ n=0 by omega)]
      simp only [decide_true,Bool.not_true,Bool.false_eq_true,if_false]
      exact ⟨_,rfl,by omega,by show wa .i64 (k:Int) 1=_; rw [wa_i (by omega) (by omega)]; rfl⟩
    · rintro _ rfl
      exact ⟨_,rfl,_,rfl,rfl⟩
  unfold exact_check
  rw [xcolumns_ok hT,obs,hc,obs,if_neg (by simp),hT.1,if_neg]
  simp only [Bool.or_eq_true,decide_eq_true_eq,not_or]
  split<;>omega
theorem normZ_ok {v:Int} {z:Nb} (hz:Bg v z.1 z.2) (hl:z.2.length≤1000000):Ret (integer_Norm z.1 z.2) (fun r=>Bg v r.1 r.2):=(normP_bg (s:=z.1) hz.1 hl).mono fun r hr=>by rw [hz.sv] at hr; exact hr
theorem rowtwin_ok {row:List Nb} {f:Nat→Int} {M:Int} (hM:M < pw 60) (hrow:Lg row w f) (bf:∀ j,j < w→Bd M (f j)) (hw:w≤1000):Ret (loop (exact_twin_l6 row) ([],0)) (fun o=>Lg o w f):=by
  refine ret_loop (Post:=fun o:List Nb=>Lg o w f) w (fun k (s:List Nb×Int)=>s.2=(k:Int)∧Lg s.1 k f) ⟨rfl,rfl,fun c hc=>absurd hc (by omega)⟩ ?_ (by omega)
  rintro k ⟨o,_⟩ hk ⟨rfl,hI⟩
  simp only at hI
  unfold exact_twin_l6
  simp only
  rw [hrow.1,ret_if]
  refine ⟨fun hlt=>?_,fun hge=>⟨_,rfl,by have e:k=w:=(by omega); subst e; exact hI⟩⟩
  have hkw:k < w:=by omega
  obtain ⟨z,h1,h2⟩:=hrow.at hkw (i:=(k:Int)) rfl
  have lz:=h2.lenB (bf k hkw) hM
  rw [h1,obs,ret_bind]
  refine (normZ_ok h2 (by omega)).mono fun r hr=>?_
  rw [ret_bind,ret_app]
  refine ⟨by rw [hI.1]; simp only [List.length_cons,List.length_nil]; omega,_,rfl,hkw,by show wa .i64 (k:Int) 1=_; rw [wa_i (by omega) (by omega)]; rfl,hI.snoc (z:=(r.1,r.2)) hr⟩
end
end Km
namespace Km
open Sx Go M Vc Lm Dt
theorem prod_lt {M:Int} (hM:M < pw 60) (h0:0≤M):M*M < pw 120:=by
  have h1:M*M≤M*pw 60:=Int.mul_le_mul_of_nonneg_left (by omega) h0
  have h2:M*pw 60 < pw 60*pw 60:=Int.mul_lt_mul_of_pos_right hM (pw_pos 60)
  have h3:pw 120=pw 60*pw 60:=pw_add 60 60
  omega
theorem sum_lt {M:Int} (hM:M < pw 60) (h0:0≤M) {k:Nat} (hk:k≤1000):(k:Int)*(M*M) < pw 121:=by
  have h1:=prod_lt hM h0
  have h2:=Int.mul_nonneg h0 h0
  have h3:(k:Int)*(M*M)≤1000*(M*M):=Int.mul_le_mul_of_nonneg_right (by omega) h2
  have e:pw 121=B*pw 120:=rfl
  have e2:B=4294967296:=rfl
  have:=pw_pos 120
  rw [e,e2]; omega
section
variable {n w:Nat} {A:Mx} {T:List (List Nb)} {M:Int}
end
theorem place_eq (x:Int) {n:Int} (hn:0 < n) (hm:n≤1000000):sparsekit_Place x n=some (x % 18446744073709551616 % n)∧0≤x % 18446744073709551616 % n∧x % 18446744073709551616 % n < n:=by
  have h1:=Int.emod_nonneg (x % 18446744073709551616) (show n≠0 by omega)
  have h2:=Int.emod_lt_of_pos (x % 18446744073709551616) hn
  refine ⟨?_,h1,h2⟩
  unfold sparsekit_Place
  have e:wc .u64 n=n:=wc_u64_in ⟨by omega,by omega⟩
  have hwr:wr (x % 18446744073709551616) n=some (x % 18446744073709551616 % n):=by
    unfold wr
    rw [if_neg (by omega),Int.tmod_eq_emod_of_nonneg (by omega)]
  rw [e,wc_u64,hwr,obs,wc_i64_in ⟨by omega,by omega⟩]
def sqe (l:List Int) (n:Nat):Mx:=fun i j=>if n*i+j < l.length then l.getD (n*i+j) 0 % 18446744073709551616 % 201 - 100 else 0
theorem sqe_bd (l:List Int) (n i j:Nat):Bd 100 (sqe l n i j):=by
  unfold sqe
  split
  · have h1:=Int.emod_nonneg (l.getD (n*i+j) 0 % 18446744073709551616) (show (201:Int)≠0 by omega)
    have h2:=Int.emod_lt_of_pos (l.getD (n*i+j) 0 % 18446744073709551616) (show (0:Int) < 201 by omega)
    exact ⟨by omega,by omega⟩
  · exact ⟨by omega,by omega⟩
theorem num_ok {v:Int} (h0: -1000000≤v) (h1:v≤1000000):Ret (sparselaw08_num v) (fun r=>Bg v r.1 r.2):=by
  unfold sparselaw08_num
  rw [ret_bind]
  exact (fromR_bg (n:=v) (by omega) (by omega)).mono fun r hr=>⟨_,rfl,hr⟩
theorem square08_ok {l:List Int} (hl:l.length≤1000) {n:Nat} (hn:n≤16):Ret (sparselaw08_square l (n:Int)) (fun T=>Tg T n n (sqe l n)):=by
  unfold sparselaw08_square
  rw [ret_bind]
  refine (ret_loop (Post:=fun T:List (List Nb)=>Tg T n n (sqe l n)) n (fun k (s:List (List Nb)×Int)=>s.2=(k:Int)∧Tg s.1 k n (sqe l n)) ⟨rfl,rfl,fun c hc=>absurd hc (by omega)⟩ ?_ (by omega)).mono fun r hr=>⟨_,rfl,hr⟩
  rintro k ⟨o,_⟩ hk ⟨rfl,hI⟩
  simp only at hI
  unfold sparselaw08_square_l9
  simp only
  rw [ret_if]
  refine ⟨fun hlt=>?_,fun hge=>⟨_,rfl,by have e:k=n:=(by omega); subst e; exact hI⟩⟩
  have hkn:k < n:=by omega
  rw [ret_bind]
  refine (ret_loop (Post:=fun r:List Nb=>Lg r n (sqe l n k)) n (fun j (s:List Nb×Int)=>s.2=(j:Int)∧Lg s.1 j (sqe l n k)) ⟨rfl,rfl,fun c hc=>absurd hc (by omega)⟩ ?_ (by omega)).mono ?_
  · rintro j ⟨r,_⟩ hj ⟨rfl,hJ⟩
    simp only at hJ
    unfold sparselaw08_square_l12
    simp only
    rw [ret_if]
    refine ⟨fun hlt2=>?_,fun hge=>⟨_,rfl,by have e:j=n:=(by omega); subst e; exact hJ⟩⟩
    have hjn:j < n:=by omega
    have hnk:n*k≤16*16:=Nat.mul_le_mul hn (by omega)
    have hidx:wa .i64 (wm .i64 (n:Int) (k:Int)) (j:Int)=((n*k+j:Nat):Int):=by
      have e:(n:Int)*(k:Int)=((n*k:Nat):Int):=by push_cast; rfl
      rw [wm_i (by rw [e]; omega) (by rw [e]; omega),e,wa_i (by omega) (by omega)]; rfl
    have fin:∀ v:Int,v=sqe l n k j→Ret (sparselaw08_square_j13 r (j:Int) v) (VQ (fun s:List Nb×Int=>j < n∧s.2=((j+1:Nat):Int)∧Lg s.1 (j+1) (sqe l n k)) (fun r:List Nb=>Lg r n (sqe l n k))):=by
      rintro v rfl
      have hb:=sqe_bd l n k j
      unfold sparselaw08_square_j13
      rw [ret_bind]
      refine (num_ok (by have:=hb.1; omega) (by have:=hb.2; omega)).mono fun z hz=>?_
      rw [ret_bind,ret_app]
      exact ⟨by rw [hJ.1]; simp only [List.length_cons,List.length_nil]; omega,_,rfl,hjn,by show wa .i64 (j:Int) 1=_; rw [wa_i (by omega) (by omega)]; rfl,hJ.snoc (z:=(z.1,z.2)) hz⟩
    rw [hidx,ret_if]
    refine ⟨fun hin=>?_,fun hout=>fin 0 (by unfold sqe; rw [if_neg (by omega)])⟩
    have hlt3:n*k+j < l.length:=by omega
    obtain ⟨p1,p2,p3⟩:=place_eq (l.getD (n*k+j) 0) (n:=201) (by omega) (by omega)
    have hg:getI l ((n*k+j:Nat):Int)=some (l.getD (n*k+j) 0):=at_some (by rw [List.getD_eq_getElem?_getD,List.getElem?_eq_getElem hlt3]; rfl) rfl
    rw [hg,obs,p1,obs,ws_i (by omega) (by omega)]
    exact fin _ (by unfold sqe; rw [if_pos hlt3])
  · intro r hr
    rw [ret_bind,ret_app]
    exact ⟨by rw [hI.1]; simp only [List.length_cons,List.length_nil]; omega,_,rfl,hkn,by show wa .i64 (k:Int) 1=_; rw [wa_i (by omega) (by omega)]; rfl,hI.snoc hr⟩
def mb (n:Nat):Int:=2*(((4:Nat):Int)*100) ^ (n+2)
theorem sqe_okb {l:List Int} {n w:Nat} {A:Mx} (hn:n≤4) (hA:∀ i j,i < n→j < w→Bd 100 (A i j)):Okb n w A (mb n):=okb_of (K:=4) (M:=100) (by omega) (by omega) hn hA
end Km
namespace Km
open Sx Go M Vc Lm Dt
section
variable {n w:Nat} {A:Mx} {T:List (List Nb)} {M:Int}
end
end Km
namespace Km
open Sx Go M Vc Lm Dt
def Rw (K:Nat) (v:Int) (z:Nb):Prop:=LW z.2∧z.2.length≤K∧sv z.1 z.2=v
def Lr (K:Nat) (l:List Nb) (w:Nat) (f:Nat→Int):Prop:=l.length=w∧∀ c,c < w→∃ z,l[c]?=some z∧Rw K (f c) z
def Tr (K:Nat) (T:List (List Nb)) (n w:Nat) (A:Mx):Prop:=T.length=n∧∀ r,r < n→∃ l,T[r]?=some l∧Lr K l w (A r)
theorem Rw.bd {K:Nat} {v:Int} {z:Nb} (h:Rw K v z):Bd (pw K) v:=by
  obtain ⟨h1,h2,h3⟩:=h
  have a1:=lv_nn h1
  have a2:=lv_lt h1
  have a3:=pw_mono h2
  unfold sv at h3
  split at h3
  · exact ⟨by omega,by omega⟩
  · exact ⟨by omega,by omega⟩
theorem Bg.rw {K:Nat} {v:Int} {z:Nb} (h:Bg v z.1 z.2) (hl:z.2.length≤K):Rw K v z:=⟨h.1,hl,h.sv⟩
theorem Lg.lr {K:Nat} {l:List Nb} {w:Nat} {f:Nat→Int} {M:Int} (h:Lg l w f) (hb:∀ j,j < w→Bd M (f j)) (hM:M < pw K):Lr K l w f:=⟨h.1,fun c hc=>by
  obtain ⟨z,h1,h2⟩:=h.2 c hc
  exact ⟨z,h1,h2.rw (h2.lenB (hb c hc) hM)⟩⟩
theorem Tg.tr {K:Nat} {T:List (List Nb)} {n w:Nat} {A:Mx} {M:Int} (h:Tg T n w A) (hb:∀ i j,i < n→j < w→Bd M (A i j)) (hM:M < pw K):Tr K T n w A:=⟨h.1,fun r hr=>by
  obtain ⟨l,h1,h2⟩:=h.2 r hr
  exact ⟨l,h1,h2.lr (fun j hj=>hb r j hr hj) hM⟩⟩
theorem Lr.at {K:Nat} {l:List Nb} {w:Nat} {f:Nat→Int} (h:Lr K l w f) {c:Nat} (hc:c < w) {i:Int} (hi:i=(c:Int)):∃ z,getI l i=some z∧Rw K (f c) z:=by
  obtain ⟨z,h1,h2⟩:=h.2 c hc
  exact ⟨z,at_some h1 hi,h2⟩
theorem Tr.at {K:Nat} {T:List (List Nb)} {n w:Nat} {A:Mx} (h:Tr K T n w A) {r:Nat} (hr:r < n) {i:Int} (hi:i=(r:Int)):∃ l,getI T i=some l∧Lr K l w (A r):=by
  obtain ⟨l,h1,h2⟩:=h.2 r hr
  exact ⟨l,at_some h1 hi,h2⟩
def Sh (T:List (List Nb)) (n w:Nat):Prop:=T.length=n∧∀ r,r < n→∃ l,T[r]?=some l∧l.length=w
theorem Tr.sh {K:Nat} {T:List (List Nb)} {n w:Nat} {A:Mx} (h:Tr K T n w A):Sh T n w:=⟨h.1,fun r hr=>by
  obtain ⟨l,h1,h2⟩:=h.2 r hr
  exact ⟨l,h1,h2.1⟩⟩
theorem Sh.at {T:List (List Nb)} {n w:Nat} (h:Sh T n w) {r:Nat} (hr:r < n) {i:Int} (hi:i=(r:Int)):∃ l,getI T i=some l∧l.length=w:=by
  obtain ⟨l,h1,h2⟩:=h.2 r hr
  exact ⟨l,at_some h1 hi,h2⟩
section
variable {n w K:Nat} {A:Mx} {T:List (List Nb)}
theorem ycolumns_ok (hT:Sh T n w):exact_columns T=some (if n=0 then 0 else (w:Int)):=by
  unfold exact_columns
  by_cases h0:n=0
  · rw [if_pos (by rw [hT.1]; omega),if_pos h0]
  · rw [if_neg (by rw [hT.1]; omega),if_neg h0]
    obtain ⟨l,h1,h2⟩:=hT.at (r:=0) (by omega) (i:=0) rfl
    rw [h1,obs,h2]
theorem ycheck_ok (hT:Sh T n w) (hn:n≤16) (hw:w≤16):exact_check T=some 0:=by
  have hc:slices_ContainsFunc_apiBig T (if n=0 then 0 else (w:Int))=some false:=by
    refine Ret.eq ?_
    unfold slices_ContainsFunc_apiBig slices_IndexFunc_apiBig
    rw [ret_bind,ret_bind]
    refine (ret_loop (Post:=fun o=>o=.inl ()) n (fun k (i:Int)=>i=(k:Int)) rfl ?_ (by omega)).mono ?_
    · rintro k _ hk rfl
      unfold slices_IndexFunc_apiBig_l1
      rw [hT.1,ret_if]
      refine ⟨fun hlt=>?_,fun _=>⟨_,rfl,rfl⟩⟩
      obtain ⟨l,h1,h2⟩:=hT.at (r:=k) (by omega) (i:=(k:Int)) rfl
      unfold exact_check_1
      rw [h1,obs,obs,h2,if_neg (show ¬ n=0 by omega)]
      simp only [decide_true,Bool.not_true,Bool.false_eq_true,if_false]
      exact ⟨_,rfl,by omega,by show wa .i64 (k:Int) 1=_; rw [wa_i (by omega) (by omega)]; rfl⟩
    · rintro _ rfl
      exact ⟨_,rfl,_,rfl,rfl⟩
  unfold exact_check
  rw [ycolumns_ok hT,obs,hc,obs,if_neg (by simp),hT.1,if_neg]
  simp only [Bool.or_eq_true,decide_eq_true_eq,not_or]
  split<;>omega
theorem ysquare_ok (hT:Sh T n n) (hn:n≤16):exact_square T=some 0:=by
  unfold exact_square
  rw [ycheck_ok hT hn hn,obs,if_pos rfl,ycolumns_ok hT,obs,hT.1]
  have:(!(decide ((n:Int)=if n=0 then 0 else (n:Int))))=false:=by split<;>simp<;>omega
  rw [this,obs,if_neg (by simp)]
theorem normR_ok {v:Int} {z:Nb} (hz:Rw K v z) (hK:K≤400):Ret (integer_Norm z.1 z.2) (fun r=>Bg v r.1 r.2):=(normP_bg (s:=z.1) hz.1 (by have:=hz.2.1; omega)).mono fun r hr=>by rw [hz.2.2] at hr; exact hr
theorem yrowtwin_ok {row:List Nb} {f:Nat→Int} (hrow:Lr K row w f) (hK:K≤400) (hw:w≤1000):Ret (loop (exact_twin_l6 row) ([],0)) (fun o=>Lg o w f):=by
  refine ret_loop (Post:=fun o:List Nb=>Lg o w f) w (fun k (s:List Nb×Int)=>s.2=(k:Int)∧Lg s.1 k f) ⟨rfl,rfl,fun c hc=>absurd hc (by omega)⟩ ?_ (by omega)
  rintro k ⟨o,_⟩ hk ⟨rfl,hI⟩
  simp only at hI
  unfold exact_twin_l6
  simp only
  rw [hrow.1,ret_if]
  refine ⟨fun hlt=>?_,fun hge=>⟨_,rfl,by have e:k=w:=(by omega); subst e; exact hI⟩⟩
  have hkw:k < w:=by omega
  obtain ⟨z,h1,h2⟩:=hrow.at hkw (i:=(k:Int)) rfl
  rw [h1,obs,ret_bind]
  refine (normR_ok h2 hK).mono fun r hr=>?_
  rw [ret_bind,ret_app]
  refine ⟨by rw [hI.1]; simp only [List.length_cons,List.length_nil]; omega,_,rfl,hkw,by show wa .i64 (k:Int) 1=_; rw [wa_i (by omega) (by omega)]; rfl,hI.snoc (z:=(r.1,r.2)) hr⟩
theorem ytwin0_ok (hT:Tr K T n w A) (hK:K≤400) (hn:n≤1000) (hw:w≤1000):Ret (exact_twin T []) (fun o=>Tg o n w A):=by
  unfold exact_twin
  rw [ret_bind]
  refine (ret_loop (Post:=fun o:List (List Nb)=>Tg o n w A) n (fun k (s:List (List Nb)×Int)=>s.2=(k:Int)∧Tg s.1 k w A) ⟨rfl,rfl,fun c hc=>absurd hc (by omega)⟩ ?_ (by omega)).mono fun r hr=>⟨_,rfl,hr⟩
  rintro k ⟨o,_⟩ hk ⟨rfl,hI⟩
  simp only at hI
  unfold exact_twin_l5
  simp only
  rw [hT.1,ret_if]
  refine ⟨fun hlt=>?_,fun hge=>⟨_,rfl,by have e:k=n:=(by omega); subst e; exact hI⟩⟩
  have hkn:k < n:=by omega
  obtain ⟨row,h1,h2⟩:=hT.at hkn (i:=(k:Int)) rfl
  rw [h1,obs,ret_bind]
  refine (yrowtwin_ok h2 hK hw).mono fun r hr=>?_
  rw [if_neg (by simp)]
  unfold exact_twin_j7
  rw [ret_bind,ret_app]
  exact ⟨by rw [hI.1]; simp only [List.length_cons,List.length_nil]; omega,_,rfl,hkn,by show wa .i64 (k:Int) 1=_; rw [wa_i (by omega) (by omega)]; rfl,hI.snoc hr⟩
theorem Lg.zeros' (w:Nat):Lg (List.replicate w ((false,[]):Nb)) w (fun _=>0):=⟨List.length_replicate ..,fun c hc=>⟨(false,[]),by rw [List.getElem?_replicate,if_pos hc],bg_zero⟩⟩
end
end Km
namespace Km
open Sx Go M Vc Lm Dt
theorem if_ck {p q:Prop} [Decidable p] [Decidable q] {x y:Int} (h:p↔q):(if p then x else y)=if q then x else y:=by
  by_cases hp:p
  · rw [if_pos hp,if_pos (h.1 hp)]
  · rw [if_neg hp,if_neg (fun e=>hp (h.2 e))]
def addI (A:Mx) (c:Int):Mx:=fun i j=>A i j+if i=j then c else 0
def FL (n:Nat) (A:Mx) (c:Nat→Int):Nat→Mx
  | 0=>fun _ _=>0
  | k+1=>mul n A (addI (FL n A c k) (c k))
section
variable {n:Nat} {A B:Mx} {M:Int}
theorem pinner_ok {row:List Nb} {f:Nat→Int} {U:List (List Nb)} {w v j:Nat} (hM:M < pw 60) (hr:Lg row w f) (hU:Tg U w v B) (bf:∀ k,k < w→Bd M (f k)) (bB:∀ k,k < w→Bd M (B k j)) (hj:j < v) (hw:w≤900):Ret (loop (exact_product_v2_l13 row U (j:Int)) (false,[],0)) (fun r:Bool×List Int=>Bg (sm w fun k=>f k*B k j) r.1 r.2):=by
  refine ret_loop (Post:=fun r:Bool×List Int=>Bg (sm w fun k=>f k*B k j) r.1 r.2) w (fun k (s:Bool×List Int×Int)=>s.2.2=(k:Int)∧Bg (sm k fun k=>f k*B k j) s.1 s.2.1) ⟨rfl,bg_zero.cast (show (0:Int)=sm 0 (fun k=>f k*B k j) from rfl)⟩ ?_ (by omega)
  rintro k ⟨ys,yl,_⟩ hk ⟨rfl,hJ⟩
  simp only at hJ
  unfold exact_product_v2_l13
  simp only
  rw [hr.1,ret_if]
  refine ⟨fun hlt2=>?_,fun hge=>⟨_,rfl,by have e:k=w:=(by omega); subst e; exact hJ⟩⟩
  have hkw:k < w:=by omega
  have hM0:=(bf k hkw).nn
  obtain ⟨x,h3,h4⟩:=hr.at hkw (i:=(k:Int)) rfl
  obtain ⟨l,h5,h6⟩:=hU.at hkw (i:=(k:Int)) rfl
  obtain ⟨y,h7,h8⟩:=h6.at hj (i:=(j:Int)) rfl
  have lx:=h4.lenB (bf k hkw) hM
  have ly:=h8.lenB (bB k hkw) hM
  rw [h3,obs,h5,obs,h7,obs,ret_bind]
  refine (mul_bg (s:=x.1) (t:=y.1) h4.1 h8.1 (by omega) (by omega)).mono fun u hu=>?_
  rw [h4.sv,h8.sv] at hu
  have lu:=hu.lenB ((bf k hkw).mul (bB k hkw)) (prod_lt hM hM0)
  have ls:=hJ.lenB (sm_bd (Int.mul_nonneg hM0 hM0) fun q hq=>(bf q (by omega)).mul (bB q (by omega))) (sum_lt hM hM0 (by omega))
  rw [ret_bind]
  refine (add_bg (s:=ys) (t:=u.1) hJ.1 hu.1 (by omega) (by omega)).mono fun v hv=>?_
  rw [hJ.sv,hu.sv] at hv
  exact ⟨_,rfl,hkw,by show wa .i64 (k:Int) 1=_; rw [wa_i (by omega) (by omega)]; rfl,hv⟩
theorem yproduct2_ok (hM:M < pw 60) {T U:List (List Nb)} (hT:Tg T n n A) (hU:Tg U n n B) (bA:∀ i j,i < n→j < n→Bd M (A i j)) (bB:∀ i j,i < n→j < n→Bd M (B i j)) (hn:n≤900):Ret (exact_product_v2 T U) (fun r=>Tg r n n (mul n A B)):=by
  unfold exact_product_v2
  rw [ret_bind]
  refine (ret_loop (Post:=fun r:List (List Nb)=>Tg r n n (mul n A B)) n (fun j (s:List (List Nb)×Int)=>s.2=(j:Int)∧Tg s.1 j n (mul n A B)) ⟨rfl,rfl,fun c hc=>absurd hc (by omega)⟩ ?_ (by omega)).mono fun r hr=>⟨_,rfl,hr⟩
  rintro j ⟨o,_⟩ hj ⟨rfl,hI⟩
  simp only at hI
  unfold exact_product_v2_l9
  simp only
  rw [hT.1,ret_if]
  refine ⟨fun hlt=>?_,fun hge=>⟨_,rfl,by have e:j=n:=(by omega); subst e; exact hI⟩⟩
  have hjn:j < n:=by omega
  obtain ⟨row,h1,h2⟩:=hT.at hjn (i:=(j:Int)) rfl
  rw [h1,obs,ret_bind]
  have key:Ret (loop (exact_product_v2_l12 row U) ([],0)) (fun r:List Nb=>Lg r n (mul n A B j)):=by
    refine ret_loop (Post:=fun r:List Nb=>Lg r n (mul n A B j)) n (fun i (s:List Nb×Int)=>s.2=(i:Int)∧Lg s.1 i (mul n A B j)) ⟨rfl,rfl,fun c hc=>absurd hc (by omega)⟩ ?_ (by omega)
    rintro i ⟨r,_⟩ hi ⟨rfl,hJ⟩
    simp only at hJ
    unfold exact_product_v2_l12
    simp only
    rw [h2.1,ret_if]
    refine ⟨fun hlt2=>?_,fun hge=>⟨_,rfl,by have e:i=n:=(by omega); subst e; exact hJ⟩⟩
    have hin:i < n:=by omega
    rw [ret_bind]
    refine (pinner_ok hM h2 hU (fun k hk=>bA j k hjn hk) (fun k hk=>bB k i hk hin) hin hn).mono fun z hz=>?_
    rw [ret_bind,ret_app]
    exact ⟨by rw [hJ.1]; simp only [List.length_cons,List.length_nil]; omega,_,rfl,hin,by show wa .i64 (i:Int) 1=_; rw [wa_i (by omega) (by omega)]; rfl,hJ.snoc (z:=(z.1,z.2)) hz⟩
  refine key.mono fun r hr=>?_
  rw [ret_bind,ret_app]
  exact ⟨by rw [hI.1]; simp only [List.length_cons,List.length_nil]; omega,_,rfl,hjn,by show wa .i64 (j:Int) 1=_; rw [wa_i (by omega) (by omega)]; rfl,hI.snoc hr⟩
theorem cdiag_ok {k:Nat} {X:Mx} {c:Int} (hM:M < pw 60) {T D P:List (List Nb)} {p:List Nb} (hk1:1≤k) (hk:k≤n) (hn:n≤900) (hD:D.length=n) (hT:Tg T n n X) (hP:T.length=n) (bX:∀ i j,i < n→j < n→Bd M (X i j)) (bc:Bd M c) {w:Nat} (hpl:w=n) {q:Nb} (hq:getI p (wa .i64 (ws .i64 (w:Int) (k:Int)) 1)=some q) (hqc:Bg c q.1 q.2) {S:List (List Nb)} (hS:S.length=w):
    Ret (loop (exact_characteristic_l9 D p S (k:Int)) (T,0)) (fun r=>Tg r n n (addI X c)):=by
  subst hpl
  refine ret_loop (Post:=fun r:List (List Nb)=>Tg r w w (addI X c)) w (fun i (s:List (List Nb)×Int)=>s.2=(i:Int)∧Tg s.1 w w (fun r j=>X r j+if r=j∧r < i then c else 0)) ⟨rfl,hT.congr fun r j _ _=>by rw [if_neg (by omega),Int.add_zero]⟩ ?_ (by omega)
  rintro i ⟨t,_⟩ hi ⟨rfl,hI⟩
  simp only at hI
  unfold exact_characteristic_l9
  simp only
  rw [hD,ret_if]
  refine ⟨fun hlt=>?_,fun hge=>⟨_,rfl,hI.congr fun r j hr _=>by unfold addI; exact congrArg _ (if_ck ⟨fun h=>h.1,fun h=>⟨h,by omega⟩⟩)⟩⟩
  have hin:i < w:=by omega
  obtain ⟨row,h1,h2⟩:=hI.at hin (i:=(i:Int)) rfl
  obtain ⟨z,h3,h4⟩:=h2.at hin (i:=(i:Int)) rfl
  rw [if_neg (by omega),Int.add_zero] at h4
  have lz:=h4.lenB (bX i i hin hin) hM
  have lq:=hqc.lenB bc hM
  rw [h1,obs,obs,h3,obs,hS,hq,obs,ret_bind]
  refine (add_bg (s:=z.1) (t:=q.1) h4.1 hqc.1 (by omega) (by omega)).mono fun v hv=>?_
  rw [h4.sv,hqc.sv] at hv
  rw [set_some (by rw [h2.1]; exact hin) rfl,obs,set_some (by rw [hI.1]; exact hin) rfl,obs]
  refine ⟨_,rfl,hin,by show wa .i64 (i:Int) 1=_; rw [wa_i (by omega) (by omega)]; rfl,(hI.set hin (h2.set hin hv)).congr fun r j hr hj=>?_⟩
  by_cases e:r=i
  · subst e
    rw [up_in]
    by_cases e2:j=r
    · subst e2; rw [if_pos rfl,if_pos ⟨rfl,by omega⟩]
    · rw [if_neg e2,if_neg (by omega),if_neg (by omega)]
  · rw [up_out e]
    exact congrArg _ (if_ck ⟨fun h=>⟨h.1,by omega⟩,fun h=>⟨h.1,by omega⟩⟩)
theorem ctrace_ok {X:Mx} (hM:M < pw 60) {T:List (List Nb)} (hT:Tg T n n X) (bX:∀ i j,i < n→j < n→Bd M (X i j)) (hn:n≤900):Ret (loop (exact_characteristic_l10 T) (false,[],0)) (fun r:Bool×List Int=>Bg (sm n fun i=>X i i) r.1 r.2):=by
  refine ret_loop (Post:=fun r:Bool×List Int=>Bg (sm n fun i=>X i i) r.1 r.2) n (fun k (s:Bool×List Int×Int)=>s.2.2=(k:Int)∧Bg (sm k fun i=>X i i) s.1 s.2.1) ⟨rfl,bg_zero.cast (show (0:Int)=sm 0 (fun i=>X i i) from rfl)⟩ ?_ (by omega)
  rintro k ⟨ys,yl,_⟩ hk ⟨rfl,hJ⟩
  simp only at hJ
  unfold exact_characteristic_l10
  simp only
  rw [hT.1,ret_if]
  refine ⟨fun hlt2=>?_,fun hge=>⟨_,rfl,by have e:k=n:=(by omega); subst e; exact hJ⟩⟩
  have hkw:k < n:=by omega
  have hM0:=(bX k k hkw hkw).nn
  obtain ⟨l,h5,h6⟩:=hT.at hkw (i:=(k:Int)) rfl
  obtain ⟨y,h7,h8⟩:=h6.at hkw (i:=(k:Int)) rfl
  have ly:=h8.lenB (bX k k hkw hkw) hM
  have ls:=hJ.lenB (sm_bd hM0 fun q hq=>bX q q (by omega) (by omega)) (show (k:Int)*M < pw 61 by
    have h1:(k:Int)*M≤((1000:Nat):Int)*M:=nat_le_mul (by omega) hM0
    have h2:pw 61=B*pw 60:=rfl
    have h3:B=4294967296:=rfl
    rw [h3] at h2
    omega)
  rw [h5,obs,h7,obs,ret_bind]
  refine (add_bg (s:=ys) (t:=y.1) hJ.1 h8.1 (by omega) (by omega)).mono fun v hv=>?_
  rw [hJ.sv,h8.sv] at hv
  exact ⟨_,rfl,hkw,by show wa .i64 (k:Int) 1=_; rw [wa_i (by omega) (by omega)]; rfl,hv⟩
theorem char_ok {c:Nat→Int} (hM:M < pw 60) {T:List (List Nb)} (hT:Tg T n n A) (hn:n≤16) (bA:∀ i j,i < n→j < n→Bd M (A i j)) (bF:∀ k,k≤n→∀ i j,i < n→j < n→Bd M (FL n A c k i j)∧Bd M (addI (FL n A c k) (c k) i j)) (bc:∀ k,k≤n→Bd M (c k)) (h0:c 0=1) (hc:∀ k,1≤k→k≤n→sm n (fun i=>FL n A c k i i)=(k:Int)* - c k):
    Ret (exact_characteristic T) (fun P=>Lg P (n+1) (fun i=>c (n - i))):=by
  unfold exact_characteristic
  rw [hT.1,wa_i (by omega) (by omega),ret_bind,ret_mkL]
  refine ⟨by omega,by omega,?_⟩
  rw [show ((n:Int)+1).toNat=n+1 by omega,ret_bind]
  refine (from_bg (n:=1) (by omega) (by omega)).mono fun one hone=>?_
  rw [set_some (k:=n) (by rw [List.length_replicate]; omega) rfl,obs,ret_bind,ret_mkL]
  refine ⟨by omega,by omega,?_⟩
  rw [show ((n:Int)).toNat=n by omega,ret_bind]
  have hz:Ret (loop (exact_characteristic_l1 (List.replicate n ([]:List Nb)) T) (List.replicate n [],0)) (fun r=>Tg r n n (fun _ _=>0)):=by
    refine ret_loop (Post:=fun r:List (List Nb)=>Tg r n n (fun _ _=>0)) n (fun i (s:List (List Nb)×Int)=>s.2=(i:Int)∧s.1.length=n∧∀ r,r < i→r < n→∃ l,s.1[r]?=some l∧Lg l n (fun _=>0)) ⟨rfl,List.length_replicate ..,fun r hr=>absurd hr (by omega)⟩ ?_ (by omega)
    rintro i ⟨t,_⟩ hi ⟨rfl,hl,hI⟩
    simp only at hl hI
    unfold exact_characteristic_l1
    simp only
    rw [List.length_replicate,ret_if]
    refine ⟨fun hlt=>?_,fun hge=>⟨_,rfl,hl,fun r hr=>hI r (by omega) hr⟩⟩
    have hin:i < n:=by omega
    rw [hT.1,ret_bind,ret_mkL]
    refine ⟨by omega,by omega,?_⟩
    rw [show ((n:Int)).toNat=n by omega,set_some (by rw [hl]; exact hin) rfl,obs]
    refine ⟨_,rfl,hin,by show wa .i64 (i:Int) 1=_; rw [wa_i (by omega) (by omega)]; rfl,by rw [List.length_set]; exact hl,fun r hr hrn=>?_⟩
    by_cases e:r=i
    · subst e; exact ⟨_,by rw [List.getElem?_set_self]; rw [hl]; exact hin,Lg.zeros' n⟩
    · obtain ⟨l,g1,g2⟩:=hI r (by omega) hrn
      exact ⟨l,by rw [List.getElem?_set_ne (fun h=>e h.symm)]; exact g1,g2⟩
  refine hz.mono fun z hz=>?_
  rw [ret_bind]
  have hM0:0≤M:=(bc 0 (by omega)).nn
  refine (ret_loop (Post:=fun P:List Nb=>Lg P (n+1) (fun i=>c (n - i))) n (fun t (s:List Nb×List (List Nb)×Int)=>s.2.2=((t+1:Nat):Int)∧t≤n∧Lg s.1 (n+1) (fun i=>if n - i < t+1 then c (n - i) else 0)∧Tg s.2.1 n n (FL n A c t)) ⟨rfl,by omega,?_,hz⟩ ?_ (by omega)).mono fun r hr=>⟨_,rfl,hr⟩
  · refine ((Lg.zeros' (n+1)).set (c:=n) (by omega) (hone.cast h0.symm)).congr fun i hi=>?_
    by_cases e:i=n
    · subst e; rw [if_pos rfl,if_pos (by omega),Nat.sub_self]
    · rw [if_neg e,if_neg (by omega)]
  · rintro t ⟨P,F,_⟩ ht ⟨rfl,htn,hP,hF⟩
    simp only at hP hF
    unfold exact_characteristic_l8
    simp only
    rw [hT.1,ret_if]
    refine ⟨fun hle=>?_,fun hge=>⟨_,rfl,hP.congr fun i hi=>by rw [if_pos (by omega)]⟩⟩
    have htn1:t+1≤n:=by omega
    obtain ⟨q,q1,q2⟩:=hP.at (c:=n - t) (by omega) (i:=wa .i64 (ws .i64 (n:Int) ((t+1:Nat):Int)) 1) (by rw [ws_i (by omega) (by omega),wa_i (by omega) (by omega)]; omega)
    rw [if_pos (by omega),show n - (n - t)=t by omega] at q2
    rw [ret_bind]
    refine (cdiag_ok (k:=t+1) (X:=FL n A c t) (c:=c t) (D:=F) (P:=F) (S:=T) (w:=n) hM (by omega) htn1 (by omega) hF.1 hF hF.1 (fun i j hi hj=>(bF t htn i j hi hj).1) (bc t htn) rfl q1 q2 hT.1).mono fun G hG=>?_
    rw [ret_bind]
    refine (yproduct2_ok hM hT hG bA (fun i j hi hj=>(bF t htn i j hi hj).2) (by omega)).mono fun H hH=>?_
    have hH:Tg H n n (FL n A c (t+1)):=hH
    rw [ret_bind]
    refine (ctrace_ok hM hH (fun i j hi hj=>(bF (t+1) htn1 i j hi hj).1) (by omega)).mono fun tr htr=>?_
    rw [hc (t+1) (by omega) htn1] at htr
    rw [ret_bind]
    refine (from_bg (n:=((t+1:Nat):Int)) (by omega) (by omega)).mono fun kk hkk=>?_
    have bt:Bd (((t+1:Nat):Int)*M) (((t+1:Nat):Int)* - c (t+1)):=Bd.mul ⟨by omega,by omega⟩ (bc (t+1) htn1).neg
    have lt:tr.2.length≤61:=htr.lenB bt (by
      have h1:((t+1:Nat):Int)*M≤((1000:Nat):Int)*M:=nat_le_mul (by omega) hM0
      have h2:pw 61=B*pw 60:=rfl
      have h3:B=4294967296:=rfl
      rw [h3] at h2
      omega)
    have lk:kk.2.length≤1:=hkk.len (by rw [show pw 1=4294967296 from rfl]; omega) (by rw [show pw 1=4294967296 from rfl]; omega)
    rw [ret_bind]
    refine (quoP_bg (s:=tr.1) (t:=kk.1) htr.1 hkk.1 (by omega) (by omega) (by rw [hkk.sv]; omega) (h:=- c (t+1)) (by rw [htr.sv,hkk.sv])).mono fun qq hqq=>?_
    have lqq:=hqq.1.lenB (bc (t+1) htn1).neg hM
    rw [ret_bind]
    refine (negP_bg (s:=qq.1) hqq.1.1 (by omega)).mono fun ng hng=>?_
    rw [hqq.1.sv,Int.neg_neg] at hng
    rw [ws_i (by omega) (by omega),set_some (k:=n - (t+1)) (by rw [hP.1]; omega) (by omega),obs]
    refine ⟨_,rfl,by omega,by show wa .i64 ((t+1:Nat):Int) 1=_; rw [wa_i (by omega) (by omega)]; rfl,htn1,(hP.set (by omega) (hng.cast (show c (t+1)=c (n - (n - (t+1))) by rw [show n - (n - (t+1))=t+1 by omega]))).congr fun i hi=>?_,hH⟩
    by_cases e:i=n - (t+1)
    · subst e; rw [if_pos rfl,if_pos (by omega)]
    · rw [if_neg e]; exact if_ck ⟨fun h=>by omega,fun h=>by omega⟩
end
end Km
namespace Km
open Sx Go M Vc Lm Dt
def Pd (n:Nat) (A:Mx):Prop:=∀ i j,n≤i∨n≤j→A i j=0
def pad (n:Nat) (A:Mx):Mx:=fun i j=>if i < n∧j < n then A i j else 0
theorem pad_pd (n:Nat) (A:Mx):Pd n (pad n A):=fun i j h=>if_neg (by omega)
theorem pad_in {n:Nat} {A:Mx} {i j:Nat} (hi:i < n) (hj:j < n):pad n A i j=A i j:=if_pos ⟨hi,hj⟩
theorem sm_pad {n m:Nat} (h:n≤m) {f:Nat→Int} (hf:∀ i,n≤i→f i=0):sm m f=sm n f:=by
  induction m with
  | zero=>
    have:n=0:=by omega
    subst this; rfl
  | succ m ih=>
    by_cases e:n=m+1
    · subst e; rfl
    · have h1:=ih (by omega)
      show sm m f+f m=_
      rw [h1,hf m (by omega),Int.add_zero]
theorem pt_pad {n:Nat} (hn:n≤4) {A:Mx} (hA:Pd n A):∀ k i j,pt 4 A k i j=pt n A k i j
  | 0=>fun i j=>rfl
  | k+1=>fun i j=>by
    show sm 4 (fun l=>A i l*pt 4 A k l j)=sm n fun l=>A i l*pt n A k l j
    rw [sm_pad hn fun l hl=>by rw [hA i l (Or.inr hl),Int.zero_mul]]
    exact sm_congr fun l _=>by rw [pt_pad hn hA k]
theorem pt_zero {n:Nat} {A:Mx} (hA:Pd n A):∀ k i j,n≤i→pt n A k i j=0
  | 0=>fun i j h=>hA i j (Or.inl h)
  | k+1=>fun i j h=>sm_zero fun l _=>by rw [hA i l (Or.inl h),Int.zero_mul]
theorem pw4_pad {n:Nat} (hn:n≤4) {A:Mx} (hA:Pd n A) (k:Nat):pw4 A k=sm n fun i=>pt n A k i i:=by
  show sm 4 (fun i=>pt 4 A k i i)=_
  have:sm 4 (fun i=>pt 4 A k i i)=sm 4 (fun i=>pt n A k i i):=sm_congr fun i _=>pt_pad hn hA k i i
  rw [this]
  exact sm_pad hn fun i hi=>pt_zero hA k i i hi
theorem FL_eq {n:Nat} {A:Mx} {c:Nat→Int}:∀ k i j,i < n→j < n→FL n A c (k+1) i j=sm (k+1) fun m=>c m*pt n A (k - m) i j:=by
  have st:∀ k i j,j < n→FL n A c (k+1) i j=sm n (fun l=>A i l*FL n A c k l j)+c k*A i j:=fun k i j hj=>by
    show sm n (fun l=>A i l*(FL n A c k l j+if l=j then c k else 0))=_
    have:sm n (fun l=>A i l*(FL n A c k l j+if l=j then c k else 0))=sm n (fun l=>A i l*FL n A c k l j+if l=j then A i l*c k else 0):=sm_congr fun l _=>by
      split
      · grind
      · rw [Int.add_zero,Int.add_zero]
    rw [this,sm_add,sm_one (f:=fun l=>A i l*c k) hj,Int.mul_comm (c k)]
  intro k
  induction k with
  | zero=>
    intro i j hi hj
    rw [st 0 i j hj]
    have:sm n (fun l=>A i l*FL n A c 0 l j)=0:=sm_zero fun l _=>Int.mul_zero _
    rw [this]
    show 0+c 0*A i j=0+c 0*A i j
    rfl
  | succ k ih=>
    intro i j hi hj
    rw [st (k+1) i j hj]
    have e1:sm n (fun l=>A i l*FL n A c (k+1) l j)=sm n fun l=>sm (k+1) fun m=>c m*(A i l*pt n A (k - m) l j):=sm_congr fun l hl=>by
      rw [ih l j hl hj,← sm_mul]
      exact sm_congr fun m _=>by grind
    rw [e1,sm_swap]
    have e2:sm (k+1) (fun m=>sm n fun l=>c m*(A i l*pt n A (k - m) l j))=sm (k+1) fun m=>c m*pt n A (k+1 - m) i j:=sm_congr fun m hm=>by
      rw [sm_mul,show k+1 - m=(k - m)+1 by omega]; rfl
    rw [e2]
    show _=sm (k+1) (fun m=>c m*pt n A (k+1 - m) i j)+c (k+1)*pt n A (k+1 - (k+1)) i j
    rw [Nat.sub_self]; rfl
theorem FL_tr {n:Nat} (hn:n≤4) {A:Mx} (hA:Pd n A) {c:Nat→Int} (k:Nat):sm n (fun i=>FL n A c (k+1) i i)=sm (k+1) fun m=>c m*pw4 A (k - m):=by
  have e:sm n (fun i=>FL n A c (k+1) i i)=sm n fun i=>sm (k+1) fun m=>c m*pt n A (k - m) i i:=sm_congr fun i hi=>FL_eq k i i hi hi
  rw [e,sm_swap]
  exact sm_congr fun m _=>by rw [sm_mul,pw4_pad hn hA]
def cf (e1 e2 e3 e4:Int):Nat→Int
  | 0=>1
  | 1=>-e1
  | 2=>e2
  | 3=>-e3
  | 4=>e4
  | _=>0
theorem cf_newton {n:Nat} (hn:n≤4) {A:Mx} (hA:Pd n A) {e1 e2 e3 e4:Int} (h:Es A e1 e2 e3 e4):∀ k,1≤k→k≤4→sm n (fun i=>FL n A (cf e1 e2 e3 e4) k i i)=(k:Int)* - cf e1 e2 e3 e4 k:=by
  intro k h1 h4
  obtain ⟨a1,a2,a3,a4⟩:=h
  have e:=fun k=>FL_tr hn hA (c:=cf e1 e2 e3 e4) k
  match k,h1,h4 with
  | 1,_,_=>
    rw [e 0]
    show 0+1*pw4 A 0=((1:Nat):Int)* - -e1
    omega
  | 2,_,_=>
    rw [e 1]
    show 0+1*pw4 A 1+ -e1*pw4 A 0=((2:Nat):Int)* -e2
    rw [Int.neg_mul]; omega
  | 3,_,_=>
    rw [e 2]
    show 0+1*pw4 A 2+ -e1*pw4 A 1+e2*pw4 A 0=((3:Nat):Int)* - -e3
    rw [Int.neg_mul]; omega
  | 4,_,_=>
    rw [e 3]
    show 0+1*pw4 A 3+ -e1*pw4 A 2+e2*pw4 A 1+ -e3*pw4 A 0=((4:Nat):Int)* -e4
    rw [Int.neg_mul,Int.neg_mul]; omega
theorem FL_bd {n:Nat} (hn:n≤4) {A:Mx} {c:Nat→Int} {X:Int} (hX:1≤X) (bA:∀ i j,i < n→j < n→Bd X (A i j)) (h0:c 0=1) (hc:∀ k,1≤k→k≤n→sm n (fun i=>FL n A c k i i)=(k:Int)* - c k):∀ k,k≤n→(∀ i j,i < n→j < n→Bd ((20*X) ^ k) (FL n A c k i j))∧Bd (4*(20*X) ^ k) (c k):=by
  intro k
  induction k with
  | zero=>
    intro _
    exact ⟨fun i j _ _=>⟨by rw [Int.pow_zero]; show -1≤(0:Int); omega,by rw [Int.pow_zero]; show (0:Int)≤1; omega⟩,by rw [h0,Int.pow_zero]; exact ⟨by omega,by omega⟩⟩
  | succ k ih=>
    intro hk
    obtain ⟨i1,i2⟩:=ih (by omega)
    have hY:0≤(20*X) ^ k:=pow_nn (by omega) k
    have step:∀ i j,i < n→j < n→Bd ((20*X) ^ (k+1)) (FL n A c (k+1) i j):=fun i j hi hj=>by
      have hb:∀ l,l < n→Bd (X*(5*(20*X) ^ k)) (A i l*addI (FL n A c k) (c k) l j):=fun l hl=>(bA i l hi hl).mul (by
        have h1:=(i1 l j hl hj).add i2
        unfold addI
        split
        · exact h1.mono (by omega)
        · rw [Int.add_zero]; exact (i1 l j hl hj).mono (by omega))
      have h2:0≤X*(5*(20*X) ^ k):=Int.mul_nonneg (by omega) (by omega)
      have h3:=sm_bd h2 hb
      have h4:(n:Int)*(X*(5*(20*X) ^ k))≤((4:Nat):Int)*(X*(5*(20*X) ^ k)):=nat_le_mul hn h2
      have h5:((4:Nat):Int)*(X*(5*(20*X) ^ k))=(20*X) ^ (k+1):=by rw [Int.pow_succ]; grind
      rw [h5] at h4
      exact h3.mono h4
    refine ⟨step,?_⟩
    have h1:=sm_bd (pow_nn (show 0≤20*X by omega) (k+1)) fun i (hi:i < n)=>step i i hi hi
    rw [hc (k+1) (by omega) hk] at h1
    have h2:(n:Int)*(20*X) ^ (k+1)≤((4:Nat):Int)*(20*X) ^ (k+1):=nat_le_mul hn (pow_nn (by omega) _)
    have h3:=h1.mono h2
    generalize (20*X) ^ (k+1)=Z at*
    generalize c (k+1)=v at*
    have hk1:(1:Int)≤((k+1:Nat):Int):=by omega
    generalize ((k+1:Nat):Int)=q at*
    obtain ⟨g1,g2⟩:=h3
    rcases Int.le_total 0 v with hv | hv
    · have:v≤q*v:=by have:=Int.mul_le_mul_of_nonneg_right hk1 hv; omega
      rw [Int.mul_neg] at g1 g2
      exact ⟨by omega,by omega⟩
    · have: -v≤q* -v:=by have:=Int.mul_le_mul_of_nonneg_right hk1 (show 0≤ -v by omega); omega
      exact ⟨by omega,by omega⟩
theorem char4_ok {n:Nat} (hn:n≤4) {A:Mx} (hA:Pd n A) {T:List (List Nb)} (hT:Tg T n n A) (bA:∀ i j,i < n→j < n→Bd (pw 4) (A i j)) {e1 e2 e3 e4:Int} (h:Es A e1 e2 e3 e4):Ret (exact_characteristic T) (fun P=>Lg P (n+1) (fun i=>cf e1 e2 e3 e4 (n - i))∧∀ i,i < n+1→Bd (pw 59) (cf e1 e2 e3 e4 (n - i))):=by
  have hN:=cf_newton hn hA h
  have hX:(1:Int)≤pw 4:=by have:=pw_pos 4; omega
  have hb:=FL_bd hn hX bA (c:=cf e1 e2 e3 e4) rfl fun k h1 h2=>hN k h1 (by omega)
  have hm:∀ k,k≤4→(20*pw 4) ^ k≤(20*pw 4) ^ 4:=fun k hk=>pow_mono (by omega) hk
  have hM:5*(20*pw 4) ^ 4≤pw 59:=by
    have h1:5*(20*pw 4) ^ 4 < pw 20:=by decide
    have h2:pw 20≤pw 59:=pw_mono (by omega)
    omega
  have hM2:pw 59 < pw 60:=by
    have h2:pw 60=B*pw 59:=rfl
    have h3:B=4294967296:=rfl
    have:=pw_pos 59
    rw [h3] at h2
    omega
  have hX4:pw 4≤pw 59:=pw_mono (by omega)
  have hY:0≤(20*pw 4) ^ 4:=pow_nn (by omega) 4
  have bc:∀ k,k≤n→Bd (pw 59) (cf e1 e2 e3 e4 k):=fun k hk=>(hb k hk).2.mono (by have:=hm k (by omega); omega)
  exact (char_ok hM2 hT (by omega) (fun i j hi hj=>(bA i j hi hj).mono hX4) (fun k hk i j hi hj=>by
    have h1:=(hb k hk).1 i j hi hj
    have h2:=(hb k hk).2
    have h3:=hm k (by omega)
    refine ⟨h1.mono (by omega),?_⟩
    unfold addI
    split
    · exact (h1.add h2).mono (by omega)
    · rw [Int.add_zero]; exact h1.mono (by omega)) bc rfl fun k h1 h2=>hN k h1 (by omega)).mono fun P hP=>⟨hP,fun i hi=>bc _ (by omega)⟩
end Km
namespace Km
open Sx Go M Vc Lm Dt
def Inr (n:Nat) (A:Mx) (neg zer pos:Nat):Prop:=neg+zer+pos=n∧∃ L d m,Rep A L d m∧pos=cnt d 1∧zer+4=n+cnt d 0
theorem rep_same {A L L':Mx} {d d':Nat→Int} {m m':Int} (hA:∀ i j,i < 4→j < 4→A i j=A j i) (h:Rep A L d m) (h':Rep A L' d' m'):cnt d 1=cnt d' 1∧cnt d 0=cnt d' 0:=by
  have hE:=sym_Es hA
  have h1:=h.main hE
  have h2:=h'.main hE
  exact ⟨h1.1.symm.trans h2.1,h1.2.symm.trans h2.2⟩
theorem Inr.uniq {n:Nat} {A:Mx} {a b c a' b' c':Nat} (hA:∀ i j,i < 4→j < 4→A i j=A j i) (h:Inr n A a b c) (h':Inr n A a' b' c'):a=a'∧b=b'∧c=c':=by
  obtain ⟨h1,L,d,m,h2,h3,h4⟩:=h
  obtain ⟨g1,L',d',m',g2,g3,g4⟩:=h'
  obtain ⟨e1,e2⟩:=rep_same hA h2 g2
  omega
theorem lead_t {e1 e2 e3 e4:Int} {t:Nat} (ht:t≤4) (h1:∀ k,t < k→k≤4→cf e1 e2 e3 e4 k=0) (h2:1≤t→cf e1 e2 e3 e4 t≠0):lead (sgz e1) (sgz e2) (sgz e3) (sgz e4)=4 - t:=by
  have z:∀ {x:Int},x=0→sgz x=0:=fun h=>sgz_zero.2 h
  have nz:∀ {x:Int},x≠0→¬ sgz x=0:=fun h e=>h (sgz_zero.1 e)
  unfold lead
  match t,ht with
  | 0,_=>
    have a1: -e1=0:=h1 1 (by omega) (by omega)
    have a2:e2=0:=h1 2 (by omega) (by omega)
    have a3: -e3=0:=h1 3 (by omega) (by omega)
    have a4:e4=0:=h1 4 (by omega) (by omega)
    rw [if_pos (z a4),if_pos (z (by omega)),if_pos (z a2),if_pos (z (by omega))]
  | 1,_=>
    have a1: -e1≠0:=h2 (by omega)
    have a2:e2=0:=h1 2 (by omega) (by omega)
    have a3: -e3=0:=h1 3 (by omega) (by omega)
    have a4:e4=0:=h1 4 (by omega) (by omega)
    rw [if_pos (z a4),if_pos (z (by omega)),if_pos (z a2),if_neg (nz (by omega))]
  | 2,_=>
    have a2:e2≠0:=h2 (by omega)
    have a3: -e3=0:=h1 3 (by omega) (by omega)
    have a4:e4=0:=h1 4 (by omega) (by omega)
    rw [if_pos (z a4),if_pos (z (by omega)),if_neg (nz a2)]
  | 3,_=>
    have a3: -e3≠0:=h2 (by omega)
    have a4:e4=0:=h1 4 (by omega) (by omega)
    rw [if_pos (z a4),if_neg (nz (by omega))]
  | 4,_=>
    have a4:e4≠0:=h2 (by omega)
    rw [if_neg (nz a4)]
theorem vch_eq {e1 e2 e3 e4:Int} {n:Nat} (hn:n≤4) (hz:∀ k,n < k→k≤4→cf e1 e2 e3 e4 k=0):vch ((List.range (n+1)).map fun i=>sgz (cf e1 e2 e3 e4 (n - i)))=vch [sgz e4,- sgz e3,sgz e2,- sgz e1,1]:=by
  have s1:sgz 1=1:=by decide
  have s0:sgz 0=0:=by decide
  have v0:∀ l,List.foldl vst (0,0) (0::l)=List.foldl vst (0,0) l:=fun l=>rfl
  have v1:∀ l,List.foldl vst (0,0) (-0::l)=List.foldl vst (0,0) l:=fun l=>rfl
  match n,hn with
  | 0,_=>
    have a1: -e1=0:=hz 1 (by omega) (by omega)
    have a2:e2=0:=hz 2 (by omega) (by omega)
    have a3: -e3=0:=hz 3 (by omega) (by omega)
    have a4:e4=0:=hz 4 (by omega) (by omega)
    show vch [sgz 1]=_
    rw [show e1=0 by omega,a2,show e3=0 by omega,a4,s0,s1]
    unfold vch
    rw [v0,v1,v0,v1]
  | 1,_=>
    have a2:e2=0:=hz 2 (by omega) (by omega)
    have a3: -e3=0:=hz 3 (by omega) (by omega)
    have a4:e4=0:=hz 4 (by omega) (by omega)
    show vch [sgz (-e1),sgz 1]=_
    rw [a2,show e3=0 by omega,a4,s0,s1,sgz_minus]
    unfold vch
    rw [v0,v1,v0]
  | 2,_=>
    have a3: -e3=0:=hz 3 (by omega) (by omega)
    have a4:e4=0:=hz 4 (by omega) (by omega)
    show vch [sgz e2,sgz (-e1),sgz 1]=_
    rw [show e3=0 by omega,a4,s0,s1,sgz_minus]
    unfold vch
    rw [v0,v1]
  | 3,_=>
    have a4:e4=0:=hz 4 (by omega) (by omega)
    show vch [sgz (-e3),sgz e2,sgz (-e1),sgz 1]=_
    rw [a4,s0,s1,sgz_minus,sgz_minus]
    unfold vch
    rw [v0]
  | 4,_=>
    show vch [sgz e4,sgz (-e3),sgz e2,sgz (-e1),sgz 1]=_
    rw [s1,sgz_minus,sgz_minus]
theorem sym_pad {n:Nat} (hn:n≤4) {A:Mx} (hA:∀ i j,i < 4→j < 4→A i j=A j i) (hP:Pd n A):∃ e1 e2 e3 e4,Es A e1 e2 e3 e4∧∀ k,n < k→k≤4→cf e1 e2 e3 e4 k=0:=by
  refine ⟨_,_,_,_,sym_Es hA,fun k hk h4=>?_⟩
  have z:=fun i j h=>hP i j h
  match k,h4 with
  | 0,_=>omega
  | 1,_=>
    show - u1 _ _ _ _ _ _ _ _ _ _=0
    rw [z 0 0 (by omega),z 1 1 (by omega),z 2 2 (by omega),z 3 3 (by omega)]
    simp [u1,t1,t2,t3,q3]
  | 2,_=>
    show u2 _ _ _ _ _ _ _ _ _ _=0
    rw [z 1 1 (by omega),z 2 2 (by omega),z 3 3 (by omega),z 0 1 (by omega),z 0 2 (by omega),z 0 3 (by omega),z 2 3 (by omega),z 1 3 (by omega),z 1 2 (by omega)]
    simp [u2,t1,t2,t3,q3]
  | 3,_=>
    show - u3 _ _ _ _ _ _ _ _ _ _=0
    rw [z 2 2 (by omega),z 3 3 (by omega),z 0 2 (by omega),z 0 3 (by omega),z 2 3 (by omega),z 1 3 (by omega),z 1 2 (by omega)]
    simp [u3,t1,t2,t3,q3]
  | 4,_=>
    show u4 _ _ _ _ _ _ _ _ _ _=0
    rw [z 3 3 (by omega),z 0 3 (by omega),z 2 3 (by omega),z 1 3 (by omega)]
    simp [u4,t1,t2,t3,q3]
section
variable {n:Nat} {M:Int} {P:List Nb} {g:Nat→Int} {T:List (List Nb)}
theorem izeros_ok (hM:M < pw 60) (hP:Lg P (n+1) g) (bg:∀ i,i < n+1→Bd M (g i)) (hT:T.length=n) (hn:n≤900):Ret (loop (exact_Inertia_l6 T P) 0) (fun z=>∃ m:Nat,z=(m:Int)∧m≤n∧(∀ i,i < m→g i=0)∧(m < n→g m≠0)):=by
  refine ret_loop (Post:=fun z=>∃ m:Nat,z=(m:Int)∧m≤n∧(∀ i,i < m→g i=0)∧(m < n→g m≠0)) n (fun k (s:Int)=>s=(k:Int)∧k≤n∧∀ i,i < k→g i=0) ⟨rfl,by omega,fun i hi=>absurd hi (by omega)⟩ ?_ (by omega)
  rintro k _ hk ⟨rfl,hkn,hI⟩
  unfold exact_Inertia_l6
  rw [hT,ret_bind,ret_if]
  refine ⟨fun hlt=>?_,fun hge=>?_⟩
  · obtain ⟨z,h1,h2⟩:=hP.at (c:=k) (by omega) (i:=(k:Int)) rfl
    have lz:=h2.lenB (bg k (by omega)) hM
    rw [h1,obs,sign_bg h2.1 (by omega),obs,h2.sv,ret_some]
    have e:(if g k < 0 then (-1:Int) else if 0 < g k then 1 else 0)=sgz (g k):=rfl
    rw [e]
    by_cases hz:g k=0
    · rw [sgz_zero.2 hz,decide_eq_true rfl,if_pos rfl]
      refine ⟨_,rfl,by omega,by show wa .i64 (k:Int) 1=_; rw [wa_i (by omega) (by omega)]; rfl,by omega,fun i hi=>?_⟩
      by_cases e2:i=k
      · subst e2; exact hz
      · exact hI i (by omega)
    · rw [decide_eq_false (fun h=>hz (sgz_zero.1 h)),if_neg (by decide)]
      exact ⟨_,rfl,k,rfl,hkn,hI,fun _=>hz⟩
  · rw [ret_some,if_neg (by decide)]
    exact ⟨_,rfl,k,rfl,hkn,hI,fun h=>absurd h (by omega)⟩
theorem isigns_ok (hM:M < pw 60) (hP:Lg P (n+1) g) (bg:∀ i,i < n+1→Bd M (g i)) (hn:n≤900):Ret (loop (exact_Inertia_l11 P) (0,0,0)) (fun z=>z=((vch ((List.range (n+1)).map fun i=>sgz (g i)):Nat):Int)∧vch ((List.range (n+1)).map fun i=>sgz (g i))≤n+1):=by
  refine ret_loop (Post:=fun z=>z=((vch ((List.range (n+1)).map fun i=>sgz (g i)):Nat):Int)∧vch ((List.range (n+1)).map fun i=>sgz (g i))≤n+1) (n+1) (fun k (s:Int×Int×Int)=>s.2.2=(k:Int)∧k≤n+1∧s.2.1=(((List.range k).map fun i=>sgz (g i)).foldl vst (0,0)).1∧s.1=(((((List.range k).map fun i=>sgz (g i)).foldl vst (0,0)).2:Nat):Int)∧(s.2.1= -1∨s.2.1=0∨s.2.1=1)∧(((List.range k).map fun i=>sgz (g i)).foldl vst (0,0)).2≤k) ⟨rfl,by omega,rfl,rfl,Or.inr (Or.inl rfl),Nat.le_refl 0⟩ ?_ (by omega)
  rintro k ⟨_,a,_⟩ hk ⟨rfl,hkn,ha,rfl,ha1,hle⟩
  simp only at ha ha1
  unfold exact_Inertia_l11
  simp only
  rw [hP.1,ret_if]
  refine ⟨fun hlt=>?_,fun hge=>⟨_,rfl,by have e:k=n+1:=(by omega); subst e; exact ⟨rfl,hle⟩⟩⟩
  obtain ⟨z,h1,h2⟩:=hP.at (c:=k) (by omega) (i:=(k:Int)) rfl
  have lz:=h2.lenB (bg k (by omega)) hM
  rw [h1,obs,sign_bg h2.1 (by omega),obs,h2.sv]
  have e:(if g k < 0 then (-1:Int) else if 0 < g k then 1 else 0)=sgz (g k):=rfl
  rw [e]
  have hs:=sgz_cases (g k)
  have ef:((List.range (k+1)).map fun i=>sgz (g i)).foldl vst (0,0)=vst (((List.range k).map fun i=>sgz (g i)).foldl vst (0,0)) (sgz (g k)):=by
    rw [List.range_succ,List.map_append,List.foldl_append]; rfl
  generalize hst:((List.range k).map fun i=>sgz (g i)).foldl vst (0,0)=st at*
  generalize sgz (g k)=s at*
  subst ha
  have hmul:wm .i64 s st.1=s*st.1:=by
    rcases hs with rfl | rfl | rfl<;>rcases ha1 with h | h | h<;>rw [h]<;>exact wm_i (by decide) (by decide)
  have hw:wa .i64 (st.2:Int) 1=((st.2+1:Nat):Int):=by rw [wa_i (by omega) (by omega)]; rfl
  have hw2:wa .i64 (k:Int) 1=((k+1:Nat):Int):=by rw [wa_i (by omega) (by omega)]; rfl
  have fin:∀ x:Int,x=(((vst st s).2:Nat):Int)→Ret (exact_Inertia_j12 s (k:Int) st.1 x) (VQ (fun t:Int×Int×Int=>k < n+1∧t.2.2=((k+1:Nat):Int)∧k+1≤n+1∧t.2.1=(((List.range (k+1)).map fun i=>sgz (g i)).foldl vst (0,0)).1∧t.1=(((((List.range (k+1)).map fun i=>sgz (g i)).foldl vst (0,0)).2:Nat):Int)∧(t.2.1= -1∨t.2.1=0∨t.2.1=1)∧(((List.range (k+1)).map fun i=>sgz (g i)).foldl vst (0,0)).2≤k+1) (fun z:Int=>z=((vch ((List.range (n+1)).map fun i=>sgz (g i)):Nat):Int)∧vch ((List.range (n+1)).map fun i=>sgz (g i))≤n+1)):=fun x hx=>by
    have h2le:(vst st s).2≤k+1:=by unfold vst; simp only; split<;>omega
    unfold exact_Inertia_j12 exact_Inertia_j13
    rw [ef,hw2,ret_if]
    refine ⟨fun h0=>⟨_,rfl,by omega,rfl,by omega,?_,hx,ha1,h2le⟩,fun h0=>⟨_,rfl,by omega,rfl,by omega,?_,hx,hs,h2le⟩⟩
    · show st.1=(vst st s).1
      unfold vst; simp only; rw [if_pos h0]
    · show s=(vst st s).1
      unfold vst; simp only; rw [if_neg h0]
  rw [hmul,ret_if]
  refine ⟨fun h=>?_,fun h=>?_⟩
  · exact fin _ (by rw [hw]; unfold vst; simp only; rw [if_pos h])
  · exact fin _ (by unfold vst; simp only; rw [if_neg h])
def symn (n:Nat) (A:Mx):Prop:=∀ i j,i < n→j < n→A i j=A j i
theorem isym_ok {A:Mx} {K:Nat} (hT:Tr K T n n A) (hK:K≤400) (hn:n≤900):Ret (loop (exact_Inertia_l3 T) 0) (fun o:Unit⊕Unit=>(o=.inl ()∧symn n A)∨(o=.inr ()∧¬ symn n A)):=by
  refine ret_loop (Post:=fun o:Unit⊕Unit=>(o=.inl ()∧symn n A)∨(o=.inr ()∧¬ symn n A)) n (fun k (s:Int)=>s=(k:Int)∧k≤n∧∀ i j,i < k→j < n→A i j=A j i) ⟨rfl,by omega,fun i j hi=>absurd hi (by omega)⟩ ?_ (by omega)
  rintro k _ hk ⟨rfl,hkn,hI⟩
  unfold exact_Inertia_l3
  rw [hT.1,ret_if]
  refine ⟨fun hlt=>?_,fun hge=>⟨_,rfl,Or.inl ⟨rfl,fun i j hi hj=>hI i j (by omega) hj⟩⟩⟩
  have hkn1:k < n:=by omega
  obtain ⟨row,h1,h2⟩:=hT.at hkn1 (i:=(k:Int)) rfl
  rw [h1,obs,ret_bind]
  have hin:Ret (loop (exact_Inertia_l15 row T (k:Int)) 0) (fun o:Unit⊕Unit=>(o=.inl ()∧∀ j,j < n→A k j=A j k)∨(o=.inr ()∧∃ j,j < n∧A k j≠A j k)):=by
    refine ret_loop (Post:=fun o:Unit⊕Unit=>(o=.inl ()∧∀ j,j < n→A k j=A j k)∨(o=.inr ()∧∃ j,j < n∧A k j≠A j k)) n (fun j (s:Int)=>s=(j:Int)∧j≤n∧∀ q,q < j→A k q=A q k) ⟨rfl,by omega,fun q hq=>absurd hq (by omega)⟩ ?_ (by omega)
    rintro j _ hj ⟨rfl,hjn,hJ⟩
    unfold exact_Inertia_l15
    rw [h2.1,ret_if]
    refine ⟨fun hlt=>?_,fun hge=>⟨_,rfl,Or.inl ⟨rfl,fun q hq=>hJ q (by omega)⟩⟩⟩
    have hjn1:j < n:=by omega
    obtain ⟨x,h3,h4⟩:=h2.at hjn1 (i:=(j:Int)) rfl
    obtain ⟨rj,h5,h6⟩:=hT.at hjn1 (i:=(j:Int)) rfl
    obtain ⟨y,h7,h8⟩:=h6.at hkn1 (i:=(k:Int)) rfl
    rw [h3,obs,h5,obs,h7,obs,cmp_bg h4.1 h8.1 (by have:=h4.2.1; omega) (by have:=h8.2.1; omega),obs,h4.2.2,h8.2.2,ret_if]
    refine ⟨fun h=>?_,fun h=>?_⟩
    · have e:A k j=A j k:=by
        by_cases h1:A k j < A j k
        · rw [if_pos h1] at h; omega
        · rw [if_neg h1] at h
          by_cases h2:A j k < A k j
          · rw [if_pos h2] at h; omega
          · omega
      refine ⟨_,rfl,hjn1,by show wa .i64 (j:Int) 1=_; rw [wa_i (by omega) (by omega)]; rfl,by omega,fun q hq=>?_⟩
      by_cases e2:q=j
      · subst e2; exact e
      · exact hJ q (by omega)
    · refine ⟨_,rfl,Or.inr ⟨rfl,j,hjn1,fun e=>h ?_⟩⟩
      rw [e,if_neg (by omega),if_neg (by omega)]
  refine hin.mono fun o ho=>?_
  rcases ho with ⟨rfl,ho⟩ | ⟨rfl,j,hj,ho⟩
  · refine ⟨_,rfl,hkn1,by show wa .i64 (k:Int) 1=_; rw [wa_i (by omega) (by omega)]; rfl,by omega,fun i j hi hj=>?_⟩
    by_cases e:i=k
    · subst e; exact ho j hj
    · exact hI i j (by omega) hj
  · exact ⟨_,rfl,Or.inr ⟨rfl,fun h=>ho (h k j hkn1 hj)⟩⟩
theorem xinertia_ok {A:Mx} (hn:n≤4) (hT:Tr 4 T n n A):Ret (exact_Inertia T) (fun r=>(¬ symn n A∧r=(0,0,0,80))∨(symn n A∧∃ a b c:Nat,r=((a:Int),(b:Int),(c:Int),0)∧Inr n (pad n A) a b c)):=by
  unfold exact_Inertia
  rw [ysquare_ok hT.sh (by omega),obs,if_pos rfl,ret_bind]
  refine (isym_ok hT (by omega) (by omega)).mono fun o ho=>?_
  rcases ho with ⟨rfl,hs⟩ | ⟨rfl,hs⟩
  · simp only
    rw [ret_bind]
    refine (ytwin0_ok hT (by omega) (by omega) (by omega)).mono fun U hU=>?_
    have hUp:Tg U n n (pad n A):=hU.congr fun i j hi hj=>(pad_in hi hj).symm
    have hsym:∀ i j,i < 4→j < 4→pad n A i j=pad n A j i:=fun i j _ _=>by
      unfold pad
      by_cases h:i < n∧j < n
      · rw [if_pos h,if_pos ⟨h.2,h.1⟩]; exact hs i j h.1 h.2
      · rw [if_neg h,if_neg (fun e=>h ⟨e.2,e.1⟩)]
    obtain ⟨e1,e2,e3,e4,hE,hz⟩:=sym_pad hn hsym (pad_pd n A)
    rw [ret_bind]
    refine (char4_ok hn (pad_pd n A) hUp (fun i j hi hj=>by
      obtain ⟨l,g1,g2⟩:=hT.2 i hi
      obtain ⟨z,g3,g4⟩:=g2.2 j hj
      rw [pad_in hi hj]; exact g4.bd) hE).mono fun P hP=>?_
    obtain ⟨hP,bP⟩:=hP
    have hM2:pw 59 < pw 60:=by
      have h2:pw 60=B*pw 59:=rfl
      have h3:B=4294967296:=rfl
      have:=pw_pos 59
      rw [h3] at h2
      omega
    rw [ret_bind]
    refine (izeros_ok hM2 hP bP hT.1 (by omega)).mono fun z hzz=>?_
    obtain ⟨m,rfl,hm,hm1,hm2⟩:=hzz
    rw [ret_bind]
    refine (isigns_ok hM2 hP bP (by omega)).mono fun p hp=>?_
    obtain ⟨rfl,hple⟩:=hp
    rw [vch_eq hn hz] at*
    have hl:lead (sgz e1) (sgz e2) (sgz e3) (sgz e4)=4 - (n - m):=lead_t (by omega) (fun k hk h4=>by
      by_cases h:n < k
      · exact hz k h h4
      · have:=hm1 (n - k) (by omega)
        rw [show n - (n - k)=k by omega] at this; exact this) fun h=>hm2 (by omega)
    obtain ⟨L,d,mm,hR⟩:=rep_ex hsym
    have hmain:=hR.main hE
    have hc1:vch [sgz e4,- sgz e3,sgz e2,- sgz e1,1]=cnt d 1:=hmain.1
    have hc0:lead (sgz e1) (sgz e2) (sgz e3) (sgz e4)=cnt d 0:=hmain.2
    have hle:cnt d 1+cnt d 0≤4:=by
      unfold cnt one3
      have s:=fun i=>sgz_cases (d i)
      have h0:=s 0
      have h1:=s 1
      have h2:=s 2
      have h3:=s 3
      repeat' split
      all_goals omega
    rw [hc1,hT.1]
    refine ⟨_,rfl,Or.inr ⟨hs,n - m - cnt d 1,m,cnt d 1,?_,by omega,L,d,mm,hR,rfl,by omega⟩⟩
    rw [ws_i (x:=(n:Int)) (y:=(m:Int)) (by omega) (by omega),ws_i (by omega) (by omega)]
    rw [show ((n - m - cnt d 1:Nat):Int)=(n:Int) - (m:Int) - (cnt d 1:Int) by omega]
  · simp only
    exact ⟨_,rfl,Or.inl ⟨hs,rfl⟩⟩
end
end Km
namespace Sf
open Sx Go M Vc
theorem wa1 {x:Int} (h:x+1≤9223372036854775807∧0≤x:=by omega):wa .i64 x 1=x+1:=wa_i (by omega) (by omega)
theorem getI_lt {l:List Int} {k:Nat} (h:k < l.length):getI l (k:Int)=some l[k]:=Km.at_some (List.getElem?_eq_getElem h) rfl
theorem bindS {α β:Type} {m:Option α} {x:α} (h:m=some x) {f:α→Option β}:m.bind f=f x:=by rw [h,obs]
theorem place_ok (x:Int) (m:Nat) (h0:0 < m) (h1:m < 1000000):∃ z:Nat,sparsekit_Place x (m:Int)=some (z:Int)∧z < m:=by
  obtain ⟨a,b,c⟩:=Km.place_eq x (n:=(m:Int)) (by omega) (by omega)
  exact ⟨(x % 18446744073709551616 % (m:Int)).toNat,by rw [a]; congr 1; omega,by omega⟩
structure Pm (l:List Int) (n:Nat):Prop where
  len:l.length=n
  nd:l.Nodup
  rng:∀ x,x∈l→0≤x∧x < (n:Int)
theorem shuf_step {out left:List Int} {n k:Nat} {at':Nat} (h1:out.length=k) (h2:left.length+k=n) (hnd:(out++left).Nodup) (hr:∀ x,x∈out++left→0≤x∧x < (n:Int)) (hat:at' < left.length):
    (out++[left[at']]).length=k+1∧(left.take at'++left.drop (at'+1)).length+(k+1)=n∧((out++[left[at']])++(left.take at'++left.drop (at'+1))).Nodup∧∀ x,x∈(out++[left[at']])++(left.take at'++left.drop (at'+1))→0≤x∧x < (n:Int):=by
  have hp:((out++[left[at']])++(left.take at'++left.drop (at'+1))).Perm (out++left):=by
    rw [List.append_assoc]
    refine List.Perm.append_left _ ?_
    have h3:left=left.take at'++left[at']::left.drop (at'+1):=by
      rw [List.getElem_cons_drop]; exact (List.take_append_drop at' left).symm
    conv=>rhs; rw [h3]
    show (left[at']::(left.take at'++left.drop (at'+1))).Perm (left.take at'++left[at']::left.drop (at'+1))
    exact List.perm_middle.symm
  refine ⟨by simp [h1],by simp; omega,hp.nodup_iff.2 hnd,fun x hx=>hr x (hp.mem_iff.1 hx)⟩
theorem shuf_first {n:Nat} (hn:n≤1000):Ret (loop (sparsekit_Shuffle_l1 (n:Int)) ([],0)) (fun left=>left=(List.range n).map Int.ofNat):=by
  refine ret_loop n (fun k (t:List Int×Int)=>t.2=k∧t.1=(List.range k).map Int.ofNat) ⟨rfl,rfl⟩ ?_
  rintro k ⟨t,i⟩ hk ⟨rfl,rfl⟩
  unfold sparsekit_Shuffle_l1
  by_cases hkn:k < n
  · have hw:wa .i64 (k:Int) 1=((k+1:Nat):Int):=wa1
    have e5:(k:Int) < (n:Int):=by omega
    simp only [vcC,Bool.false_eq_true,reduceCtorEq,e5,hw]
    exact ⟨by rw [List.length_map,List.length_range,List.length_singleton]; omega,hkn,trivial,by rw [List.range_succ,List.map_append]; rfl⟩
  · have e5:¬ (k:Int) < (n:Int):=by omega
    have:k=n:=by omega
    subst this
    simp only [vcC,Bool.false_eq_true,reduceCtorEq,e5]
def ShI (n k:Nat) (t:List Int×List Int×Int):Prop:=t.2.2=(k:Int)∧t.2.1.length=k∧t.1.length+k=n∧(t.2.1++t.1).Nodup∧∀ x,x∈t.2.1++t.1→0≤x∧x < (n:Int)
theorem shuf_key {out left:List Int} {n k:Nat} (hn:n≤1000) (h:ShI n k (left,out,(k:Int))) {at':Nat} (hat:at' < left.length) (P:List Int→Prop):Ret (sparsekit_Shuffle_j5 left out (k:Int) (at':Int)) (VQ (fun t'=>k < n∧ShI n (k+1) t') P):=by
  obtain ⟨_,h1,h2,h3,h4⟩:=h
  simp only at h1 h2 h3 h4
  have e6:getI left (at':Int)=some left[at']:=getI_lt hat
  have e7:wa .i64 (at':Int) 1=((at'+1:Nat):Int):=wa1
  have hw:wa .i64 (k:Int) 1=((k+1:Nat):Int):=wa1
  obtain ⟨s1,s2,s3,s4⟩:=shuf_step h1 h2 h3 h4 hat
  have hz:(0:Int).toNat=0:=rfl
  unfold sparsekit_Shuffle_j5
  simp only [ret_bind,ret_app,ret_sli,ret_some,vq_l,e6,e7,hw,hz,Int.toNat_natCast,List.drop_zero,List.take_length]
  refine ⟨by rw [h1,List.length_singleton]; omega,by omega,by omega,by omega,by omega,by omega,by omega,?_,by omega,rfl,s1,s2,s3,s4⟩
  rw [List.length_take,List.length_drop]; omega
theorem shuf_loop (l:List Int) {n:Nat} (hn:n≤1000):Ret (loop (sparsekit_Shuffle_l4 (n:Int) l) ((List.range n).map Int.ofNat,[],0)) (fun o=>Pm o n):=by
  refine ret_loop n (ShI n) ⟨rfl,rfl,by simp,?_,fun x hx=>?_⟩ ?_
  · rw [List.nil_append,List.nodup_iff_pairwise_ne,List.pairwise_map]
    refine List.Pairwise.imp ?_ (List.nodup_range (n:=n))
    intro a b hab hc; exact hab (Int.ofNat.inj hc)
  · simp at hx; obtain ⟨a,h1,h2⟩:=hx; omega
  · rintro k ⟨left,out,i⟩ hk h
    have hi:i=(k:Int):=h.1
    subst hi
    have h2:left.length+k=n:=h.2.2.1
    unfold sparsekit_Shuffle_l4
    by_cases hkn:k < n
    · have e5:(k:Int) < (n:Int):=by omega
      simp only [ret_if,e5,true_implies,not_true_eq_false,false_implies,and_true]
      refine ⟨fun hl=>?_,fun _=>shuf_key (at':=0) hn h (by omega) _⟩
      have hkl:k < l.length:=by omega
      rw [bindS (getI_lt hkl),ret_bind]
      obtain ⟨z,p1,p2⟩:=place_ok l[k] left.length (by omega) (by omega)
      rw [ret_of p1]
      exact shuf_key hn h p2 _
    · have e5:¬ (k:Int) < (n:Int):=by omega
      have hl0:left=[]:=List.eq_nil_of_length_eq_zero (by omega)
      subst hl0
      simp only [ret_if,e5,false_implies,not_false_eq_true,true_implies,true_and,ret_some,vq_r]
      obtain ⟨_,h1,_,h3,h4⟩:=h
      simp only [List.append_nil] at h1 h3 h4
      exact ⟨by omega,h3,h4⟩
theorem shuffle_ok (l:List Int) {n:Nat} (hn:n≤1000):Ret (sparsekit_Shuffle l (n:Int)) (fun o=>Pm o n):=by
  unfold sparsekit_Shuffle
  rw [ret_bind]
  refine ret_call (shuf_first hn) ?_
  rintro _ rfl
  rw [ret_bind]
  exact ret_call (shuf_loop l hn) (fun o ho=>by rw [ret_some]; exact ho)
end Sf
namespace Km
open Sx Go M Vc Lm Dt
theorem Inr.cg {n:Nat} {A A':Mx} {a b c:Nat} (h:Inr n A a b c) (e:∀ x y,x < 4→y < 4→A' x y=A x y):Inr n A' a b c:=by
  obtain ⟨h1,L,d,m,h2,h3⟩:=h
  exact ⟨h1,L,d,m,⟨h2.det,h2.pos,fun x y hx hy=>by rw [e x y hx hy]; exact h2.eq x y hx hy⟩,h3⟩
theorem Inr.cong {n:Nat} {A A' E:Mx} {a b c:Nat} (h:Inr n A a b c) (hE:Dt.det 4 E≠0) (hA:∀ x y,x < 4→y < 4→A' x y=sm 4 fun r=>E r x*sm 4 fun s=>A r s*E s y):Inr n A' a b c:=by
  obtain ⟨h1,L,d,m,h2,h3⟩:=h
  exact ⟨h1,_,d,m,h2.cong hE hA,h3⟩
theorem cntAll (d:Nat→Int):cnt d 1+cnt d 0+cnt d (-1)=4:=by
  unfold cnt one3
  have h0:=sgz_cases (d 0)
  have h1:=sgz_cases (d 1)
  have h2:=sgz_cases (d 2)
  have h3:=sgz_cases (d 3)
  rcases h0 with h0 | h0 | h0<;>rcases h1 with h1 | h1 | h1<;>rcases h2 with h2 | h2 | h2<;>rcases h3 with h3 | h3 | h3<;>rw [h0,h1,h2,h3]<;>decide
theorem Inr.neg {n:Nat} {A:Mx} {a b c:Nat} (h:Inr n A a b c):Inr n (fun i j=>-1*A i j) c b a:=by
  obtain ⟨h1,L,d,m,h2,h3,h4⟩:=h
  have hc:=cntAll d
  have e1:cnt (fun i=>- d i) 1=cnt d (-1):=one3_neg _ _ _ _
  have e2:cnt (fun i=>- d i) (-1)=cnt d 1:=by
    have:=one3_neg (- d 0) (- d 1) (- d 2) (- d 3)
    rw [Int.neg_neg,Int.neg_neg,Int.neg_neg,Int.neg_neg] at this
    exact this.symm
  have e3:=cntAll fun i=>- d i
  exact ⟨by omega,L,_,m,h2.neg,by omega,by omega⟩
theorem perm_det {o:Nat→Nat} (h1:∀ x,x < 4→o x < 4) (hi:∀ x y,x < 4→y < 4→o x=o y→x=y):Dt.det 4 (fun r x=>if r=o x then (1:Int) else 0)≠0:=by
  intro h
  have e:Dt.det 4 (mul 4 (tp fun r x=>if r=o x then (1:Int) else 0) fun r x=>if r=o x then (1:Int) else 0)=Dt.det 4 one:=det_congr fun x y hx hy=>by
    show sm 4 (fun r=>(if r=o x then (1:Int) else 0)*if r=o y then (1:Int) else 0)=one x y
    have:sm 4 (fun r=>(if r=o x then (1:Int) else 0)*if r=o y then (1:Int) else 0)=sm 4 (fun r=>if r=o x then (if r=o y then (1:Int) else 0) else 0):=sm_congr fun r _=>by
      by_cases h:r=o x
      · rw [if_pos h,if_pos h,Int.one_mul]
      · rw [if_neg h,if_neg h,Int.zero_mul]
    rw [this,sm_one (f:=fun r=>if r=o y then (1:Int) else 0) (h1 x hx)]
    unfold one
    exact if_ck ⟨fun h=>hi x y hx hy h,fun h=>by rw [h]⟩
  rw [det_mul,h,Int.mul_zero,det_one] at e
  omega
theorem Inr.perm {n:Nat} {A A':Mx} {a b c:Nat} (h:Inr n A a b c) {o:Nat→Nat} (h1:∀ x,x < 4→o x < 4) (hi:∀ x y,x < 4→y < 4→o x=o y→x=y) (e:∀ x y,x < 4→y < 4→A' x y=A (o x) (o y)):Inr n A' a b c:=
  h.cong (perm_det h1 hi) fun x y hx hy=>by
    have i1:∀ r,sm 4 (fun s=>A r s*if s=o y then (1:Int) else 0)=A r (o y):=fun r=>by
      have:sm 4 (fun s=>A r s*if s=o y then (1:Int) else 0)=sm 4 (fun s=>if s=o y then A r s else 0):=sm_congr fun s _=>by split; rw [Int.mul_one]; rw [Int.mul_zero]
      rw [this,sm_one (f:=fun s=>A r s) (h1 y hy)]
    have i2:sm 4 (fun r=>(if r=o x then (1:Int) else 0)*sm 4 fun s=>A r s*if s=o y then (1:Int) else 0)=sm 4 (fun r=>if r=o x then A r (o y) else 0):=sm_congr fun r _=>by
      rw [i1]; split; rw [Int.one_mul]; rw [Int.zero_mul]
    rw [e x y hx hy,i2,sm_one (f:=fun r=>A r (o y)) (h1 x hx)]
theorem Inr.shear {n:Nat} {A A':Mx} {a b c:Nat} (h:Inr n A a b c) {i j:Nat} (hi:i < 4) (hj:j < 4) (hij:i≠j) {k:Int} (e:∀ x y,x < 4→y < 4→A' x y=(A x y+if y=i then k*A x j else 0)+if x=i then k*(A j y+if y=i then k*A j j else 0) else 0):Inr n A' a b c:=by
  have hE:Dt.det 4 (up one j fun c=>Dt.unit j c+if c=i then k else 0)≠0:=by
    rw [det_row (S:=fun _=>true) (fun q _ _ c _=>by unfold one Dt.unit; exact if_ck ⟨fun h=>h.symm,fun h=>h.symm⟩) hj rfl fun c _ hc=>absurd rfl hc,det_one,if_neg (fun h=>hij h.symm)]
    unfold Dt.unit
    rw [if_pos rfl]; omega
  have hv:∀ r y,y < 4→up one j (fun c=>Dt.unit j c+if c=i then k else 0) r y=(if r=y then (1:Int) else 0)+if r=j then (if y=i then k else 0) else 0:=fun r y _=>by
    by_cases h:r=j
    · subst h
      rw [up_in,if_pos rfl]
      congr 1
      unfold Dt.unit
      exact if_ck ⟨fun h=>h.symm,fun h=>h.symm⟩
    · rw [up_out h,if_neg h,Int.add_zero]; rfl
  refine h.cong hE fun x y hx hy=>?_
  have i1:∀ r,sm 4 (fun s=>A r s*up one j (fun c=>Dt.unit j c+if c=i then k else 0) s y)=A r y+if y=i then k*A r j else 0:=fun r=>by
    have:sm 4 (fun s=>A r s*up one j (fun c=>Dt.unit j c+if c=i then k else 0) s y)=sm 4 (fun s=>(if s=y then A r s else 0)+if s=j then (if y=i then k*A r s else 0) else 0):=sm_congr fun s _=>by
      rw [hv s y hy,Int.mul_add]
      congr 1
      · split; rw [Int.mul_one]; rw [Int.mul_zero]
      · split
        · split; rw [Int.mul_comm]; rw [Int.mul_zero]
        · rw [Int.mul_zero]
    rw [this,sm_add,sm_one (f:=fun s=>A r s) hy,sm_one (f:=fun s=>if y=i then k*A r s else 0) hj]
  have i2:sm 4 (fun r=>up one j (fun c=>Dt.unit j c+if c=i then k else 0) r x*sm 4 fun s=>A r s*up one j (fun c=>Dt.unit j c+if c=i then k else 0) s y)=sm 4 (fun r=>(if r=x then (A r y+if y=i then k*A r j else 0) else 0)+if r=j then (if x=i then k*(A r y+if y=i then k*A r j else 0) else 0) else 0):=sm_congr fun r _=>by
    rw [i1,hv r x hx,Int.add_mul]
    congr 1
    · split; rw [Int.one_mul]; rw [Int.zero_mul]
    · split
      · split; rfl; rw [Int.zero_mul]
      · rw [Int.zero_mul]
  rw [e x y hx hy,i2,sm_add,sm_one (f:=fun r=>A r y+if y=i then k*A r j else 0) hx,sm_one (f:=fun r=>if x=i then k*(A r y+if y=i then k*A r j else 0) else 0) hj]
end Km
namespace Km
open Sx Go M Vc Lm Dt
theorem awake08s:sparselaw08_awake=some true:=by kernel_rfl
def evn (l:List Int) (n:Nat):Mx:=fun i j=>if j < i then sqe l n j i else sqe l n i j
theorem evn_sym (l:List Int) (n:Nat) (i j:Nat):evn l n i j=evn l n j i:=by
  unfold evn
  rcases Nat.lt_trichotomy i j with h | h | h
  · rw [if_neg (by omega),if_pos h]
  · subst h; rfl
  · rw [if_pos h,if_neg (by omega)]
theorem evn_bd (l:List Int) (n i j:Nat):Bd 100 (evn l n i j):=by
  unfold evn
  split
  · exact sqe_bd ..
  · exact sqe_bd ..
theorem even_ok {l:List Int} (hl:l.length≤1000) {n:Nat} (hn:n≤16):Ret (sparselaw08_even l (n:Int)) (fun T=>Tg T n n (evn l n)):=by
  unfold sparselaw08_even
  rw [ret_bind]
  refine (square08_ok hl hn).mono fun T hT=>?_
  rw [ret_bind]
  refine (ret_loop (Post:=fun T=>Tg T n n (evn l n)) n (fun i (s:List (List Nb)×Int)=>s.2=(i:Int)∧i≤n∧Tg s.1 n n (fun r c=>if c < r∧r < i then sqe l n c r else sqe l n r c)) ⟨rfl,by omega,hT.congr fun r c _ _=>by rw [if_neg (by omega)]⟩ ?_ (by omega)).mono fun r hr=>⟨_,rfl,hr⟩
  rintro i ⟨U,_⟩ hi ⟨rfl,hin,hU⟩
  simp only at hU
  unfold sparselaw08_even_l3
  simp only
  rw [ret_if]
  refine ⟨fun hlt=>?_,fun hge=>⟨_,rfl,hU.congr fun r c hr _=>by unfold evn; exact if_ck ⟨fun h=>h.1,fun h=>⟨h,by omega⟩⟩⟩⟩
  have hi1:i < n:=by omega
  rw [ret_bind]
  refine (ret_loop (Post:=fun T=>Tg T n n (fun r c=>if c < r∧r < i+1 then sqe l n c r else sqe l n r c)) i (fun j (s:List (List Nb)×Int)=>s.2=(j:Int)∧j≤i∧Tg s.1 n n (fun r c=>if c < r∧(r < i∨r=i∧c < j) then sqe l n c r else sqe l n r c)) ⟨rfl,by omega,hU.congr fun r c _ _=>if_ck ⟨fun h=>⟨h.1,Or.inl h.2⟩,fun h=>⟨h.1,by omega⟩⟩⟩ ?_ (by omega)).mono fun V hV=>⟨_,rfl,hi1,by show wa .i64 (i:Int) 1=_; rw [wa_i (by omega) (by omega)]; rfl,by omega,hV⟩
  rintro j ⟨V,_⟩ hj ⟨rfl,hji,hV⟩
  simp only at hV
  unfold sparselaw08_even_l4
  simp only
  rw [ret_if]
  refine ⟨fun hlt=>?_,fun hge=>⟨_,rfl,hV.congr fun r c hr hc=>if_ck ⟨fun h=>⟨h.1,by omega⟩,fun h=>⟨h.1,by omega⟩⟩⟩⟩
  have hj1:j < n:=by omega
  obtain ⟨ri,g1,g2⟩:=hV.at hi1 (i:=(i:Int)) rfl
  obtain ⟨rj,g3,g4⟩:=hV.at hj1 (i:=(j:Int)) rfl
  obtain ⟨z,g5,g6⟩:=g4.at hi1 (i:=(i:Int)) rfl
  rw [if_neg (by omega)] at g6
  rw [g1,obs,g3,obs,g5,obs,set_some (by rw [g2.1]; exact hj1) rfl,obs,set_some (by rw [hV.1]; exact hi1) rfl,obs]
  refine ⟨_,rfl,by omega,by show wa .i64 (j:Int) 1=_; rw [wa_i (by omega) (by omega)]; rfl,by omega,(hV.set hi1 (g2.set hj1 (z:=(z.1,z.2)) g6)).congr fun r c hr hc=>?_⟩
  by_cases e:r=i
  · subst e
    rw [up_in]
    by_cases e2:c=j
    · subst e2; rw [if_pos rfl,if_pos ⟨by omega,Or.inr ⟨rfl,by omega⟩⟩]
    · rw [if_neg e2]; exact if_ck ⟨fun h=>⟨h.1,by omega⟩,fun h=>⟨h.1,by omega⟩⟩
  · rw [up_out e]; exact if_ck ⟨fun h=>⟨h.1,by omega⟩,fun h=>⟨h.1,by omega⟩⟩
theorem Inr.inert {n:Nat} {T:List (List Nb)} {A:Mx} {M:Int} (hn:n≤4) (hM:M < pw 4) (hT:Tg T n n A) (bA:∀ i j,i < n→j < n→Bd M (A i j)) (hs:symn n A) {a b c:Nat} (hI:Inr n (pad n A) a b c):exact_Inertia T=some ((a:Int),(b:Int),(c:Int),0):=by
  obtain ⟨r,h1,h2⟩:=xinertia_ok hn (hT.tr bA hM)
  have hsym:∀ i j,i < 4→j < 4→pad n A i j=pad n A j i:=fun i j _ _=>by
    unfold pad
    by_cases h:i < n∧j < n
    · rw [if_pos h,if_pos ⟨h.2,h.1⟩]; exact hs i j h.1 h.2
    · rw [if_neg h,if_neg (fun e=>h ⟨e.2,e.1⟩)]
  rcases h2 with ⟨h2,_⟩ | ⟨_,a',b',c',rfl,hI'⟩
  · exact absurd hs h2
  · obtain ⟨rfl,rfl,rfl⟩:=hI.uniq hsym hI'
    exact h1
theorem inert_ex {n:Nat} {T:List (List Nb)} {A:Mx} {M:Int} (hn:n≤4) (hM:M < pw 4) (hT:Tg T n n A) (bA:∀ i j,i < n→j < n→Bd M (A i j)) (hs:symn n A):∃ a b c,Inr n (pad n A) a b c:=by
  obtain ⟨r,h1,h2⟩:=xinertia_ok hn (hT.tr bA hM)
  rcases h2 with ⟨h2,_⟩ | ⟨_,a',b',c',rfl,hI'⟩
  · exact absurd hs h2
  · exact ⟨a',b',c',hI'⟩
section
variable {n:Nat} {T:List (List Nb)} {A:Mx} {o:List Int}
def oN (o:List Int) (x:Nat):Nat:=(o.getD x 0).toNat
theorem oN_at (h:Sf.Pm o n) {x:Nat} (hx:x < n):getI o (x:Int)=some ((oN o x:Nat):Int)∧oN o x < n:=by
  have hlt:x < o.length:=by rw [h.len]; exact hx
  have hg:o[x]?=some o[x]:=List.getElem?_eq_getElem hlt
  have hr:=h.rng _ (List.getElem_mem hlt)
  have e:o.getD x 0=o[x]:=by rw [List.getD_eq_getElem?_getD,hg]; rfl
  unfold oN
  rw [e]
  refine ⟨?_,by omega⟩
  rw [at_some hg rfl]
  congr 1; omega
theorem oN_inj (h:Sf.Pm o n) {x y:Nat} (hx:x < n) (hy:y < n) (e:oN o x=oN o y):x=y:=by
  have e1:=(oN_at h hx).1
  have e2:=(oN_at h hy).1
  have hx':x < o.length:=by rw [h.len]; exact hx
  have hy':y < o.length:=by rw [h.len]; exact hy
  rw [at_some (List.getElem?_eq_getElem hx') rfl] at e1
  rw [at_some (List.getElem?_eq_getElem hy') rfl] at e2
  have h1:=sInj e1
  have h2:=sInj e2
  have hp:=List.pairwise_iff_getElem.1 h.nd
  rcases Nat.lt_trichotomy x y with h3 | h3 | h3
  · exact absurd (by rw [h1,h2,e]) (hp x y hx' hy' h3)
  · exact h3
  · exact absurd (by rw [h1,h2,e]) (hp y x hy' hx' h3)
theorem moved_ok {m:Nat} (hmn:n=m+1) (hn:n≤900) (hT:Tg T n n A) (bA:∀ i j,i < n→j < n→Bd 100 (A i j)) (ho:Sf.Pm o n):Ret (loop (sparselaw08_ExactSylvester_l3 (m:Int) o T) ([],[],0)) (fun r=>Tg r.1 n n (fun x y=>A (oN o x) (oN o y))∧Tg r.2 n n (fun x y=>-1*A x y)):=by
  have hw1:wa .i64 1 (m:Int)=(n:Int):=by rw [wa_i (by omega) (by omega)]; omega
  refine ret_loop (Post:=fun r:List (List Nb)×List (List Nb)=>Tg r.1 n n (fun x y=>A (oN o x) (oN o y))∧Tg r.2 n n (fun x y=>-1*A x y)) n (fun x (s:List (List Nb)×List (List Nb)×Int)=>s.2.2=(x:Int)∧Tg s.1 x n (fun x y=>A (oN o x) (oN o y))∧Tg s.2.1 x n (fun x y=>-1*A x y)) ⟨rfl,⟨rfl,fun c hc=>absurd hc (by omega)⟩,rfl,fun c hc=>absurd hc (by omega)⟩ ?_ (by omega)
  rintro x ⟨U,V,_⟩ hx ⟨rfl,hU,hV⟩
  simp only at hU hV
  unfold sparselaw08_ExactSylvester_l3
  simp only
  rw [hw1,ret_if]
  refine ⟨fun hlt=>?_,fun hge=>⟨_,rfl,by have e:x=n:=(by omega); subst e; exact ⟨hU,hV⟩⟩⟩
  have hx1:x < n:=by omega
  obtain ⟨ox1,ox2⟩:=oN_at ho hx1
  obtain ⟨rx,g1,g2⟩:=hT.at hx1 (i:=(x:Int)) rfl
  obtain ⟨ro,g3,g4⟩:=hT.at ox2 (i:=((oN o x:Nat):Int)) rfl
  have hin:Ret (loop (sparselaw08_ExactSylvester_l18 (m:Int) o (x:Int) T) ([],[],0)) (fun r=>Lg r.1 n (fun y=>A (oN o x) (oN o y))∧Lg r.2 n (fun y=>-1*A x y)):=by
    refine ret_loop (Post:=fun r:List Nb×List Nb=>Lg r.1 n (fun y=>A (oN o x) (oN o y))∧Lg r.2 n (fun y=>-1*A x y)) n (fun y (s:List Nb×List Nb×Int)=>s.2.2=(y:Int)∧Lg s.1 y (fun y=>A (oN o x) (oN o y))∧Lg s.2.1 y (fun y=>-1*A x y)) ⟨rfl,⟨rfl,fun c hc=>absurd hc (by omega)⟩,rfl,fun c hc=>absurd hc (by omega)⟩ ?_ (by omega)
    rintro y ⟨p,q,_⟩ hy ⟨rfl,hp,hq⟩
    simp only at hp hq
    unfold sparselaw08_ExactSylvester_l18
    simp only
    rw [hw1,ret_if]
    refine ⟨fun hlt=>?_,fun hge=>⟨_,rfl,by have e:y=n:=(by omega); subst e; exact ⟨hp,hq⟩⟩⟩
    have hy1:y < n:=by omega
    obtain ⟨oy1,oy2⟩:=oN_at ho hy1
    obtain ⟨z,k1,k2⟩:=g4.at oy2 (i:=((oN o y:Nat):Int)) rfl
    obtain ⟨w,k3,k4⟩:=g2.at hy1 (i:=(y:Int)) rfl
    have lw:=k4.lenB (bA x y hx1 hy1) (show (100:Int) < pw 1 by decide)
    rw [ox1,obs,g3,obs,oy1,obs,k1,obs,ret_bind,ret_app]
    refine ⟨by rw [hp.1]; simp only [List.length_cons,List.length_nil]; omega,?_⟩
    rw [g1,obs,k3,obs,ret_bind]
    refine (negP_bg (s:=w.1) k4.1 (by omega)).mono fun ng hng=>?_
    rw [k4.sv] at hng
    rw [ret_bind,ret_app]
    exact ⟨by rw [hq.1]; simp only [List.length_cons,List.length_nil]; omega,_,rfl,hy1,by show wa .i64 (y:Int) 1=_; rw [wa_i (by omega) (by omega)]; rfl,hp.snoc (z:=(z.1,z.2)) k2,hq.snoc (z:=(ng.1,ng.2)) (hng.cast (by omega))⟩
  rw [ret_bind]
  refine hin.mono fun r hr=>?_
  rw [ret_bind,ret_app]
  refine ⟨by rw [hU.1]; simp only [List.length_cons,List.length_nil]; omega,?_⟩
  rw [ret_bind,ret_app]
  exact ⟨by rw [hV.1]; simp only [List.length_cons,List.length_nil]; omega,_,rfl,hx1,by show wa .i64 (x:Int) 1=_; rw [wa_i (by omega) (by omega)]; rfl,hU.snoc hr.1,hV.snoc hr.2⟩
theorem addrow_ok {m i j k:Nat} {K:Int} (hmn:n=m+1) (hn:n≤900) (hT:Tg T n n A) (bA:∀ i j,i < n→j < n→Bd K (A i j)) (hK:K < pw 3) (hi:i < n) (hj:j < n) (hij:i≠j) (hk:k < 11):Ret (loop (sparselaw08_ExactSylvester_l16 (m:Int) (i:Int) (k:Int) (j:Int)) (T,0)) (fun r=>Tg r n n (fun x y=>A x y+if x=i then ((k:Int) - 5)*A j y else 0)):=by
  have hw1:wa .i64 1 (m:Int)=(n:Int):=by rw [wa_i (by omega) (by omega)]; omega
  refine ret_loop (Post:=fun r=>Tg r n n (fun x y=>A x y+if x=i then ((k:Int) - 5)*A j y else 0)) n (fun y (s:List (List Nb)×Int)=>s.2=(y:Int)∧y≤n∧Tg s.1 n n (fun x z=>A x z+if x=i∧z < y then ((k:Int) - 5)*A j z else 0)) ⟨rfl,by omega,hT.congr fun r c _ _=>by rw [if_neg (by omega),Int.add_zero]⟩ ?_ (by omega)
  rintro y ⟨U,_⟩ hy ⟨rfl,hyn,hU⟩
  simp only at hU
  unfold sparselaw08_ExactSylvester_l16
  simp only
  rw [hw1,ret_if]
  refine ⟨fun hlt=>?_,fun hge=>⟨_,rfl,hU.congr fun r c hr hc=>congrArg _ (if_ck ⟨fun h=>h.1,fun h=>⟨h,by omega⟩⟩)⟩⟩
  have hy1:y < n:=by omega
  obtain ⟨ri,g1,g2⟩:=hU.at hi (i:=(i:Int)) rfl
  obtain ⟨rj,g3,g4⟩:=hU.at hj (i:=(j:Int)) rfl
  obtain ⟨z,g5,g6⟩:=g2.at hy1 (i:=(y:Int)) rfl
  obtain ⟨w,g7,g8⟩:=g4.at hy1 (i:=(y:Int)) rfl
  rw [if_neg (by omega),Int.add_zero] at g6 g8
  have lz:=g6.lenB (bA i y hi hy1) hK
  have lw:=g8.lenB (bA j y hj hy1) hK
  rw [g1,obs,obs,g5,obs,ret_bind,ws_i (by omega) (by omega)]
  refine (num_ok (v:=(k:Int) - 5) (by omega) (by omega)).mono fun u hu=>?_
  have lu:=hu.lenB (M:=1000) (m:=1) ⟨by omega,by omega⟩ (by decide)
  rw [g3,obs,g7,obs,ret_bind]
  refine (mul_bg (s:=u.1) (t:=w.1) hu.1 g8.1 (by omega) (by omega)).mono fun v hv=>?_
  rw [hu.sv,g8.sv] at hv
  have bv:Bd (10*K) (((k:Int) - 5)*A j y):=Bd.mul ⟨by omega,by omega⟩ (bA j y hj hy1)
  have lv':=hv.lenB (m:=4) bv (by
    have e:pw 4=B*pw 3:=rfl
    have hB:B=4294967296:=rfl
    have:=(bA j y hj hy1).nn
    rw [hB] at e
    omega)
  rw [ret_bind]
  refine (add_bg (s:=z.1) (t:=v.1) g6.1 hv.1 (by omega) (by omega)).mono fun t ht=>?_
  rw [g6.sv,hv.sv] at ht
  rw [set_some (by rw [g2.1]; exact hy1) rfl,obs,set_some (by rw [hU.1]; exact hi) rfl,obs]
  refine ⟨_,rfl,hy1,by show wa .i64 (y:Int) 1=_; rw [wa_i (by omega) (by omega)]; rfl,by omega,(hU.set hi (g2.set hy1 (z:=(t.1,t.2)) ht)).congr fun r c hr hc=>?_⟩
  by_cases e:r=i
  · subst e
    rw [up_in]
    by_cases e2:c=y
    · subst e2; rw [if_pos rfl,if_pos ⟨rfl,by omega⟩]
    · rw [if_neg e2]; exact congrArg _ (if_ck ⟨fun h=>⟨h.1,by omega⟩,fun h=>⟨h.1,by omega⟩⟩)
  · rw [up_out e,if_neg (fun h=>e h.1),if_neg (fun h=>e h.1)]
theorem addcol_ok {m i j k:Nat} {K:Int} (hmn:n=m+1) (hn:n≤900) (hT:Tg T n n A) (bA:∀ i j,i < n→j < n→Bd K (A i j)) (hK:K < pw 3) (hi:i < n) (hj:j < n) (hij:i≠j) (hk:k < 11):Ret (loop (sparselaw08_ExactSylvester_l17 (m:Int) (i:Int) (k:Int) (j:Int)) (T,0)) (fun r=>Tg r n n (fun x y=>A x y+if y=i then ((k:Int) - 5)*A x j else 0)):=by
  have hw1:wa .i64 1 (m:Int)=(n:Int):=by rw [wa_i (by omega) (by omega)]; omega
  refine ret_loop (Post:=fun r=>Tg r n n (fun x y=>A x y+if y=i then ((k:Int) - 5)*A x j else 0)) n (fun y (s:List (List Nb)×Int)=>s.2=(y:Int)∧y≤n∧Tg s.1 n n (fun x z=>A x z+if z=i∧x < y then ((k:Int) - 5)*A x j else 0)) ⟨rfl,by omega,hT.congr fun r c _ _=>by rw [if_neg (by omega),Int.add_zero]⟩ ?_ (by omega)
  rintro x ⟨U,_⟩ hx ⟨rfl,hxn,hU⟩
  simp only at hU
  unfold sparselaw08_ExactSylvester_l17
  simp only
  rw [hw1,ret_if]
  refine ⟨fun hlt=>?_,fun hge=>⟨_,rfl,hU.congr fun r c hr hc=>congrArg _ (if_ck ⟨fun h=>h.1,fun h=>⟨h,by omega⟩⟩)⟩⟩
  have hx1:x < n:=by omega
  obtain ⟨rx,g1,g2⟩:=hU.at hx1 (i:=(x:Int)) rfl
  obtain ⟨z,g5,g6⟩:=g2.at hi (i:=(i:Int)) rfl
  obtain ⟨w,g7,g8⟩:=g2.at hj (i:=(j:Int)) rfl
  rw [if_neg (by omega),Int.add_zero] at g6 g8
  have lz:=g6.lenB (bA x i hx1 hi) hK
  have lw:=g8.lenB (bA x j hx1 hj) hK
  rw [g1,obs,obs,g5,obs,ret_bind,ws_i (by omega) (by omega)]
  refine (num_ok (v:=(k:Int) - 5) (by omega) (by omega)).mono fun u hu=>?_
  have lu:=hu.lenB (M:=1000) (m:=1) ⟨by omega,by omega⟩ (by decide)
  rw [obs,g7,obs,ret_bind]
  refine (mul_bg (s:=u.1) (t:=w.1) hu.1 g8.1 (by omega) (by omega)).mono fun v hv=>?_
  rw [hu.sv,g8.sv] at hv
  have bv:Bd (10*K) (((k:Int) - 5)*A x j):=Bd.mul ⟨by omega,by omega⟩ (bA x j hx1 hj)
  have lv':=hv.lenB (m:=4) bv (by
    have e:pw 4=B*pw 3:=rfl
    have hB:B=4294967296:=rfl
    have:=(bA x j hx1 hj).nn
    rw [hB] at e
    omega)
  rw [ret_bind]
  refine (add_bg (s:=z.1) (t:=v.1) g6.1 hv.1 (by omega) (by omega)).mono fun t ht=>?_
  rw [g6.sv,hv.sv] at ht
  rw [set_some (by rw [g2.1]; exact hi) rfl,obs,set_some (by rw [hU.1]; exact hx1) rfl,obs]
  refine ⟨_,rfl,hx1,by show wa .i64 (x:Int) 1=_; rw [wa_i (by omega) (by omega)]; rfl,by omega,(hU.set hx1 (g2.set hi (z:=(t.1,t.2)) ht)).congr fun r c hr hc=>?_⟩
  by_cases e:r=x
  · subst e
    rw [up_in]
    by_cases e2:c=i
    · subst e2; rw [if_pos rfl,if_pos ⟨rfl,by omega⟩]
    · rw [if_neg e2,if_neg (fun h=>e2 h.1),if_neg (fun h=>e2 h.1)]
  · rw [up_out e]; exact congrArg _ (if_ck ⟨fun h=>⟨h.1,by omega⟩,fun h=>⟨h.1,by omega⟩⟩)
end
theorem shear_eq (p q r s K:Int) (X Y:Prop) [Decidable X] [Decidable Y]:(p+if X then K*q else 0)+(if Y then K*(r+if X then K*s else 0) else 0)=(p+if Y then K*r else 0)+if X then K*(q+if Y then K*s else 0) else 0:=by
  by_cases hX:X
  · by_cases hY:Y
    · rw [if_pos hX,if_pos hY,if_pos hX,if_pos hY,if_pos hX,if_pos hY]; grind
    · rw [if_pos hX,if_neg hY,if_neg hY,if_pos hX,if_neg hY]; grind
  · by_cases hY:Y
    · rw [if_neg hX,if_pos hY,if_neg hX,if_pos hY,if_neg hX]; grind
    · rw [if_neg hX,if_neg hY,if_neg hY,if_neg hX]
theorem exactSylvester_true (l:List Int) (x3 x4 x5 x6:Int) (x7:List Int):sparselaw08_ExactSylvester l x3 x4 x5 x6 x7=some true:=by
  unfold sparselaw08_ExactSylvester
  by_cases hl:(25:Int) < (l.length:Int)
  · rw [if_pos hl,awake08s,obs]
  · rw [if_neg hl]
    obtain ⟨m,p1,p2⟩:=Sf.place_ok x3 4 (by omega) (by omega)
    generalize hn:m+1=n
    have hn4:n≤4:=by omega
    have hw1:wa .i64 1 (m:Int)=(n:Int):=by rw [wa_i (by omega) (by omega)]; omega
    obtain ⟨i,q1,q2⟩:=Sf.place_ok x4 n (by omega) (by omega)
    obtain ⟨j,r1,r2⟩:=Sf.place_ok x5 n (by omega) (by omega)
    obtain ⟨k,s1,s2⟩:=Sf.place_ok x6 11 (by omega) (by omega)
    obtain ⟨o,o1,o2⟩:=Sf.shuffle_ok x7 (n:=n) (by omega)
    obtain ⟨T,t1,t2⟩:=even_ok (l:=l) (by omega) (n:=n) (by omega)
    have bA:∀ i j,i < n→j < n→Bd 100 (evn l n i j):=fun i j _ _=>evn_bd ..
    have hsA:symn n (evn l n):=fun i j _ _=>evn_sym ..
    have h100:(100:Int) < pw 4:=by decide
    obtain ⟨a,b,c,hI⟩:=inert_ex hn4 h100 t2 bA hsA
    have e1:=Inr.inert hn4 h100 t2 bA hsA hI
    obtain ⟨⟨U,V⟩,u1,u2,u3⟩:=moved_ok hn.symm (by omega) t2 bA o2
    simp only at u2 u3
    have eV:exact_Inertia V=some ((c:Int),(b:Int),(a:Int),0):=Inr.inert hn4 h100 u3 (fun x y hx hy=>by rw [show (-1:Int)*evn l n x y= - evn l n x y by omega]; exact (bA x y hx hy).neg) (fun x y hx hy=>by show -1*evn l n x y= -1*evn l n y x; rw [hsA x y hx hy]) (hI.neg.cg fun x y _ _=>by unfold pad; split; rfl; rw [Int.mul_zero])
    have hP:Inr n (pad n fun x y=>evn l n (oN o x) (oN o y)) a b c:=by
      refine hI.perm (o:=fun x=>if x < n then oN o x else x) (fun x hx=>?_) (fun x y hx hy e=>?_) fun x y hx hy=>?_
      · split
        · have:=(oN_at o2 (x:=x) (by omega)).2; omega
        · exact hx
      · by_cases h1:x < n
        · have g1:=(oN_at o2 h1).2
          rw [if_pos h1] at e
          by_cases h2:y < n
          · rw [if_pos h2] at e; exact oN_inj o2 h1 h2 e
          · rw [if_neg h2] at e; omega
        · rw [if_neg h1] at e
          by_cases h2:y < n
          · have g2:=(oN_at o2 h2).2
            rw [if_pos h2] at e; omega
          · rw [if_neg h2] at e; exact e
      · unfold pad
        by_cases h1:x < n
        · have g1:=(oN_at o2 h1).2
          by_cases h2:y < n
          · have g2:=(oN_at o2 h2).2
            rw [if_pos ⟨h1,h2⟩,if_pos h1,if_pos h2,if_pos ⟨g1,g2⟩]
          · rw [if_neg (fun h=>h2 h.2),if_pos h1,if_neg h2,if_neg (fun h=>h2 h.2)]
        · rw [if_neg (fun h=>h1 h.1),if_neg h1,if_neg (fun h=>h1 h.1)]
    have bP:∀ x y,x < n→y < n→Bd 100 (evn l n (oN o x) (oN o y)):=fun x y hx hy=>bA _ _ (oN_at o2 hx).2 (oN_at o2 hy).2
    have hsP:symn n (fun x y=>evn l n (oN o x) (oN o y)):=fun x y hx hy=>hsA _ _ (oN_at o2 hx).2 (oN_at o2 hy).2
    have fin:∀ W:List (List Nb),exact_Inertia W=some ((a:Int),(b:Int),(c:Int),0)→sparselaw08_ExactSylvester_j6 V ((a:Int),(b:Int),(c:Int),0) (m:Int) W=some true:=fun W hW=>by
      unfold sparselaw08_ExactSylvester_j6
      have hsum:=hI.1
      rw [hW,obs,eV,obs,hw1]
      simp only
      rw [wa_i (x:=(a:Int)) (y:=(b:Int)) (by omega) (by omega),wa_i (by omega) (by omega),if_neg (by simp; omega),if_pos (by simp),awake08s,obs,obs]
    have p1':sparsekit_Place x3 4=some (m:Int):=p1
    rw [p1',obs,hw1,t1,obs,e1,obs,q1,obs,r1,obs]
    have s1':sparsekit_Place x6 11=some (k:Int):=s1
    rw [s1',obs,o1,obs,u1,obs]
    simp only
    by_cases hij:i=j
    · rw [if_pos (by omega)]
      exact fin U (Inr.inert hn4 h100 u2 bP hsP hP)
    · rw [if_neg (by omega)]
      obtain ⟨W,w1,w2⟩:=addrow_ok hn.symm (by omega) u2 bP (by decide) q2 r2 hij s2
      have bW:∀ x y,x < n→y < n→Bd 10000 (evn l n (oN o x) (oN o y)+if x=i then ((k:Int) - 5)*evn l n (oN o j) (oN o y) else 0):=fun x y hx hy=>by
        have h1:=bP x y hx hy
        split
        · exact (h1.add (Bd.mul (M:=10) ⟨by omega,by omega⟩ (bP j y r2 hy))).mono (by omega)
        · rw [Int.add_zero]; exact h1.mono (by omega)
      obtain ⟨Z,z1,z2⟩:=addcol_ok hn.symm (by omega) w2 bW (by decide) q2 r2 hij s2
      rw [w1,obs,z1,obs]
      refine fin Z (Inr.inert (M:=1000000) hn4 (by decide) z2 (fun x y hx hy=>?_) (fun x y hx hy=>?_) (hP.shear (i:=i) (j:=j) (k:=(k:Int) - 5) (by omega) (by omega) hij fun x y hx hy=>?_))
      · have h1:=bW x y hx hy
        by_cases c:y=i
        · rw [if_pos c]
          exact (h1.add (Bd.mul (M:=10) ⟨by omega,by omega⟩ (bW x j hx r2))).mono (by omega)
        · rw [if_neg c,Int.add_zero]; exact h1.mono (by omega)
      · have h1:evn l n (oN o x) (oN o y)=evn l n (oN o y) (oN o x):=hsP x y hx hy
        have h2:evn l n (oN o x) (oN o j)=evn l n (oN o j) (oN o x):=hsP x j hx r2
        have h3:evn l n (oN o j) (oN o y)=evn l n (oN o y) (oN o j):=hsP j y r2 hy
        by_cases c1:x=i
        · by_cases c2:y=i
          · subst c1; subst c2; rfl
          · simp only [if_pos c1,if_neg c2,Int.add_zero]
            rw [h1,h3]
        · by_cases c2:y=i
          · simp only [if_neg c1,if_pos c2,Int.add_zero]
            rw [h1,h2]
          · simp only [if_neg c1,if_neg c2,Int.add_zero]
            rw [h1]
      · by_cases h1:x < n
        · by_cases h2:y < n
          · rw [pad_in h1 h2,pad_in h1 h2,pad_in h1 r2,pad_in r2 h2,pad_in r2 r2]
            exact shear_eq ..
          · rw [pad_pd n _ x y (Or.inr (by omega)),pad_pd n _ x y (Or.inr (by omega)),pad_pd n _ j y (Or.inr (by omega)),if_neg (show ¬ y=i by omega),if_neg (show ¬ y=i by omega)]
            simp
        · rw [pad_pd n _ x y (Or.inl (by omega)),pad_pd n _ x y (Or.inl (by omega)),pad_pd n _ x j (Or.inl (by omega)),if_neg (show ¬ x=i by omega)]
          simp
theorem exactSylvester_t (l:List Int) (x3 x4 x5 x6:Int) (x7:List Int) (_:okL (Wf .i64) l) (_:Wf .i64 x3) (_:Wf .i64 x4) (_:Wf .i64 x5) (_:Wf .i64 x6) (_:okL (Wf .i64) x7):sparselaw08_ExactSylvester l x3 x4 x5 x6 x7=some true:=exactSylvester_true l x3 x4 x5 x6 x7
end Km
