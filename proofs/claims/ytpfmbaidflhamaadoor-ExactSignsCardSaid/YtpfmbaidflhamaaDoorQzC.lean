/- Tables of numbers; a row minus a multiple of another one, divided exactly. -/
import Derived.Test.YtpfmbaidflhamaaDoorQzA
import Derived.Test.YtpfmbaidflhamaaDoorQzB
import Derived.KernelRfl
import Derived.Test.YtpfmbaidflhamaaDoorSxN
set_option linter.unusedVariables false
set_option linter.unusedSimpArgs false
set_option maxHeartbeats 4000000
namespace Km
open Sx Go M Vc Lm Dt
abbrev Nb:=Bool×List Int
def Lg (l:List Nb) (w:Nat) (f:Nat→Int):Prop:=l.length=w∧∀ c,c < w→∃ z,l[c]?=some z∧Bg (f c) z.1 z.2
def Tg (T:List (List Nb)) (n w:Nat) (A:Mx):Prop:=T.length=n∧∀ r,r < n→∃ l,T[r]?=some l∧Lg l w (A r)
theorem Lg.congr {l:List Nb} {w:Nat} {f g:Nat→Int} (h:Lg l w f) (e:∀ c,c < w→f c=g c):Lg l w g:=⟨h.1,fun c hc=>by obtain ⟨z,h1,h2⟩:=h.2 c hc; exact ⟨z,h1,h2.cast (e c hc)⟩⟩
theorem Tg.congr {T:List (List Nb)} {n w:Nat} {A B:Mx} (h:Tg T n w A) (e:∀ r c,r < n→c < w→A r c=B r c):Tg T n w B:=⟨h.1,fun r hr=>by obtain ⟨l,h1,h2⟩:=h.2 r hr; exact ⟨l,h1,h2.congr fun c hc=>e r c hr hc⟩⟩
theorem Lg.set {l:List Nb} {w:Nat} {f:Nat→Int} (h:Lg l w f) {c:Nat} (hc:c < w) {z:Nb} {v:Int} (hz:Bg v z.1 z.2):Lg (l.set c z) w (fun j=>if j=c then v else f j):=by
  refine ⟨by rw [List.length_set]; exact h.1,fun j hj=>?_⟩
  by_cases e:j=c
  · subst e
    exact ⟨z,by rw [List.getElem?_set_self]; rw [h.1]; exact hc,hz.cast (show v=(if j=j then v else f j) from (if_pos rfl).symm)⟩
  · obtain ⟨y,h1,h2⟩:=h.2 j hj
    exact ⟨y,by rw [List.getElem?_set_ne (fun h=>e h.symm)]; exact h1,h2.cast (show f j=(if j=c then v else f j) from (if_neg e).symm)⟩
theorem Tg.set {T:List (List Nb)} {n w:Nat} {A:Mx} (h:Tg T n w A) {k:Nat} (hk:k < n) {l:List Nb} {g:Nat→Int} (hl:Lg l w g):Tg (T.set k l) n w (up A k g):=by
  refine ⟨by rw [List.length_set]; exact h.1,fun r hr=>?_⟩
  by_cases e:r=k
  · subst e
    exact ⟨l,by rw [List.getElem?_set_self]; rw [h.1]; exact hk,hl.congr fun c _=>up_in.symm⟩
  · obtain ⟨m,h1,h2⟩:=h.2 r hr
    exact ⟨m,by rw [List.getElem?_set_ne (fun h=>e h.symm)]; exact h1,h2.congr fun c _=>(up_out e).symm⟩
theorem at_some {α:Type} {l:List α} {k:Nat} {x:α} (hx:l[k]?=some x) {i:Int} (hi:i=(k:Int)):getI l i=some x:=by
  subst hi
  have:=(List.getElem?_eq_some_iff.1 hx).1
  exact Ret.eq (by rw [ret_get]; exact ⟨by omega,by omega,fun y hy=>by rw [Int.toNat_natCast] at hy; exact Option.some.inj (hy.symm.trans hx)⟩)
theorem set_some {α:Type} {l:List α} {k:Nat} {x:α} (hk:k < l.length) {i:Int} (hi:i=(k:Int)):setI l i x=some (l.set k x):=by
  subst hi
  exact Ret.eq (by rw [ret_set,Int.toNat_natCast]; exact ⟨by omega,by omega,rfl⟩)
theorem Lg.at {l:List Nb} {w:Nat} {f:Nat→Int} (h:Lg l w f) {c:Nat} (hc:c < w) {i:Int} (hi:i=(c:Int)):∃ z,getI l i=some z∧Bg (f c) z.1 z.2:=by
  obtain ⟨z,h1,h2⟩:=h.2 c hc
  exact ⟨z,at_some h1 hi,h2⟩
theorem Tg.at {T:List (List Nb)} {n w:Nat} {A:Mx} (h:Tg T n w A) {r:Nat} (hr:r < n) {i:Int} (hi:i=(r:Int)):∃ l,getI T i=some l∧Lg l w (A r):=by
  obtain ⟨l,h1,h2⟩:=h.2 r hr
  exact ⟨l,at_some h1 hi,h2⟩
theorem negP_bg {s:Bool} {a:List Int} (ha:LW a) (hn:a.length≤1000000):Ret (integer_Neg s a) (fun r=>Bg (- sv s a) r.1 r.2):=by
  unfold integer_Neg
  rw [clone_ok hn,obs,ret_bind]
  exact (big_bg (!s) ha hn).mono fun r hr=>⟨_,rfl,hr.cast (sv_not s a)⟩
theorem quoP_bg {s t:Bool} {a b:List Int} (ha:LW a) (hb:LW b) (hn:a.length≤800) (hm:b.length≤800) {h:Int} (hne:sv t b≠0) (he:sv s a=sv t b*h):Ret (integer_Quo s a t b) (fun r=>Bg h r.1 r.2.1∧r.2.2=0):=by
  unfold integer_Quo
  rw [ret_bind]
  refine (divmod_bg (s:=s) (t:=t) ha hb hn hm hne).mono ?_
  rintro ⟨a,b,c,d,e⟩ ⟨hq,hr,h0⟩
  simp only at hq hr h0 ⊢
  subst h0
  rw [he,Int.mul_emod_right] at hr
  rw [he,Int.mul_ediv_cancel_left _ hne] at hq
  have hd:d=[]:=(lv_zero hr.1 hr.2.1).1 (by rw [hr.abs]; simp)
  subst hd
  rw [if_neg (by simp)]
  exact ⟨_,rfl,hq,rfl⟩
theorem Bg.lenB {v:Int} {s:Bool} {l:List Int} (h:Bg v s l) {M:Int} {m:Nat} (hb:Bd M v) (hM:M < pw m):l.length≤m:=h.len (by have:=hb.1; omega) (by have:=hb.2; omega)
theorem sweep_ok {row top:List Nb} {w:Nat} {f g h:Nat→Int} {M a p d:Int} (hM:M < pw 60) (hrow:Lg row w f) (htop:Lg top w g) {za zp zd:Nb} (ha:Bg a za.1 za.2) (hp:Bg p zp.1 zp.2) (hd:Bg d zd.1 zd.2) (hd0:d≠0)
    (bf:∀ j,j < w→Bd M (f j)) (bg:∀ j,j < w→Bd M (g j)) (ba:Bd M a) (bp:Bd M p) (bd:Bd M d) (he:∀ j,j < w→p*f j - a*g j=d*h j) (hw:w≤1000):
    Ret (exact_sweep row top za.1 za.2 zp.1 zp.2 zd.1 zd.2) (fun r=>Lg r w h):=by
  unfold exact_sweep
  rw [ret_bind]
  have hM0:=ba.nn
  have la:=ha.lenB ba hM
  have lp:=hp.lenB bp hM
  have ld:=hd.lenB bd hM
  have hMM:M*M < pw 120:=by
    have h1:M*M≤M*pw 60:=Int.mul_le_mul_of_nonneg_left (by omega) hM0
    have h2:M*pw 60 < pw 60*pw 60:=Int.mul_lt_mul_of_pos_right hM (pw_pos 60)
    have h3:pw 120=pw 60*pw 60:=pw_add 60 60
    omega
  refine (ret_loop (Post:=fun r:List Nb=>Lg r w h) w (fun k (s:List Nb×Int)=>s.2=(k:Int)∧Lg s.1 w (fun j=>if j < k then h j else f j)) ⟨rfl,hrow.congr fun c _=>by rw [if_neg (by omega)]⟩ ?_ (by omega)).mono fun r hr=>⟨_,rfl,hr⟩
  rintro k ⟨r,_⟩ hk ⟨rfl,hI⟩
  simp only at hI
  unfold exact_sweep_l1
  simp only
  rw [htop.1,ret_if]
  refine ⟨fun hlt=>?_,fun hge=>⟨_,rfl,hI.congr fun c hc=>by rw [if_pos (by omega)]⟩⟩
  have hkw:k < w:=by omega
  obtain ⟨y,hy,hyB⟩:=htop.at hkw rfl
  obtain ⟨x,hx,hxB⟩:=hI.at hkw rfl
  have hxB:Bg (f k) x.1 x.2:=hxB.cast (show (if k < k then h k else f k)=f k from if_neg (by omega))
  have lx:=hxB.lenB (bf k hkw) hM
  have ly:=hyB.lenB (bg k hkw) hM
  rw [hy,obs,hx,obs,ret_bind]
  refine (mul_bg (s:=zp.1) (t:=x.1) hp.1 hxB.1 (by omega) (by omega)).mono fun u hu=>?_
  rw [hp.sv,hxB.sv] at hu
  have lu:=hu.lenB (bp.mul (bf k hkw)) hMM
  rw [ret_bind]
  refine (mul_bg (s:=za.1) (t:=y.1) ha.1 hyB.1 (by omega) (by omega)).mono fun v hv=>?_
  rw [ha.sv,hyB.sv] at hv
  have lv':=hv.lenB (ba.mul (bg k hkw)) hMM
  rw [ret_bind]
  refine (sub_bg (s:=u.1) (t:=v.1) hu.1 hv.1 (by omega) (by omega)).mono fun q hq=>?_
  rw [hu.sv,hv.sv] at hq
  have h2M:M*M+M*M < pw 121:=by
    have:=pw_pos 120
    have e:pw 121=B*pw 120:=rfl
    have e2:B=4294967296:=rfl
    rw [e,e2]; omega
  have lq:=hq.lenB ((bp.mul (bf k hkw)).sub (ba.mul (bg k hkw))) h2M
  rw [ret_bind]
  refine (quoP_bg (s:=q.1) (t:=zd.1) (h:=h k) hq.1 hd.1 (by omega) (by omega) (by rw [hd.sv]; exact hd0) (by rw [hq.sv,hd.sv]; exact he k hkw)).mono ?_
  rintro ⟨t1,t2,t3⟩ ⟨ht,_⟩
  simp only at ht ⊢
  rw [set_some (by rw [hI.1]; exact hkw) rfl,obs]
  refine ⟨_,rfl,hkw,by show wa .i64 (k:Int) 1=_; rw [wa_i (by omega) (by omega)]; rfl,?_⟩
  refine (hI.set hkw (z:=(t1,t2)) ht).congr fun c hc=>?_
  by_cases e:c=k
  · subst e; rw [if_pos rfl,if_pos (by omega)]
  · rw [if_neg e]
    by_cases hck:c < k
    · rw [if_pos hck,if_pos (by omega)]
    · rw [if_neg hck,if_neg (by omega)]
end Km
namespace Km
open Sx Go M Vc Lm Dt
def Okb (n w:Nat) (A:Mx) (M:Int):Prop:=∀ (A':Mx) (cl:Nat→Nat) (q i j:Nat),(∀ i,i < n→∃ i',i' < n∧∀ j,A' i j=A i' j)→q≤n→(∀ s,s < q→cl s < w)→i < n→j < w→Bd M (Rk A' cl q i j)∧Bd M (det q (Pm_ A' cl))
theorem pow_mono {X:Int} (hX:1≤X) {m n:Nat} (h:m≤n):X ^ m≤X ^ n:=by
  obtain ⟨d,rfl⟩:=Nat.exists_eq_add_of_le h
  induction d with
  | zero=>exact Int.le_refl _
  | succ d ih=>
    have h1:=ih (by omega)
    have h2:=Dt.pow_nn (show 0≤X by omega) (m+d)
    have h3:X ^ (m+d)*1≤X ^ (m+d)*X:=Int.mul_le_mul_of_nonneg_left hX h2
    rw [show m+(d+1)=(m+d)+1 by omega,Int.pow_succ]
    omega
theorem okb_of {n w K:Nat} {M:Int} {A:Mx} (hM:1≤M) (hK:1≤K) (hnK:n≤K) (hA:∀ i j,i < n→j < w→Bd M (A i j)):Okb n w A (2*(K*M) ^ (n+2)):=by
  intro A' cl q i j hp hq hc hi hj
  have hKM:1≤(K:Int)*M:=by
    have:(1:Int)*1≤K*M:=Int.mul_le_mul (by omega) hM (by omega) (by omega)
    omega
  have hA':∀ i j,i < n→j < w→Bd M (A' i j):=by
    intro i j hi hj
    obtain ⟨i',h1,h2⟩:=hp i hi
    rw [h2]; exact hA i' j h1 hj
  obtain ⟨h1,h2⟩:=Rk_bd (K:=K) (n:=n) (w:=w) (A:=A') (col:=cl) (k:=q) (i:=i) (j:=j) hM hK hA' hq (by omega) hc hi hj
  have h3:=pow_mono hKM (show q+2≤n+2 by omega)
  exact ⟨h1.mono (by omega),h2.mono (by omega)⟩
section
variable {n w cw:Nat} {A A':Mx} {col:Nat→Nat} {k c:Nat} {sn M:Int}
theorem bar_rows (h:Bar n cw A A' col k c sn):∀ i,i < n→∃ i',i' < n∧∀ j,A' i j=A i' j:=by
  obtain ⟨x,xi,hx,hA⟩:=h.perm
  exact fun i hi=>⟨x i,(hx i hi).1,fun j=>hA i j hi⟩
theorem sw_rows (h:∀ i,i < n→∃ i',i' < n∧∀ j,A' i j=A i' j) {a b:Nat} (ha:a < n) (hb:b < n):∀ i,i < n→∃ i',i' < n∧∀ j,sw A' a b i j=A i' j:=by
  intro i hi
  by_cases e1:i=a
  · obtain ⟨i',h1,h2⟩:=h b hb
    exact ⟨i',h1,fun j=>by unfold sw; rw [if_pos e1]; exact h2 j⟩
  · by_cases e2:i=b
    · obtain ⟨i',h1,h2⟩:=h a ha
      exact ⟨i',h1,fun j=>by unfold sw; rw [if_neg e1,if_pos e2]; exact h2 j⟩
    · obtain ⟨i',h1,h2⟩:=h i hi
      exact ⟨i',h1,fun j=>by unfold sw; rw [if_neg e1,if_neg e2]; exact h2 j⟩
theorem j1_ok (hM:M < pw 60) (hR:Okb n w A M) (h:Bar n cw A A' col k c sn) (hcw:cw≤w) (hw:w≤1000) (hn:n≤1000) (hc:c < cw) {a:Nat} (hka:k≤a) (han:a < n) (hne:Rk A' col k a c≠0)
    {T:List (List Nb)} (hT:Tg T n w (Rk (sw A' k a) col k)) {pv:List Int} (hpv:pv.length≤1000) {zd:Nb} (hd:Bg (det k (Pm_ A' col)) zd.1 zd.2) {s':Int}:
    Ret (exact_reduced_step_j1 (k:Int) (c:Int) zd.1 zd.2 pv T s') (fun r=>Tg r.1 n w (Rk (sw A' k a) (setC col k c) (k+1))∧r.2.1=pv++[(c:Int)]∧Bg (det (k+1) (Pm_ (sw A' k a) (setC col k c))) r.2.2.1 r.2.2.2.1∧r.2.2.2.2=s'):=by
  obtain ⟨hB',hdet,htop,hstep⟩:=h.pivot hc hka han hne
  have hkn:k < n:=by omega
  have hrows:=bar_rows h
  have hrows':=sw_rows hrows hkn han
  have hlt:∀ s,s < k→col s < w:=fun s hs=>by have:=h.lt s hs; have:=h.cw; omega
  have hlt':∀ s,s < k+1→setC col k c s < w:=fun s hs=>by have:=hB'.lt s hs; have:=hB'.cw; omega
  have bR:∀ i j,i < n→j < w→Bd M (Rk (sw A' k a) col k i j):=fun i j hi hj=>(hR _ _ _ _ _ hrows' h.kn hlt hi hj).1
  have bd:Bd M (det k (Pm_ A' col)):=(hR _ col k 0 c hrows h.kn hlt (by omega) (by omega)).2
  have hk:∀ j,Rk (sw A' k a) col k k j=Rk A' col k a j:=fun j=>by rw [Rk_sw hka,if_pos rfl]
  unfold exact_reduced_step_j1
  obtain ⟨lk,h1,h2⟩:=hT.at hkn (i:=(k:Int)) rfl
  obtain ⟨nx,h3,h4⟩:=h2.at (show c < w by omega) (i:=(c:Int)) rfl
  rw [hk] at h4
  rw [h1,obs,h3,obs,ret_bind]
  refine (ret_loop (Post:=fun r:List (List Nb)=>Tg r n w (Rk (sw A' k a) (setC col k c) (k+1))) n (fun i (s:List (List Nb)×Int)=>s.2=(i:Int)∧Tg s.1 n w (fun r j=>if r < i∧r≠k then Rk (sw A' k a) (setC col k c) (k+1) r j else Rk (sw A' k a) col k r j)) ⟨rfl,hT.congr fun r j _ _=>by rw [if_neg (by omega)]⟩ ?_ (by omega)).mono ?_
  · rintro i ⟨T',_⟩ hi ⟨rfl,hI⟩
    simp only at hI
    unfold exact_reduced_step_l4
    simp only
    rw [hT.1,ret_if]
    refine ⟨fun hlt2=>?_,fun hge=>⟨_,rfl,hI.congr fun r j hr hj=>?_⟩⟩
    · have hin:i < n:=by omega
      obtain ⟨row,hr1,hr2⟩:=hI.at hin (i:=(i:Int)) rfl
      have hr2:Lg row w (Rk (sw A' k a) col k i):=hr2.congr fun j _=>if_neg (by omega)
      have hwa:wa .i64 (i:Int) 1=((i+1:Nat):Int):=by rw [wa_i (by omega) (by omega)]; rfl
      rw [hr1,obs,ret_if]
      unfold exact_reduced_step_j5
      rw [hwa]
      refine ⟨fun he=>⟨_,rfl,hin,rfl,hI.congr fun r j _ _=>?_⟩,fun he=>?_⟩
      · have hik:i=k:=by omega
        by_cases hc2:r < i∧r≠k
        · rw [if_pos hc2,if_pos ⟨by omega,hc2.2⟩]
        · rw [if_neg hc2,if_neg (by omega)]
      · have hik:i≠k:=by omega
        obtain ⟨top,ht1,ht2⟩:=hI.at hkn (i:=(k:Int)) rfl
        have ht2:Lg top w (Rk A' col k a):=ht2.congr fun j _=>(if_neg (by omega)).trans (hk j)
        obtain ⟨fz,hf1,hf2⟩:=hr2.at (show c < w by omega) (i:=(c:Int)) rfl
        have hne2:neI (i:Int) (k:Int)=some ():=by unfold neI; rw [if_neg he]
        rw [ht1,obs,hf1,obs,hne2,obs,ret_bind]
        have bA:∀ j,j < w→Bd M (Rk A' col k a j):=fun j hj=>by rw [← hk]; exact bR k j hkn hj
        refine (sweep_ok (h:=Rk (sw A' k a) (setC col k c) (k+1) i) hM hr2 ht2 hf2 h4 hd h.d (fun j hj=>bR i j hin hj) bA (bR i c hin (by omega)) (bA c (by omega)) bd (fun j hj=>hstep i j hik) hw).mono fun row' hrow'=>?_
        rw [set_some (by rw [hI.1]; exact hin) rfl,obs]
        refine ⟨_,rfl,hin,rfl,(hI.set hin hrow').congr fun r j hr hj=>?_⟩
        by_cases e:r=i
        · subst e
          rw [up_in,if_pos ⟨by omega,hik⟩]
        · rw [up_out e]
          by_cases hc2:r < i∧r≠k
          · rw [if_pos hc2,if_pos ⟨by omega,hc2.2⟩]
          · rw [if_neg hc2,if_neg (by omega)]
    · by_cases e:r=k
      · subst e
        rw [if_neg (by omega),hk]; exact (htop j).symm
      · rw [if_pos ⟨by omega,e⟩]
  · intro T' hT'
    rw [ret_bind,ret_app]
    refine ⟨by simp only [List.length_cons,List.length_nil]; omega,_,rfl,hT',rfl,?_,rfl⟩
    rw [hdet]; exact h4
theorem step_ok (hM:M < pw 60) (hR:Okb n w A M) (h:Bar n cw A A' col k c sn) (hcw:cw≤w) (hw:w≤1000) (hn:n≤1000) (hc:c < cw) {a:Nat} (hka:k≤a) (han:a < n) (hne:Rk A' col k a c≠0)
    {T:List (List Nb)} (hT:Tg T n w (Rk A' col k)) {pv:List Int} (hpv:pv.length≤1000) {zd:Nb} (hd:Bg (det k (Pm_ A' col)) zd.1 zd.2):
    Ret (exact_reduced_step T pv zd.1 zd.2 sn (c:Int) (k:Int) (a:Int)) (fun r=>Tg r.1 n w (Rk (sw A' k a) (setC col k c) (k+1))∧r.2.1=pv++[(c:Int)]∧Bg (det (k+1) (Pm_ (sw A' k a) (setC col k c))) r.2.2.1 r.2.2.2.1∧r.2.2.2.2=(if a=k then sn else -sn)):=by
  have hkn:k < n:=by omega
  unfold exact_reduced_step
  rw [ret_if]
  refine ⟨fun hlt=>?_,fun hge=>?_⟩
  · obtain ⟨la,h1,h2⟩:=hT.at han (i:=(a:Int)) rfl
    obtain ⟨lk,h3,h4⟩:=hT.at hkn (i:=(k:Int)) rfl
    rw [h1,obs,h3,obs,set_some (by rw [hT.1]; exact hkn) rfl,obs,set_some (by rw [List.length_set,hT.1]; exact han) rfl,obs]
    have hT':Tg ((T.set k la).set a lk) n w (Rk (sw A' k a) col k):=by
      refine ((hT.set hkn h2).set han h4).congr fun r j hr hj=>?_
      rw [Rk_sw hka]
      by_cases e1:r=k
      · subst e1; rw [if_pos rfl,up_out (by omega),up_in]
      · rw [if_neg e1]
        by_cases e2:r=a
        · subst e2; rw [if_pos rfl,up_in]
        · rw [if_neg e2,up_out e2,up_out e1]
    have hs:wneg .i64 sn= -sn:=by
      rcases h.sg.1 with rfl | rfl
      · exact IntWalk.i64_in _ ⟨by omega,by omega⟩
      · exact IntWalk.i64_in _ ⟨by omega,by omega⟩
    rw [hs,if_neg (by omega)]
    exact j1_ok hM hR h hcw hw hn hc hka han hne hT' hpv hd
  · have e:a=k:=by omega
    subst e
    rw [if_pos rfl]
    refine j1_ok hM hR h hcw hw hn hc hka han hne ?_ hpv hd
    refine hT.congr fun r j _ _=>?_
    rw [Rk_sw (Nat.le_refl _)]
    by_cases e1:r=a
    · subst e1; rw [if_pos rfl]
    · rw [if_neg e1,if_neg e1]
def EI (n w cw:Nat) (A:Mx) (c:Nat) (T:List (List Nb)) (pv:List Int) (zs:Bool) (zl:List Int) (sn:Int):Prop:=
  ∃ A' col k,Bar n cw A A' col k c sn∧Tg T n w (Rk A' col k)∧pv=(List.range k).map (fun s=>(col s:Int))∧Bg (det k (Pm_ A' col)) zs zl
theorem eliminate_ok (hM:M < pw 60) (hR:Okb n w A M) (hcw:cw≤w) (hw:w≤900) (hn:n≤900) {T:List (List Nb)} (hT:Tg T n w A):
    Ret (exact_eliminate T (cw:Int)) (fun r=>EI n w cw A cw r.1 r.2.1 r.2.2.1 r.2.2.2.1 r.2.2.2.2):=by
  unfold exact_eliminate
  rw [ret_bind]
  refine (from_bg (n:=1) (by omega) (by omega)).mono fun one hone=>?_
  rw [ret_bind]
  refine (ret_loop (Post:=fun r:List (List Nb)×List Int×Bool×List Int×Int=>EI n w cw A cw r.1 r.2.1 r.2.2.1 r.2.2.2.1 r.2.2.2.2) cw (fun c (s:List (List Nb)×List Int×Bool×List Int×Int×Int)=>s.2.2.2.2.2=(c:Int)∧c≤cw∧EI n w cw A c s.1 s.2.1 s.2.2.1 s.2.2.2.1 s.2.2.2.2.1) ⟨rfl,by omega,A,id,0,Bar.start,hT.congr fun r j _ _=>Rk_zero.symm,rfl,hone.cast (show (1:Int)=det 0 (Pm_ A id) from rfl)⟩ ?_ (by omega)).mono fun r hr=>⟨_,rfl,hr⟩
  rintro c ⟨T,pv,zs,zl,sn,_⟩ hc ⟨rfl,hcc,A',col,k,hB,hT,hpv,hd⟩
  simp only at hB hT hpv hd
  unfold exact_eliminate_l9
  simp only
  rw [ret_if]
  refine ⟨fun hlt=>?_,fun hge=>⟨_,rfl,by have e:c=cw:=(by omega); subst e; exact ⟨A',col,k,hB,hT,hpv,hd⟩⟩⟩
  have hccw:c < cw:=by omega
  have hpl:pv.length=k:=by rw [hpv,List.length_map,List.length_range]
  have hkn:=hB.kn
  have hrows:=bar_rows hB
  have hlt':∀ s,s < k→col s < w:=fun s hs=>by have:=hB.lt s hs; have:=hB.cw; omega
  have hwa:wa .i64 (c:Int) 1=((c+1:Nat):Int):=by rw [wa_i (by omega) (by omega)]; rfl
  rw [ret_bind]
  refine (ret_loop (Post:=fun o=>(o=.inr ()∧∀ i,k≤i→i < n→Rk A' col k i c=0)∨∃ r,o=.inl r∧EI n w cw A (c+1) r.1 r.2.1 r.2.2.1 r.2.2.2.1 r.2.2.2.2) (n - k) (fun i (s:Int)=>s=((k+i:Nat):Int)∧k+i≤n∧∀ j,k≤j→j < k+i→Rk A' col k j c=0) ⟨by rw [hpl]; rfl,by omega,fun j h1 h2=>absurd h2 (by omega)⟩ ?_ (by omega)).mono ?_
  · rintro i _ hi ⟨rfl,hin,hz⟩
    unfold exact_eliminate_l13
    rw [hT.1,ret_if]
    refine ⟨fun hl2=>?_,fun hge=>⟨_,rfl,.inl ⟨rfl,fun j h1 h2=>hz j h1 (by omega)⟩⟩⟩
    have han:k+i < n:=by omega
    obtain ⟨row,h1,h2⟩:=hT.at han (i:=((k+i:Nat):Int)) rfl
    obtain ⟨x,h3,h4⟩:=h2.at (show c < w by omega) (i:=(c:Int)) rfl
    have bx:=(hR _ _ _ _ _ hrows hkn hlt' han (show c < w by omega)).1
    have lx:=h4.lenB bx hM
    rw [h1,obs,h3,obs,sign_bg h4.1 (by omega),obs,h4.sv,ret_if]
    refine ⟨fun h0=>⟨_,rfl,by omega,?_,by omega,fun j hj1 hj2=>?_⟩,fun h0=>?_⟩
    · rw [wa_i (by omega) (by omega)]; omega
    · by_cases e:j=k+i
      · subst e
        revert h0; split
        · omega
        · split
          · omega
          · intro _; omega
      · exact hz j hj1 (by omega)
    · have hne:Rk A' col k (k+i) c≠0:=fun h=>h0 (by rw [h]; rfl)
      have hpl':(pv.length:Int)=(k:Int):=by rw [hpl]
      rw [hpl',ret_bind]
      refine (step_ok (zd:=(zs,zl)) hM hR hB hcw (by omega) (by omega) hccw (by omega) han hne hT (by omega) hd).mono ?_
      rintro ⟨T',pv',zs',zl',sn'⟩ ⟨g1,g2,g3,g4⟩
      simp only at g1 g2 g3 g4 ⊢
      refine ⟨_,rfl,.inr ⟨_,rfl,sw A' k (k+i),setC col k c,k+1,?_,g1,?_,g3⟩⟩
      · have:=(hB.pivot hccw (by omega) han hne).1
        show Bar n cw A (sw A' k (k+i)) (setC col k c) (k+1) (c+1) sn'
        rw [g4]; exact this
      · show pv'=_
        rw [g2,hpv,List.range_succ,List.map_append]
        congr 1
        · refine List.map_congr_left fun s hs=>?_
          rw [setC_lt (List.mem_range.1 hs)]
        · show [(c:Int)]=[((setC col k c k:Nat):Int)]
          rw [setC_at]
  · rintro _ (⟨rfl,hz⟩ | ⟨⟨T',pv',zs',zl',sn'⟩,rfl,hE⟩)
    · show Ret (exact_eliminate_j12 _ _ _ _ _ _) _
      unfold exact_eliminate_j12
      exact ⟨_,rfl,hccw,hwa,by omega,A',col,k,hB.none hccw hz,hT,hpv,hd⟩
    · show Ret (exact_eliminate_j12 _ _ _ _ _ _) _
      unfold exact_eliminate_j12
      exact ⟨_,rfl,hccw,hwa,by omega,hE⟩
end
end Km
namespace Km
open Sx Go M Vc Lm Dt
theorem Lg.snoc {l:List Nb} {k:Nat} {f:Nat→Int} (h:Lg l k f) {z:Nb} (hz:Bg (f k) z.1 z.2):Lg (l++[z]) (k+1) f:=by
  refine ⟨by rw [List.length_append,h.1]; rfl,fun c hc=>?_⟩
  by_cases e:c < k
  · obtain ⟨y,h1,h2⟩:=h.2 c e
    exact ⟨y,by rw [List.getElem?_append_left (by rw [h.1]; exact e)]; exact h1,h2⟩
  · obtain rfl:c=k:=by omega
    exact ⟨z,by rw [List.getElem?_append_right (by rw [h.1]; omega),h.1,Nat.sub_self]; rfl,hz⟩
theorem Tg.snoc {T:List (List Nb)} {k w:Nat} {A:Mx} (h:Tg T k w A) {l:List Nb} (hl:Lg l w (A k)):Tg (T++[l]) (k+1) w A:=by
  refine ⟨by rw [List.length_append,h.1]; rfl,fun c hc=>?_⟩
  by_cases e:c < k
  · obtain ⟨y,h1,h2⟩:=h.2 c e
    exact ⟨y,by rw [List.getElem?_append_left (by rw [h.1]; exact e)]; exact h1,h2⟩
  · obtain rfl:c=k:=by omega
    exact ⟨l,by rw [List.getElem?_append_right (by rw [h.1]; omega),h.1,Nat.sub_self]; rfl,hl⟩
section
variable {n w:Nat} {A:Mx} {T:List (List Nb)}
theorem xcolumns_ok (hT:Tg T n w A):exact_columns T=some (if n=0 then 0 else (w:Int)):=by
  unfold exact_columns
  by_cases h0:n=0
  · rw [if_pos (by rw [hT.1]; omega),if_pos h0]
  · rw [if_neg (by rw [hT.1]; omega),if_neg h0]
    obtain ⟨l,h1,h2⟩:=hT.at (r:=0) (by omega) (i:=0) rfl
    rw [h1,obs,h2.1]
theorem xcheck_ok (hT:Tg T n w A) (hn:n≤16) (hw:w≤16):exact_check T=some 0:=by
  have hc:slices_ContainsFunc_apiBig T (if n=0 then 0 else (w:Int))=some false:=by
    refine Ret.eq ?_
    unfold slices_ContainsFunc_apiBig slices_IndexFunc_apiBig
    rw [ret_bind,ret_bind]
    refine (ret_loop (Post:=fun o=>o=.inl ()) n (fun k (i:Int)=>i=(k:Int)) rfl ?_ (by omega)).mono ?_
    · rintro k _ hk rfl
      unfold slices_IndexFunc_apiBig_l1
      rw [hT.1,ret_if]
      refine ⟨fun hlt=>?_,fun _=>⟨_,rfl,rfl⟩⟩
      obtain ⟨l,h1,h2⟩:=hT.at (r:=k) (by omega) (i:=(k:Int)) rfl
      unfold exact_check_1
      rw [h1,obs,obs,h2.1,if_neg (show ¬ n=0 by omega)]
      simp only [decide_true,Bool.not_true,Bool.false_eq_true,if_false]
      exact ⟨_,rfl,by omega,by show wa .i64 (k:Int) 1=_; rw [wa_i (by omega) (by omega)]; rfl⟩
    · rintro _ rfl
      exact ⟨_,rfl,_,rfl,rfl⟩
  unfold exact_check
  rw [xcolumns_ok hT,obs,hc,obs,if_neg (by simp),hT.1,if_neg]
  simp only [Bool.or_eq_true,decide_eq_true_eq,not_or]
  split<;>omega
theorem xsquare_ok (hT:Tg T n n A) (hn:n≤16):exact_square T=some 0:=by
  unfold exact_square
  rw [xcheck_ok hT hn hn,obs,if_pos rfl,xcolumns_ok hT,obs,hT.1]
  have:(!(decide ((n:Int)=if n=0 then 0 else (n:Int))))=false:=by split<;>simp<;>omega
  rw [this,obs,if_neg (by simp)]
theorem normZ_ok {v:Int} {z:Nb} (hz:Bg v z.1 z.2) (hl:z.2.length≤1000000):Ret (integer_Norm z.1 z.2) (fun r=>Bg v r.1 r.2):=(normP_bg (s:=z.1) hz.1 hl).mono fun r hr=>by rw [hz.sv] at hr; exact hr
theorem rowtwin_ok {row:List Nb} {f:Nat→Int} {M:Int} (hM:M < pw 60) (hrow:Lg row w f) (bf:∀ j,j < w→Bd M (f j)) (hw:w≤1000):Ret (loop (exact_twin_l6 row) ([],0)) (fun o=>Lg o w f):=by
  refine ret_loop (Post:=fun o:List Nb=>Lg o w f) w (fun k (s:List Nb×Int)=>s.2=(k:Int)∧Lg s.1 k f) ⟨rfl,rfl,fun c hc=>absurd hc (by omega)⟩ ?_ (by omega)
  rintro k ⟨o,_⟩ hk ⟨rfl,hI⟩
  simp only at hI
  unfold exact_twin_l6
  simp only
  rw [hrow.1,ret_if]
  refine ⟨fun hlt=>?_,fun hge=>⟨_,rfl,by have e:k=w:=(by omega); subst e; exact hI⟩⟩
  have hkw:k < w:=by omega
  obtain ⟨z,h1,h2⟩:=hrow.at hkw (i:=(k:Int)) rfl
  have lz:=h2.lenB (bf k hkw) hM
  rw [h1,obs,ret_bind]
  refine (normZ_ok h2 (by omega)).mono fun r hr=>?_
  rw [ret_bind,ret_app]
  refine ⟨by rw [hI.1]; simp only [List.length_cons,List.length_nil]; omega,_,rfl,hkw,by show wa .i64 (k:Int) 1=_; rw [wa_i (by omega) (by omega)]; rfl,hI.snoc (z:=(r.1,r.2)) hr⟩
theorem twin0_ok {M:Int} (hM:M < pw 60) (hT:Tg T n w A) (bA:∀ i j,i < n→j < w→Bd M (A i j)) (hn:n≤1000) (hw:w≤1000):Ret (exact_twin T []) (fun o=>Tg o n w A):=by
  unfold exact_twin
  rw [ret_bind]
  refine (ret_loop (Post:=fun o:List (List Nb)=>Tg o n w A) n (fun k (s:List (List Nb)×Int)=>s.2=(k:Int)∧Tg s.1 k w A) ⟨rfl,rfl,fun c hc=>absurd hc (by omega)⟩ ?_ (by omega)).mono fun r hr=>⟨_,rfl,hr⟩
  rintro k ⟨o,_⟩ hk ⟨rfl,hI⟩
  simp only at hI
  unfold exact_twin_l5
  simp only
  rw [hT.1,ret_if]
  refine ⟨fun hlt=>?_,fun hge=>⟨_,rfl,by have e:k=n:=(by omega); subst e; exact hI⟩⟩
  have hkn:k < n:=by omega
  obtain ⟨row,h1,h2⟩:=hT.at hkn (i:=(k:Int)) rfl
  rw [h1,obs,ret_bind]
  refine (rowtwin_ok hM h2 (fun j hj=>bA k j hkn hj) hw).mono fun r hr=>?_
  rw [if_neg (by simp)]
  unfold exact_twin_j7
  rw [ret_bind,ret_app]
  exact ⟨by rw [hI.1]; simp only [List.length_cons,List.length_nil]; omega,_,rfl,hkn,by show wa .i64 (k:Int) 1=_; rw [wa_i (by omega) (by omega)]; rfl,hI.snoc hr⟩
theorem xdet_ok {M:Int} (hM:M < pw 60) (hR:Okb n n A M) (hT:Tg T n n A) (bA:∀ i j,i < n→j < n→Bd M (A i j)) (hn:n≤16):Ret (exact_Det T) (fun r=>Bg (det n A) r.1 r.2.1∧r.2.2=0):=by
  unfold exact_Det
  rw [xsquare_ok hT hn,obs,if_pos rfl,ret_bind]
  refine (twin0_ok hM hT bA (by omega) (by omega)).mono fun T' hT'=>?_
  rw [hT.1,ret_bind]
  refine (eliminate_ok hM hR (Nat.le_refl n) (by omega) (by omega) hT').mono ?_
  rintro ⟨R,pv,zs,zl,sn⟩ ⟨A',col,k,hB,hTR,hpv,hd⟩
  simp only at hB hTR hpv hd ⊢
  have hpl:pv.length=k:=by rw [hpv,List.length_map,List.length_range]
  unfold exact_reduced_det
  rw [ret_bind,hpl,ret_if]
  refine ⟨fun hlt=>⟨_,rfl,_,rfl,?_,rfl⟩,fun hge=>?_⟩
  · have hk:k < n:=by omega
    rw [hB.det0 hk]; exact bg_zero
  · have hkn:=hB.kn
    obtain rfl:k=n:=by omega
    have hdet:=hB.det_ok
    have ld:zl.length≤1000:=by
      by_cases h0:k=0
      · subst h0
        have:zl.length≤1:=hd.len (by simp [det]; decide) (by simp [det]; decide)
        omega
      · have bd:=(hR A' col k 0 0 (bar_rows hB) (Nat.le_refl k) (fun s hs=>hB.lt s hs) (by omega) (by omega)).2
        have:=hd.lenB bd hM
        omega
    rw [ret_if]
    refine ⟨fun hneg=>?_,fun hpos=>?_⟩
    · rw [ret_bind]
      refine (negP_bg (s:=zs) hd.1 (by omega)).mono fun r hr=>⟨_,rfl,_,rfl,hr.cast ?_,rfl⟩
      have hs:sn= -1:=by rcases hB.sg.1 with h | h<;>omega
      rw [hd.sv,hdet,hs]; omega
    · rw [ret_bind]
      refine (normP_bg (s:=zs) hd.1 (by omega)).mono fun r hr=>⟨_,rfl,_,rfl,hr.cast ?_,rfl⟩
      have hs:sn=1:=by rcases hB.sg.1 with h | h<;>omega
      rw [hd.sv,hdet,hs]; omega
end
end Km
namespace Km
open Sx Go M Vc Lm Dt
theorem prod_lt {M:Int} (hM:M < pw 60) (h0:0≤M):M*M < pw 120:=by
  have h1:M*M≤M*pw 60:=Int.mul_le_mul_of_nonneg_left (by omega) h0
  have h2:M*pw 60 < pw 60*pw 60:=Int.mul_lt_mul_of_pos_right hM (pw_pos 60)
  have h3:pw 120=pw 60*pw 60:=pw_add 60 60
  omega
theorem sum_lt {M:Int} (hM:M < pw 60) (h0:0≤M) {k:Nat} (hk:k≤1000):(k:Int)*(M*M) < pw 121:=by
  have h1:=prod_lt hM h0
  have h2:=Int.mul_nonneg h0 h0
  have h3:(k:Int)*(M*M)≤1000*(M*M):=Int.mul_le_mul_of_nonneg_right (by omega) h2
  have e:pw 121=B*pw 120:=rfl
  have e2:B=4294967296:=rfl
  have:=pw_pos 120
  rw [e,e2]; omega
section
variable {n w:Nat} {A:Mx} {T:List (List Nb)} {M:Int}
end
theorem place_eq (x:Int) {n:Int} (hn:0 < n) (hm:n≤1000000):sparsekit_Place x n=some (x % 18446744073709551616 % n)∧0≤x % 18446744073709551616 % n∧x % 18446744073709551616 % n < n:=by
  have h1:=Int.emod_nonneg (x % 18446744073709551616) (show n≠0 by omega)
  have h2:=Int.emod_lt_of_pos (x % 18446744073709551616) hn
  refine ⟨?_,h1,h2⟩
  unfold sparsekit_Place
  have e:wc .u64 n=n:=wc_u64_in ⟨by omega,by omega⟩
  have hwr:wr (x % 18446744073709551616) n=some (x % 18446744073709551616 % n):=by
    unfold wr
    rw [if_neg (by omega),Int.tmod_eq_emod_of_nonneg (by omega)]
  rw [e,wc_u64,hwr,obs,wc_i64_in ⟨by omega,by omega⟩]
def sqe (l:List Int) (n:Nat):Mx:=fun i j=>if n*i+j < l.length then l.getD (n*i+j) 0 % 18446744073709551616 % 201 - 100 else 0
theorem sqe_bd (l:List Int) (n i j:Nat):Bd 100 (sqe l n i j):=by
  unfold sqe
  split
  · have h1:=Int.emod_nonneg (l.getD (n*i+j) 0 % 18446744073709551616) (show (201:Int)≠0 by omega)
    have h2:=Int.emod_lt_of_pos (l.getD (n*i+j) 0 % 18446744073709551616) (show (0:Int) < 201 by omega)
    exact ⟨by omega,by omega⟩
  · exact ⟨by omega,by omega⟩
theorem num_ok {v:Int} (h0: -1000000≤v) (h1:v≤1000000):Ret (sparselaw08_num v) (fun r=>Bg v r.1 r.2):=by
  unfold sparselaw08_num
  rw [ret_bind]
  exact (fromR_bg (n:=v) (by omega) (by omega)).mono fun r hr=>⟨_,rfl,hr⟩
theorem square08_ok {l:List Int} (hl:l.length≤1000) {n:Nat} (hn:n≤16):Ret (sparselaw08_square l (n:Int)) (fun T=>Tg T n n (sqe l n)):=by
  unfold sparselaw08_square
  rw [ret_bind]
  refine (ret_loop (Post:=fun T:List (List Nb)=>Tg T n n (sqe l n)) n (fun k (s:List (List Nb)×Int)=>s.2=(k:Int)∧Tg s.1 k n (sqe l n)) ⟨rfl,rfl,fun c hc=>absurd hc (by omega)⟩ ?_ (by omega)).mono fun r hr=>⟨_,rfl,hr⟩
  rintro k ⟨o,_⟩ hk ⟨rfl,hI⟩
  simp only at hI
  unfold sparselaw08_square_l9
  simp only
  rw [ret_if]
  refine ⟨fun hlt=>?_,fun hge=>⟨_,rfl,by have e:k=n:=(by omega); subst e; exact hI⟩⟩
  have hkn:k < n:=by omega
  rw [ret_bind]
  refine (ret_loop (Post:=fun r:List Nb=>Lg r n (sqe l n k)) n (fun j (s:List Nb×Int)=>s.2=(j:Int)∧Lg s.1 j (sqe l n k)) ⟨rfl,rfl,fun c hc=>absurd hc (by omega)⟩ ?_ (by omega)).mono ?_
  · rintro j ⟨r,_⟩ hj ⟨rfl,hJ⟩
    simp only at hJ
    unfold sparselaw08_square_l12
    simp only
    rw [ret_if]
    refine ⟨fun hlt2=>?_,fun hge=>⟨_,rfl,by have e:j=n:=(by omega); subst e; exact hJ⟩⟩
    have hjn:j < n:=by omega
    have hnk:n*k≤16*16:=Nat.mul_le_mul hn (by omega)
    have hidx:wa .i64 (wm .i64 (n:Int) (k:Int)) (j:Int)=((n*k+j:Nat):Int):=by
      have e:(n:Int)*(k:Int)=((n*k:Nat):Int):=by push_cast; rfl
      rw [wm_i (by rw [e]; omega) (by rw [e]; omega),e,wa_i (by omega) (by omega)]; rfl
    have fin:∀ v:Int,v=sqe l n k j→Ret (sparselaw08_square_j13 r (j:Int) v) (VQ (fun s:List Nb×Int=>j < n∧s.2=((j+1:Nat):Int)∧Lg s.1 (j+1) (sqe l n k)) (fun r:List Nb=>Lg r n (sqe l n k))):=by
      rintro v rfl
      have hb:=sqe_bd l n k j
      unfold sparselaw08_square_j13
      rw [ret_bind]
      refine (num_ok (by have:=hb.1; omega) (by have:=hb.2; omega)).mono fun z hz=>?_
      rw [ret_bind,ret_app]
      exact ⟨by rw [hJ.1]; simp only [List.length_cons,List.length_nil]; omega,_,rfl,hjn,by show wa .i64 (j:Int) 1=_; rw [wa_i (by omega) (by omega)]; rfl,hJ.snoc (z:=(z.1,z.2)) hz⟩
    rw [hidx,ret_if]
    refine ⟨fun hin=>?_,fun hout=>fin 0 (by unfold sqe; rw [if_neg (by omega)])⟩
    have hlt3:n*k+j < l.length:=by omega
    obtain ⟨p1,p2,p3⟩:=place_eq (l.getD (n*k+j) 0) (n:=201) (by omega) (by omega)
    have hg:getI l ((n*k+j:Nat):Int)=some (l.getD (n*k+j) 0):=at_some (by rw [List.getD_eq_getElem?_getD,List.getElem?_eq_getElem hlt3]; rfl) rfl
    rw [hg,obs,p1,obs,ws_i (by omega) (by omega)]
    exact fin _ (by unfold sqe; rw [if_pos hlt3])
  · intro r hr
    rw [ret_bind,ret_app]
    exact ⟨by rw [hI.1]; simp only [List.length_cons,List.length_nil]; omega,_,rfl,hkn,by show wa .i64 (k:Int) 1=_; rw [wa_i (by omega) (by omega)]; rfl,hI.snoc hr⟩
def mb (n:Nat):Int:=2*(((4:Nat):Int)*100) ^ (n+2)
theorem mb_ok {n:Nat} (hn:n≤4):mb n < pw 60∧100≤mb n:=by
  have e:(((4:Nat):Int)*100)=400:=by decide
  have h1:=pow_mono (X:=400) (by omega) (show n+2≤6 by omega)
  have h2:=pow_mono (X:=400) (by omega) (show 1≤n+2 by omega)
  have h3:pw 2≤pw 60:=pw_mono (by omega)
  have h4:(2:Int)*400 ^ 6 < pw 2:=by decide
  have h5:(400:Int) ^ 1=400:=by decide
  unfold mb
  rw [e]
  exact ⟨by omega,by omega⟩
theorem sqe_okb {l:List Int} {n w:Nat} {A:Mx} (hn:n≤4) (hA:∀ i j,i < n→j < w→Bd 100 (A i j)):Okb n w A (mb n):=okb_of (K:=4) (M:=100) (by omega) (by omega) hn hA
end Km
namespace Km
open Sx Go M Vc Lm Dt
section
variable {n w:Nat} {A:Mx} {T:List (List Nb)} {M:Int}
end
end Km
namespace Km
open Sx Go M Vc Lm Dt
def Rw (K:Nat) (v:Int) (z:Nb):Prop:=LW z.2∧z.2.length≤K∧sv z.1 z.2=v
def Lr (K:Nat) (l:List Nb) (w:Nat) (f:Nat→Int):Prop:=l.length=w∧∀ c,c < w→∃ z,l[c]?=some z∧Rw K (f c) z
def Tr (K:Nat) (T:List (List Nb)) (n w:Nat) (A:Mx):Prop:=T.length=n∧∀ r,r < n→∃ l,T[r]?=some l∧Lr K l w (A r)
theorem Rw.bd {K:Nat} {v:Int} {z:Nb} (h:Rw K v z):Bd (pw K) v:=by
  obtain ⟨h1,h2,h3⟩:=h
  have a1:=lv_nn h1
  have a2:=lv_lt h1
  have a3:=pw_mono h2
  unfold sv at h3
  split at h3
  · exact ⟨by omega,by omega⟩
  · exact ⟨by omega,by omega⟩
theorem Bg.rw {K:Nat} {v:Int} {z:Nb} (h:Bg v z.1 z.2) (hl:z.2.length≤K):Rw K v z:=⟨h.1,hl,h.sv⟩
theorem Lg.lr {K:Nat} {l:List Nb} {w:Nat} {f:Nat→Int} {M:Int} (h:Lg l w f) (hb:∀ j,j < w→Bd M (f j)) (hM:M < pw K):Lr K l w f:=⟨h.1,fun c hc=>by
  obtain ⟨z,h1,h2⟩:=h.2 c hc
  exact ⟨z,h1,h2.rw (h2.lenB (hb c hc) hM)⟩⟩
theorem Tg.tr {K:Nat} {T:List (List Nb)} {n w:Nat} {A:Mx} {M:Int} (h:Tg T n w A) (hb:∀ i j,i < n→j < w→Bd M (A i j)) (hM:M < pw K):Tr K T n w A:=⟨h.1,fun r hr=>by
  obtain ⟨l,h1,h2⟩:=h.2 r hr
  exact ⟨l,h1,h2.lr (fun j hj=>hb r j hr hj) hM⟩⟩
theorem Lr.at {K:Nat} {l:List Nb} {w:Nat} {f:Nat→Int} (h:Lr K l w f) {c:Nat} (hc:c < w) {i:Int} (hi:i=(c:Int)):∃ z,getI l i=some z∧Rw K (f c) z:=by
  obtain ⟨z,h1,h2⟩:=h.2 c hc
  exact ⟨z,at_some h1 hi,h2⟩
theorem Tr.at {K:Nat} {T:List (List Nb)} {n w:Nat} {A:Mx} (h:Tr K T n w A) {r:Nat} (hr:r < n) {i:Int} (hi:i=(r:Int)):∃ l,getI T i=some l∧Lr K l w (A r):=by
  obtain ⟨l,h1,h2⟩:=h.2 r hr
  exact ⟨l,at_some h1 hi,h2⟩
def Sh (T:List (List Nb)) (n w:Nat):Prop:=T.length=n∧∀ r,r < n→∃ l,T[r]?=some l∧l.length=w
theorem Tr.sh {K:Nat} {T:List (List Nb)} {n w:Nat} {A:Mx} (h:Tr K T n w A):Sh T n w:=⟨h.1,fun r hr=>by
  obtain ⟨l,h1,h2⟩:=h.2 r hr
  exact ⟨l,h1,h2.1⟩⟩
theorem Sh.at {T:List (List Nb)} {n w:Nat} (h:Sh T n w) {r:Nat} (hr:r < n) {i:Int} (hi:i=(r:Int)):∃ l,getI T i=some l∧l.length=w:=by
  obtain ⟨l,h1,h2⟩:=h.2 r hr
  exact ⟨l,at_some h1 hi,h2⟩
section
variable {n w K:Nat} {A:Mx} {T:List (List Nb)}
theorem ycolumns_ok (hT:Sh T n w):exact_columns T=some (if n=0 then 0 else (w:Int)):=by
  unfold exact_columns
  by_cases h0:n=0
  · rw [if_pos (by rw [hT.1]; omega),if_pos h0]
  · rw [if_neg (by rw [hT.1]; omega),if_neg h0]
    obtain ⟨l,h1,h2⟩:=hT.at (r:=0) (by omega) (i:=0) rfl
    rw [h1,obs,h2]
theorem ycheck_ok (hT:Sh T n w) (hn:n≤16) (hw:w≤16):exact_check T=some 0:=by
  have hc:slices_ContainsFunc_apiBig T (if n=0 then 0 else (w:Int))=some false:=by
    refine Ret.eq ?_
    unfold slices_ContainsFunc_apiBig slices_IndexFunc_apiBig
    rw [ret_bind,ret_bind]
    refine (ret_loop (Post:=fun o=>o=.inl ()) n (fun k (i:Int)=>i=(k:Int)) rfl ?_ (by omega)).mono ?_
    · rintro k _ hk rfl
      unfold slices_IndexFunc_apiBig_l1
      rw [hT.1,ret_if]
      refine ⟨fun hlt=>?_,fun _=>⟨_,rfl,rfl⟩⟩
      obtain ⟨l,h1,h2⟩:=hT.at (r:=k) (by omega) (i:=(k:Int)) rfl
      unfold exact_check_1
      rw [h1,obs,obs,h2,if_neg (show ¬ n=0 by omega)]
      simp only [decide_true,Bool.not_true,Bool.false_eq_true,if_false]
      exact ⟨_,rfl,by omega,by show wa .i64 (k:Int) 1=_; rw [wa_i (by omega) (by omega)]; rfl⟩
    · rintro _ rfl
      exact ⟨_,rfl,_,rfl,rfl⟩
  unfold exact_check
  rw [ycolumns_ok hT,obs,hc,obs,if_neg (by simp),hT.1,if_neg]
  simp only [Bool.or_eq_true,decide_eq_true_eq,not_or]
  split<;>omega
theorem ysquare_ok (hT:Sh T n n) (hn:n≤16):exact_square T=some 0:=by
  unfold exact_square
  rw [ycheck_ok hT hn hn,obs,if_pos rfl,ycolumns_ok hT,obs,hT.1]
  have:(!(decide ((n:Int)=if n=0 then 0 else (n:Int))))=false:=by split<;>simp<;>omega
  rw [this,obs,if_neg (by simp)]
theorem normR_ok {v:Int} {z:Nb} (hz:Rw K v z) (hK:K≤400):Ret (integer_Norm z.1 z.2) (fun r=>Bg v r.1 r.2):=(normP_bg (s:=z.1) hz.1 (by have:=hz.2.1; omega)).mono fun r hr=>by rw [hz.2.2] at hr; exact hr
theorem yrowtwin_ok {row:List Nb} {f:Nat→Int} (hrow:Lr K row w f) (hK:K≤400) (hw:w≤1000):Ret (loop (exact_twin_l6 row) ([],0)) (fun o=>Lg o w f):=by
  refine ret_loop (Post:=fun o:List Nb=>Lg o w f) w (fun k (s:List Nb×Int)=>s.2=(k:Int)∧Lg s.1 k f) ⟨rfl,rfl,fun c hc=>absurd hc (by omega)⟩ ?_ (by omega)
  rintro k ⟨o,_⟩ hk ⟨rfl,hI⟩
  simp only at hI
  unfold exact_twin_l6
  simp only
  rw [hrow.1,ret_if]
  refine ⟨fun hlt=>?_,fun hge=>⟨_,rfl,by have e:k=w:=(by omega); subst e; exact hI⟩⟩
  have hkw:k < w:=by omega
  obtain ⟨z,h1,h2⟩:=hrow.at hkw (i:=(k:Int)) rfl
  rw [h1,obs,ret_bind]
  refine (normR_ok h2 hK).mono fun r hr=>?_
  rw [ret_bind,ret_app]
  refine ⟨by rw [hI.1]; simp only [List.length_cons,List.length_nil]; omega,_,rfl,hkw,by show wa .i64 (k:Int) 1=_; rw [wa_i (by omega) (by omega)]; rfl,hI.snoc (z:=(r.1,r.2)) hr⟩
theorem ytwin0_ok (hT:Tr K T n w A) (hK:K≤400) (hn:n≤1000) (hw:w≤1000):Ret (exact_twin T []) (fun o=>Tg o n w A):=by
  unfold exact_twin
  rw [ret_bind]
  refine (ret_loop (Post:=fun o:List (List Nb)=>Tg o n w A) n (fun k (s:List (List Nb)×Int)=>s.2=(k:Int)∧Tg s.1 k w A) ⟨rfl,rfl,fun c hc=>absurd hc (by omega)⟩ ?_ (by omega)).mono fun r hr=>⟨_,rfl,hr⟩
  rintro k ⟨o,_⟩ hk ⟨rfl,hI⟩
  simp only at hI
  unfold exact_twin_l5
  simp only
  rw [hT.1,ret_if]
  refine ⟨fun hlt=>?_,fun hge=>⟨_,rfl,by have e:k=n:=(by omega); subst e; exact hI⟩⟩
  have hkn:k < n:=by omega
  obtain ⟨row,h1,h2⟩:=hT.at hkn (i:=(k:Int)) rfl
  rw [h1,obs,ret_bind]
  refine (yrowtwin_ok h2 hK hw).mono fun r hr=>?_
  rw [if_neg (by simp)]
  unfold exact_twin_j7
  rw [ret_bind,ret_app]
  exact ⟨by rw [hI.1]; simp only [List.length_cons,List.length_nil]; omega,_,rfl,hkn,by show wa .i64 (k:Int) 1=_; rw [wa_i (by omega) (by omega)]; rfl,hI.snoc hr⟩
theorem Lg.zeros' (w:Nat):Lg (List.replicate w ((false,[]):Nb)) w (fun _=>0):=⟨List.length_replicate ..,fun c hc=>⟨(false,[]),by rw [List.getElem?_replicate,if_pos hc],bg_zero⟩⟩
end
end Km
namespace Km
open Sx Go M Vc Lm Dt
section
variable {n w K:Nat} {A:Mx} {T:List (List Nb)}
theorem yrank_ok {M:Int} (hM:M < pw 60) (hT:Tr K T n w A) (hK:K≤400) (hR:Okb n w A M) (hn:n≤16) (hw:w≤16) (hn0:0 < n∨w=0):∃ k:Nat,exact_Rank T=some ((k:Int),0)∧∃ A' col sn,Bar n w A A' col k w sn:=by
  obtain ⟨T',ht,hT'⟩:=ytwin0_ok hT hK (by omega) (by omega)
  obtain ⟨⟨R,pv,zs,zl,sn⟩,hel,A',col,k,hB,hTR,hpv,hd⟩:=eliminate_ok (cw:=w) hM hR (Nat.le_refl w) (by omega) (by omega) hT'
  simp only at hB hTR hpv hd
  have hpl:pv.length=k:=by rw [hpv,List.length_map,List.length_range]
  refine ⟨k,?_,A',col,sn,hB⟩
  have hcol:exact_columns T=some (w:Int):=by
    rw [ycolumns_ok hT.sh]
    split
    · rename_i h0; have:w=0:=(by omega); rw [this]; rfl
    · rfl
  unfold exact_Rank
  rw [ycheck_ok hT.sh hn hw,obs,if_pos rfl,ht,obs,hcol,obs,hel,obs]
  simp only
  rw [hpl]
end
end Km
namespace Km
open Sx Go M Vc Lm Dt
theorem if_ck {p q:Prop} [Decidable p] [Decidable q] {x y:Int} (h:p↔q):(if p then x else y)=if q then x else y:=by
  by_cases hp:p
  · rw [if_pos hp,if_pos (h.1 hp)]
  · rw [if_neg hp,if_neg (fun e=>hp (h.2 e))]
def addI (A:Mx) (c:Int):Mx:=fun i j=>A i j+if i=j then c else 0
def FL (n:Nat) (A:Mx) (c:Nat→Int):Nat→Mx
  | 0=>fun _ _=>0
  | k+1=>mul n A (addI (FL n A c k) (c k))
section
variable {n:Nat} {A B:Mx} {M:Int}
theorem pinner_ok {row:List Nb} {f:Nat→Int} {U:List (List Nb)} {w v j:Nat} (hM:M < pw 60) (hr:Lg row w f) (hU:Tg U w v B) (bf:∀ k,k < w→Bd M (f k)) (bB:∀ k,k < w→Bd M (B k j)) (hj:j < v) (hw:w≤900):Ret (loop (exact_product_v2_l13 row U (j:Int)) (false,[],0)) (fun r:Bool×List Int=>Bg (sm w fun k=>f k*B k j) r.1 r.2):=by
  refine ret_loop (Post:=fun r:Bool×List Int=>Bg (sm w fun k=>f k*B k j) r.1 r.2) w (fun k (s:Bool×List Int×Int)=>s.2.2=(k:Int)∧Bg (sm k fun k=>f k*B k j) s.1 s.2.1) ⟨rfl,bg_zero.cast (show (0:Int)=sm 0 (fun k=>f k*B k j) from rfl)⟩ ?_ (by omega)
  rintro k ⟨ys,yl,_⟩ hk ⟨rfl,hJ⟩
  simp only at hJ
  unfold exact_product_v2_l13
  simp only
  rw [hr.1,ret_if]
  refine ⟨fun hlt2=>?_,fun hge=>⟨_,rfl,by have e:k=w:=(by omega); subst e; exact hJ⟩⟩
  have hkw:k < w:=by omega
  have hM0:=(bf k hkw).nn
  obtain ⟨x,h3,h4⟩:=hr.at hkw (i:=(k:Int)) rfl
  obtain ⟨l,h5,h6⟩:=hU.at hkw (i:=(k:Int)) rfl
  obtain ⟨y,h7,h8⟩:=h6.at hj (i:=(j:Int)) rfl
  have lx:=h4.lenB (bf k hkw) hM
  have ly:=h8.lenB (bB k hkw) hM
  rw [h3,obs,h5,obs,h7,obs,ret_bind]
  refine (mul_bg (s:=x.1) (t:=y.1) h4.1 h8.1 (by omega) (by omega)).mono fun u hu=>?_
  rw [h4.sv,h8.sv] at hu
  have lu:=hu.lenB ((bf k hkw).mul (bB k hkw)) (prod_lt hM hM0)
  have ls:=hJ.lenB (sm_bd (Int.mul_nonneg hM0 hM0) fun q hq=>(bf q (by omega)).mul (bB q (by omega))) (sum_lt hM hM0 (by omega))
  rw [ret_bind]
  refine (add_bg (s:=ys) (t:=u.1) hJ.1 hu.1 (by omega) (by omega)).mono fun v hv=>?_
  rw [hJ.sv,hu.sv] at hv
  exact ⟨_,rfl,hkw,by show wa .i64 (k:Int) 1=_; rw [wa_i (by omega) (by omega)]; rfl,hv⟩
theorem yproduct2_ok (hM:M < pw 60) {T U:List (List Nb)} (hT:Tg T n n A) (hU:Tg U n n B) (bA:∀ i j,i < n→j < n→Bd M (A i j)) (bB:∀ i j,i < n→j < n→Bd M (B i j)) (hn:n≤900):Ret (exact_product_v2 T U) (fun r=>Tg r n n (mul n A B)):=by
  unfold exact_product_v2
  rw [ret_bind]
  refine (ret_loop (Post:=fun r:List (List Nb)=>Tg r n n (mul n A B)) n (fun j (s:List (List Nb)×Int)=>s.2=(j:Int)∧Tg s.1 j n (mul n A B)) ⟨rfl,rfl,fun c hc=>absurd hc (by omega)⟩ ?_ (by omega)).mono fun r hr=>⟨_,rfl,hr⟩
  rintro j ⟨o,_⟩ hj ⟨rfl,hI⟩
  simp only at hI
  unfold exact_product_v2_l9
  simp only
  rw [hT.1,ret_if]
  refine ⟨fun hlt=>?_,fun hge=>⟨_,rfl,by have e:j=n:=(by omega); subst e; exact hI⟩⟩
  have hjn:j < n:=by omega
  obtain ⟨row,h1,h2⟩:=hT.at hjn (i:=(j:Int)) rfl
  rw [h1,obs,ret_bind]
  have key:Ret (loop (exact_product_v2_l12 row U) ([],0)) (fun r:List Nb=>Lg r n (mul n A B j)):=by
    refine ret_loop (Post:=fun r:List Nb=>Lg r n (mul n A B j)) n (fun i (s:List Nb×Int)=>s.2=(i:Int)∧Lg s.1 i (mul n A B j)) ⟨rfl,rfl,fun c hc=>absurd hc (by omega)⟩ ?_ (by omega)
    rintro i ⟨r,_⟩ hi ⟨rfl,hJ⟩
    simp only at hJ
    unfold exact_product_v2_l12
    simp only
    rw [h2.1,ret_if]
    refine ⟨fun hlt2=>?_,fun hge=>⟨_,rfl,by have e:i=n:=(by omega); subst e; exact hJ⟩⟩
    have hin:i < n:=by omega
    rw [ret_bind]
    refine (pinner_ok hM h2 hU (fun k hk=>bA j k hjn hk) (fun k hk=>bB k i hk hin) hin hn).mono fun z hz=>?_
    rw [ret_bind,ret_app]
    exact ⟨by rw [hJ.1]; simp only [List.length_cons,List.length_nil]; omega,_,rfl,hin,by show wa .i64 (i:Int) 1=_; rw [wa_i (by omega) (by omega)]; rfl,hJ.snoc (z:=(z.1,z.2)) hz⟩
  refine key.mono fun r hr=>?_
  rw [ret_bind,ret_app]
  exact ⟨by rw [hI.1]; simp only [List.length_cons,List.length_nil]; omega,_,rfl,hjn,by show wa .i64 (j:Int) 1=_; rw [wa_i (by omega) (by omega)]; rfl,hI.snoc hr⟩
theorem cdiag_ok {k:Nat} {X:Mx} {c:Int} (hM:M < pw 60) {T D P:List (List Nb)} {p:List Nb} (hk1:1≤k) (hk:k≤n) (hn:n≤900) (hD:D.length=n) (hT:Tg T n n X) (hP:T.length=n) (bX:∀ i j,i < n→j < n→Bd M (X i j)) (bc:Bd M c) {w:Nat} (hpl:w=n) {q:Nb} (hq:getI p (wa .i64 (ws .i64 (w:Int) (k:Int)) 1)=some q) (hqc:Bg c q.1 q.2) {S:List (List Nb)} (hS:S.length=w):
    Ret (loop (exact_characteristic_l9 D p S (k:Int)) (T,0)) (fun r=>Tg r n n (addI X c)):=by
  subst hpl
  refine ret_loop (Post:=fun r:List (List Nb)=>Tg r w w (addI X c)) w (fun i (s:List (List Nb)×Int)=>s.2=(i:Int)∧Tg s.1 w w (fun r j=>X r j+if r=j∧r < i then c else 0)) ⟨rfl,hT.congr fun r j _ _=>by rw [if_neg (by omega),Int.add_zero]⟩ ?_ (by omega)
  rintro i ⟨t,_⟩ hi ⟨rfl,hI⟩
  simp only at hI
  unfold exact_characteristic_l9
  simp only
  rw [hD,ret_if]
  refine ⟨fun hlt=>?_,fun hge=>⟨_,rfl,hI.congr fun r j hr _=>by unfold addI; exact congrArg _ (if_ck ⟨fun h=>h.1,fun h=>⟨h,by omega⟩⟩)⟩⟩
  have hin:i < w:=by omega
  obtain ⟨row,h1,h2⟩:=hI.at hin (i:=(i:Int)) rfl
  obtain ⟨z,h3,h4⟩:=h2.at hin (i:=(i:Int)) rfl
  rw [if_neg (by omega),Int.add_zero] at h4
  have lz:=h4.lenB (bX i i hin hin) hM
  have lq:=hqc.lenB bc hM
  rw [h1,obs,obs,h3,obs,hS,hq,obs,ret_bind]
  refine (add_bg (s:=z.1) (t:=q.1) h4.1 hqc.1 (by omega) (by omega)).mono fun v hv=>?_
  rw [h4.sv,hqc.sv] at hv
  rw [set_some (by rw [h2.1]; exact hin) rfl,obs,set_some (by rw [hI.1]; exact hin) rfl,obs]
  refine ⟨_,rfl,hin,by show wa .i64 (i:Int) 1=_; rw [wa_i (by omega) (by omega)]; rfl,(hI.set hin (h2.set hin hv)).congr fun r j hr hj=>?_⟩
  by_cases e:r=i
  · subst e
    rw [up_in]
    by_cases e2:j=r
    · subst e2; rw [if_pos rfl,if_pos ⟨rfl,by omega⟩]
    · rw [if_neg e2,if_neg (by omega),if_neg (by omega)]
  · rw [up_out e]
    exact congrArg _ (if_ck ⟨fun h=>⟨h.1,by omega⟩,fun h=>⟨h.1,by omega⟩⟩)
theorem ctrace_ok {X:Mx} (hM:M < pw 60) {T:List (List Nb)} (hT:Tg T n n X) (bX:∀ i j,i < n→j < n→Bd M (X i j)) (hn:n≤900):Ret (loop (exact_characteristic_l10 T) (false,[],0)) (fun r:Bool×List Int=>Bg (sm n fun i=>X i i) r.1 r.2):=by
  refine ret_loop (Post:=fun r:Bool×List Int=>Bg (sm n fun i=>X i i) r.1 r.2) n (fun k (s:Bool×List Int×Int)=>s.2.2=(k:Int)∧Bg (sm k fun i=>X i i) s.1 s.2.1) ⟨rfl,bg_zero.cast (show (0:Int)=sm 0 (fun i=>X i i) from rfl)⟩ ?_ (by omega)
  rintro k ⟨ys,yl,_⟩ hk ⟨rfl,hJ⟩
  simp only at hJ
  unfold exact_characteristic_l10
  simp only
  rw [hT.1,ret_if]
  refine ⟨fun hlt2=>?_,fun hge=>⟨_,rfl,by have e:k=n:=(by omega); subst e; exact hJ⟩⟩
  have hkw:k < n:=by omega
  have hM0:=(bX k k hkw hkw).nn
  obtain ⟨l,h5,h6⟩:=hT.at hkw (i:=(k:Int)) rfl
  obtain ⟨y,h7,h8⟩:=h6.at hkw (i:=(k:Int)) rfl
  have ly:=h8.lenB (bX k k hkw hkw) hM
  have ls:=hJ.lenB (sm_bd hM0 fun q hq=>bX q q (by omega) (by omega)) (show (k:Int)*M < pw 61 by
    have h1:(k:Int)*M≤((1000:Nat):Int)*M:=nat_le_mul (by omega) hM0
    have h2:pw 61=B*pw 60:=rfl
    have h3:B=4294967296:=rfl
    rw [h3] at h2
    omega)
  rw [h5,obs,h7,obs,ret_bind]
  refine (add_bg (s:=ys) (t:=y.1) hJ.1 h8.1 (by omega) (by omega)).mono fun v hv=>?_
  rw [hJ.sv,h8.sv] at hv
  exact ⟨_,rfl,hkw,by show wa .i64 (k:Int) 1=_; rw [wa_i (by omega) (by omega)]; rfl,hv⟩
theorem char_ok {c:Nat→Int} (hM:M < pw 60) {T:List (List Nb)} (hT:Tg T n n A) (hn:n≤16) (bA:∀ i j,i < n→j < n→Bd M (A i j)) (bF:∀ k,k≤n→∀ i j,i < n→j < n→Bd M (FL n A c k i j)∧Bd M (addI (FL n A c k) (c k) i j)) (bc:∀ k,k≤n→Bd M (c k)) (h0:c 0=1) (hc:∀ k,1≤k→k≤n→sm n (fun i=>FL n A c k i i)=(k:Int)* - c k):
    Ret (exact_characteristic T) (fun P=>Lg P (n+1) (fun i=>c (n - i))):=by
  unfold exact_characteristic
  rw [hT.1,wa_i (by omega) (by omega),ret_bind,ret_mkL]
  refine ⟨by omega,by omega,?_⟩
  rw [show ((n:Int)+1).toNat=n+1 by omega,ret_bind]
  refine (from_bg (n:=1) (by omega) (by omega)).mono fun one hone=>?_
  rw [set_some (k:=n) (by rw [List.length_replicate]; omega) rfl,obs,ret_bind,ret_mkL]
  refine ⟨by omega,by omega,?_⟩
  rw [show ((n:Int)).toNat=n by omega,ret_bind]
  have hz:Ret (loop (exact_characteristic_l1 (List.replicate n ([]:List Nb)) T) (List.replicate n [],0)) (fun r=>Tg r n n (fun _ _=>0)):=by
    refine ret_loop (Post:=fun r:List (List Nb)=>Tg r n n (fun _ _=>0)) n (fun i (s:List (List Nb)×Int)=>s.2=(i:Int)∧s.1.length=n∧∀ r,r < i→r < n→∃ l,s.1[r]?=some l∧Lg l n (fun _=>0)) ⟨rfl,List.length_replicate ..,fun r hr=>absurd hr (by omega)⟩ ?_ (by omega)
    rintro i ⟨t,_⟩ hi ⟨rfl,hl,hI⟩
    simp only at hl hI
    unfold exact_characteristic_l1
    simp only
    rw [List.length_replicate,ret_if]
    refine ⟨fun hlt=>?_,fun hge=>⟨_,rfl,hl,fun r hr=>hI r (by omega) hr⟩⟩
    have hin:i < n:=by omega
    rw [hT.1,ret_bind,ret_mkL]
    refine ⟨by omega,by omega,?_⟩
    rw [show ((n:Int)).toNat=n by omega,set_some (by rw [hl]; exact hin) rfl,obs]
    refine ⟨_,rfl,hin,by show wa .i64 (i:Int) 1=_; rw [wa_i (by omega) (by omega)]; rfl,by rw [List.length_set]; exact hl,fun r hr hrn=>?_⟩
    by_cases e:r=i
    · subst e; exact ⟨_,by rw [List.getElem?_set_self]; rw [hl]; exact hin,Lg.zeros' n⟩
    · obtain ⟨l,g1,g2⟩:=hI r (by omega) hrn
      exact ⟨l,by rw [List.getElem?_set_ne (fun h=>e h.symm)]; exact g1,g2⟩
  refine hz.mono fun z hz=>?_
  rw [ret_bind]
  have hM0:0≤M:=(bc 0 (by omega)).nn
  refine (ret_loop (Post:=fun P:List Nb=>Lg P (n+1) (fun i=>c (n - i))) n (fun t (s:List Nb×List (List Nb)×Int)=>s.2.2=((t+1:Nat):Int)∧t≤n∧Lg s.1 (n+1) (fun i=>if n - i < t+1 then c (n - i) else 0)∧Tg s.2.1 n n (FL n A c t)) ⟨rfl,by omega,?_,hz⟩ ?_ (by omega)).mono fun r hr=>⟨_,rfl,hr⟩
  · refine ((Lg.zeros' (n+1)).set (c:=n) (by omega) (hone.cast h0.symm)).congr fun i hi=>?_
    by_cases e:i=n
    · subst e; rw [if_pos rfl,if_pos (by omega),Nat.sub_self]
    · rw [if_neg e,if_neg (by omega)]
  · rintro t ⟨P,F,_⟩ ht ⟨rfl,htn,hP,hF⟩
    simp only at hP hF
    unfold exact_characteristic_l8
    simp only
    rw [hT.1,ret_if]
    refine ⟨fun hle=>?_,fun hge=>⟨_,rfl,hP.congr fun i hi=>by rw [if_pos (by omega)]⟩⟩
    have htn1:t+1≤n:=by omega
    obtain ⟨q,q1,q2⟩:=hP.at (c:=n - t) (by omega) (i:=wa .i64 (ws .i64 (n:Int) ((t+1:Nat):Int)) 1) (by rw [ws_i (by omega) (by omega),wa_i (by omega) (by omega)]; omega)
    rw [if_pos (by omega),show n - (n - t)=t by omega] at q2
    rw [ret_bind]
    refine (cdiag_ok (k:=t+1) (X:=FL n A c t) (c:=c t) (D:=F) (P:=F) (S:=T) (w:=n) hM (by omega) htn1 (by omega) hF.1 hF hF.1 (fun i j hi hj=>(bF t htn i j hi hj).1) (bc t htn) rfl q1 q2 hT.1).mono fun G hG=>?_
    rw [ret_bind]
    refine (yproduct2_ok hM hT hG bA (fun i j hi hj=>(bF t htn i j hi hj).2) (by omega)).mono fun H hH=>?_
    have hH:Tg H n n (FL n A c (t+1)):=hH
    rw [ret_bind]
    refine (ctrace_ok hM hH (fun i j hi hj=>(bF (t+1) htn1 i j hi hj).1) (by omega)).mono fun tr htr=>?_
    rw [hc (t+1) (by omega) htn1] at htr
    rw [ret_bind]
    refine (from_bg (n:=((t+1:Nat):Int)) (by omega) (by omega)).mono fun kk hkk=>?_
    have bt:Bd (((t+1:Nat):Int)*M) (((t+1:Nat):Int)* - c (t+1)):=Bd.mul ⟨by omega,by omega⟩ (bc (t+1) htn1).neg
    have lt:tr.2.length≤61:=htr.lenB bt (by
      have h1:((t+1:Nat):Int)*M≤((1000:Nat):Int)*M:=nat_le_mul (by omega) hM0
      have h2:pw 61=B*pw 60:=rfl
      have h3:B=4294967296:=rfl
      rw [h3] at h2
      omega)
    have lk:kk.2.length≤1:=hkk.len (by rw [show pw 1=4294967296 from rfl]; omega) (by rw [show pw 1=4294967296 from rfl]; omega)
    rw [ret_bind]
    refine (quoP_bg (s:=tr.1) (t:=kk.1) htr.1 hkk.1 (by omega) (by omega) (by rw [hkk.sv]; omega) (h:=- c (t+1)) (by rw [htr.sv,hkk.sv])).mono fun qq hqq=>?_
    have lqq:=hqq.1.lenB (bc (t+1) htn1).neg hM
    rw [ret_bind]
    refine (negP_bg (s:=qq.1) hqq.1.1 (by omega)).mono fun ng hng=>?_
    rw [hqq.1.sv,Int.neg_neg] at hng
    rw [ws_i (by omega) (by omega),set_some (k:=n - (t+1)) (by rw [hP.1]; omega) (by omega),obs]
    refine ⟨_,rfl,by omega,by show wa .i64 ((t+1:Nat):Int) 1=_; rw [wa_i (by omega) (by omega)]; rfl,htn1,(hP.set (by omega) (hng.cast (show c (t+1)=c (n - (n - (t+1))) by rw [show n - (n - (t+1))=t+1 by omega]))).congr fun i hi=>?_,hH⟩
    by_cases e:i=n - (t+1)
    · subst e; rw [if_pos rfl,if_pos (by omega)]
    · rw [if_neg e]; exact if_ck ⟨fun h=>by omega,fun h=>by omega⟩
end
end Km
namespace Km
open Sx Go M Vc Lm Dt
def Pd (n:Nat) (A:Mx):Prop:=∀ i j,n≤i∨n≤j→A i j=0
def pad (n:Nat) (A:Mx):Mx:=fun i j=>if i < n∧j < n then A i j else 0
theorem pad_pd (n:Nat) (A:Mx):Pd n (pad n A):=fun i j h=>if_neg (by omega)
theorem pad_in {n:Nat} {A:Mx} {i j:Nat} (hi:i < n) (hj:j < n):pad n A i j=A i j:=if_pos ⟨hi,hj⟩
theorem sm_pad {n m:Nat} (h:n≤m) {f:Nat→Int} (hf:∀ i,n≤i→f i=0):sm m f=sm n f:=by
  induction m with
  | zero=>
    have:n=0:=by omega
    subst this; rfl
  | succ m ih=>
    by_cases e:n=m+1
    · subst e; rfl
    · have h1:=ih (by omega)
      show sm m f+f m=_
      rw [h1,hf m (by omega),Int.add_zero]
theorem pt_pad {n:Nat} (hn:n≤4) {A:Mx} (hA:Pd n A):∀ k i j,pt 4 A k i j=pt n A k i j
  | 0=>fun i j=>rfl
  | k+1=>fun i j=>by
    show sm 4 (fun l=>A i l*pt 4 A k l j)=sm n fun l=>A i l*pt n A k l j
    rw [sm_pad hn fun l hl=>by rw [hA i l (Or.inr hl),Int.zero_mul]]
    exact sm_congr fun l _=>by rw [pt_pad hn hA k]
theorem pt_zero {n:Nat} {A:Mx} (hA:Pd n A):∀ k i j,n≤i→pt n A k i j=0
  | 0=>fun i j h=>hA i j (Or.inl h)
  | k+1=>fun i j h=>sm_zero fun l _=>by rw [hA i l (Or.inl h),Int.zero_mul]
theorem pw4_pad {n:Nat} (hn:n≤4) {A:Mx} (hA:Pd n A) (k:Nat):pw4 A k=sm n fun i=>pt n A k i i:=by
  show sm 4 (fun i=>pt 4 A k i i)=_
  have:sm 4 (fun i=>pt 4 A k i i)=sm 4 (fun i=>pt n A k i i):=sm_congr fun i _=>pt_pad hn hA k i i
  rw [this]
  exact sm_pad hn fun i hi=>pt_zero hA k i i hi
theorem FL_eq {n:Nat} {A:Mx} {c:Nat→Int}:∀ k i j,i < n→j < n→FL n A c (k+1) i j=sm (k+1) fun m=>c m*pt n A (k - m) i j:=by
  have st:∀ k i j,j < n→FL n A c (k+1) i j=sm n (fun l=>A i l*FL n A c k l j)+c k*A i j:=fun k i j hj=>by
    show sm n (fun l=>A i l*(FL n A c k l j+if l=j then c k else 0))=_
    have:sm n (fun l=>A i l*(FL n A c k l j+if l=j then c k else 0))=sm n (fun l=>A i l*FL n A c k l j+if l=j then A i l*c k else 0):=sm_congr fun l _=>by
      split
      · grind
      · rw [Int.add_zero,Int.add_zero]
    rw [this,sm_add,sm_one (f:=fun l=>A i l*c k) hj,Int.mul_comm (c k)]
  intro k
  induction k with
  | zero=>
    intro i j hi hj
    rw [st 0 i j hj]
    have:sm n (fun l=>A i l*FL n A c 0 l j)=0:=sm_zero fun l _=>Int.mul_zero _
    rw [this]
    show 0+c 0*A i j=0+c 0*A i j
    rfl
  | succ k ih=>
    intro i j hi hj
    rw [st (k+1) i j hj]
    have e1:sm n (fun l=>A i l*FL n A c (k+1) l j)=sm n fun l=>sm (k+1) fun m=>c m*(A i l*pt n A (k - m) l j):=sm_congr fun l hl=>by
      rw [ih l j hl hj,← sm_mul]
      exact sm_congr fun m _=>by grind
    rw [e1,sm_swap]
    have e2:sm (k+1) (fun m=>sm n fun l=>c m*(A i l*pt n A (k - m) l j))=sm (k+1) fun m=>c m*pt n A (k+1 - m) i j:=sm_congr fun m hm=>by
      rw [sm_mul,show k+1 - m=(k - m)+1 by omega]; rfl
    rw [e2]
    show _=sm (k+1) (fun m=>c m*pt n A (k+1 - m) i j)+c (k+1)*pt n A (k+1 - (k+1)) i j
    rw [Nat.sub_self]; rfl
theorem FL_tr {n:Nat} (hn:n≤4) {A:Mx} (hA:Pd n A) {c:Nat→Int} (k:Nat):sm n (fun i=>FL n A c (k+1) i i)=sm (k+1) fun m=>c m*pw4 A (k - m):=by
  have e:sm n (fun i=>FL n A c (k+1) i i)=sm n fun i=>sm (k+1) fun m=>c m*pt n A (k - m) i i:=sm_congr fun i hi=>FL_eq k i i hi hi
  rw [e,sm_swap]
  exact sm_congr fun m _=>by rw [sm_mul,pw4_pad hn hA]
def cf (e1 e2 e3 e4:Int):Nat→Int
  | 0=>1
  | 1=>-e1
  | 2=>e2
  | 3=>-e3
  | 4=>e4
  | _=>0
theorem cf_newton {n:Nat} (hn:n≤4) {A:Mx} (hA:Pd n A) {e1 e2 e3 e4:Int} (h:Es A e1 e2 e3 e4):∀ k,1≤k→k≤4→sm n (fun i=>FL n A (cf e1 e2 e3 e4) k i i)=(k:Int)* - cf e1 e2 e3 e4 k:=by
  intro k h1 h4
  obtain ⟨a1,a2,a3,a4⟩:=h
  have e:=fun k=>FL_tr hn hA (c:=cf e1 e2 e3 e4) k
  match k,h1,h4 with
  | 1,_,_=>
    rw [e 0]
    show 0+1*pw4 A 0=((1:Nat):Int)* - -e1
    omega
  | 2,_,_=>
    rw [e 1]
    show 0+1*pw4 A 1+ -e1*pw4 A 0=((2:Nat):Int)* -e2
    rw [Int.neg_mul]; omega
  | 3,_,_=>
    rw [e 2]
    show 0+1*pw4 A 2+ -e1*pw4 A 1+e2*pw4 A 0=((3:Nat):Int)* - -e3
    rw [Int.neg_mul]; omega
  | 4,_,_=>
    rw [e 3]
    show 0+1*pw4 A 3+ -e1*pw4 A 2+e2*pw4 A 1+ -e3*pw4 A 0=((4:Nat):Int)* -e4
    rw [Int.neg_mul,Int.neg_mul]; omega
theorem FL_bd {n:Nat} (hn:n≤4) {A:Mx} {c:Nat→Int} {X:Int} (hX:1≤X) (bA:∀ i j,i < n→j < n→Bd X (A i j)) (h0:c 0=1) (hc:∀ k,1≤k→k≤n→sm n (fun i=>FL n A c k i i)=(k:Int)* - c k):∀ k,k≤n→(∀ i j,i < n→j < n→Bd ((20*X) ^ k) (FL n A c k i j))∧Bd (4*(20*X) ^ k) (c k):=by
  intro k
  induction k with
  | zero=>
    intro _
    exact ⟨fun i j _ _=>⟨by rw [Int.pow_zero]; show -1≤(0:Int); omega,by rw [Int.pow_zero]; show (0:Int)≤1; omega⟩,by rw [h0,Int.pow_zero]; exact ⟨by omega,by omega⟩⟩
  | succ k ih=>
    intro hk
    obtain ⟨i1,i2⟩:=ih (by omega)
    have hY:0≤(20*X) ^ k:=pow_nn (by omega) k
    have step:∀ i j,i < n→j < n→Bd ((20*X) ^ (k+1)) (FL n A c (k+1) i j):=fun i j hi hj=>by
      have hb:∀ l,l < n→Bd (X*(5*(20*X) ^ k)) (A i l*addI (FL n A c k) (c k) l j):=fun l hl=>(bA i l hi hl).mul (by
        have h1:=(i1 l j hl hj).add i2
        unfold addI
        split
        · exact h1.mono (by omega)
        · rw [Int.add_zero]; exact (i1 l j hl hj).mono (by omega))
      have h2:0≤X*(5*(20*X) ^ k):=Int.mul_nonneg (by omega) (by omega)
      have h3:=sm_bd h2 hb
      have h4:(n:Int)*(X*(5*(20*X) ^ k))≤((4:Nat):Int)*(X*(5*(20*X) ^ k)):=nat_le_mul hn h2
      have h5:((4:Nat):Int)*(X*(5*(20*X) ^ k))=(20*X) ^ (k+1):=by rw [Int.pow_succ]; grind
      rw [h5] at h4
      exact h3.mono h4
    refine ⟨step,?_⟩
    have h1:=sm_bd (pow_nn (show 0≤20*X by omega) (k+1)) fun i (hi:i < n)=>step i i hi hi
    rw [hc (k+1) (by omega) hk] at h1
    have h2:(n:Int)*(20*X) ^ (k+1)≤((4:Nat):Int)*(20*X) ^ (k+1):=nat_le_mul hn (pow_nn (by omega) _)
    have h3:=h1.mono h2
    generalize (20*X) ^ (k+1)=Z at*
    generalize c (k+1)=v at*
    have hk1:(1:Int)≤((k+1:Nat):Int):=by omega
    generalize ((k+1:Nat):Int)=q at*
    obtain ⟨g1,g2⟩:=h3
    rcases Int.le_total 0 v with hv | hv
    · have:v≤q*v:=by have:=Int.mul_le_mul_of_nonneg_right hk1 hv; omega
      rw [Int.mul_neg] at g1 g2
      exact ⟨by omega,by omega⟩
    · have: -v≤q* -v:=by have:=Int.mul_le_mul_of_nonneg_right hk1 (show 0≤ -v by omega); omega
      exact ⟨by omega,by omega⟩
theorem char4_ok {n:Nat} (hn:n≤4) {A:Mx} (hA:Pd n A) {T:List (List Nb)} (hT:Tg T n n A) (bA:∀ i j,i < n→j < n→Bd (pw 4) (A i j)) {e1 e2 e3 e4:Int} (h:Es A e1 e2 e3 e4):Ret (exact_characteristic T) (fun P=>Lg P (n+1) (fun i=>cf e1 e2 e3 e4 (n - i))∧∀ i,i < n+1→Bd (pw 59) (cf e1 e2 e3 e4 (n - i))):=by
  have hN:=cf_newton hn hA h
  have hX:(1:Int)≤pw 4:=by have:=pw_pos 4; omega
  have hb:=FL_bd hn hX bA (c:=cf e1 e2 e3 e4) rfl fun k h1 h2=>hN k h1 (by omega)
  have hm:∀ k,k≤4→(20*pw 4) ^ k≤(20*pw 4) ^ 4:=fun k hk=>pow_mono (by omega) hk
  have hM:5*(20*pw 4) ^ 4≤pw 59:=by
    have h1:5*(20*pw 4) ^ 4 < pw 20:=by decide
    have h2:pw 20≤pw 59:=pw_mono (by omega)
    omega
  have hM2:pw 59 < pw 60:=by
    have h2:pw 60=B*pw 59:=rfl
    have h3:B=4294967296:=rfl
    have:=pw_pos 59
    rw [h3] at h2
    omega
  have hX4:pw 4≤pw 59:=pw_mono (by omega)
  have hY:0≤(20*pw 4) ^ 4:=pow_nn (by omega) 4
  have bc:∀ k,k≤n→Bd (pw 59) (cf e1 e2 e3 e4 k):=fun k hk=>(hb k hk).2.mono (by have:=hm k (by omega); omega)
  exact (char_ok hM2 hT (by omega) (fun i j hi hj=>(bA i j hi hj).mono hX4) (fun k hk i j hi hj=>by
    have h1:=(hb k hk).1 i j hi hj
    have h2:=(hb k hk).2
    have h3:=hm k (by omega)
    refine ⟨h1.mono (by omega),?_⟩
    unfold addI
    split
    · exact (h1.add h2).mono (by omega)
    · rw [Int.add_zero]; exact h1.mono (by omega)) bc rfl fun k h1 h2=>hN k h1 (by omega)).mono fun P hP=>⟨hP,fun i hi=>bc _ (by omega)⟩
end Km
namespace Km
open Sx Go M Vc Lm Dt
def Inr (n:Nat) (A:Mx) (neg zer pos:Nat):Prop:=neg+zer+pos=n∧∃ L d m,Rep A L d m∧pos=cnt d 1∧zer+4=n+cnt d 0
theorem rep_same {A L L':Mx} {d d':Nat→Int} {m m':Int} (hA:∀ i j,i < 4→j < 4→A i j=A j i) (h:Rep A L d m) (h':Rep A L' d' m'):cnt d 1=cnt d' 1∧cnt d 0=cnt d' 0:=by
  have hE:=sym_Es hA
  have h1:=h.main hE
  have h2:=h'.main hE
  exact ⟨h1.1.symm.trans h2.1,h1.2.symm.trans h2.2⟩
theorem Inr.uniq {n:Nat} {A:Mx} {a b c a' b' c':Nat} (hA:∀ i j,i < 4→j < 4→A i j=A j i) (h:Inr n A a b c) (h':Inr n A a' b' c'):a=a'∧b=b'∧c=c':=by
  obtain ⟨h1,L,d,m,h2,h3,h4⟩:=h
  obtain ⟨g1,L',d',m',g2,g3,g4⟩:=h'
  obtain ⟨e1,e2⟩:=rep_same hA h2 g2
  omega
theorem lead_t {e1 e2 e3 e4:Int} {t:Nat} (ht:t≤4) (h1:∀ k,t < k→k≤4→cf e1 e2 e3 e4 k=0) (h2:1≤t→cf e1 e2 e3 e4 t≠0):lead (sgz e1) (sgz e2) (sgz e3) (sgz e4)=4 - t:=by
  have z:∀ {x:Int},x=0→sgz x=0:=fun h=>sgz_zero.2 h
  have nz:∀ {x:Int},x≠0→¬ sgz x=0:=fun h e=>h (sgz_zero.1 e)
  unfold lead
  match t,ht with
  | 0,_=>
    have a1: -e1=0:=h1 1 (by omega) (by omega)
    have a2:e2=0:=h1 2 (by omega) (by omega)
    have a3: -e3=0:=h1 3 (by omega) (by omega)
    have a4:e4=0:=h1 4 (by omega) (by omega)
    rw [if_pos (z a4),if_pos (z (by omega)),if_pos (z a2),if_pos (z (by omega))]
  | 1,_=>
    have a1: -e1≠0:=h2 (by omega)
    have a2:e2=0:=h1 2 (by omega) (by omega)
    have a3: -e3=0:=h1 3 (by omega) (by omega)
    have a4:e4=0:=h1 4 (by omega) (by omega)
    rw [if_pos (z a4),if_pos (z (by omega)),if_pos (z a2),if_neg (nz (by omega))]
  | 2,_=>
    have a2:e2≠0:=h2 (by omega)
    have a3: -e3=0:=h1 3 (by omega) (by omega)
    have a4:e4=0:=h1 4 (by omega) (by omega)
    rw [if_pos (z a4),if_pos (z (by omega)),if_neg (nz a2)]
  | 3,_=>
    have a3: -e3≠0:=h2 (by omega)
    have a4:e4=0:=h1 4 (by omega) (by omega)
    rw [if_pos (z a4),if_neg (nz (by omega))]
  | 4,_=>
    have a4:e4≠0:=h2 (by omega)
    rw [if_neg (nz a4)]
theorem vch_eq {e1 e2 e3 e4:Int} {n:Nat} (hn:n≤4) (hz:∀ k,n < k→k≤4→cf e1 e2 e3 e4 k=0):vch ((List.range (n+1)).map fun i=>sgz (cf e1 e2 e3 e4 (n - i)))=vch [sgz e4,- sgz e3,sgz e2,- sgz e1,1]:=by
  have s1:sgz 1=1:=by decide
  have s0:sgz 0=0:=by decide
  have v0:∀ l,List.foldl vst (0,0) (0::l)=List.foldl vst (0,0) l:=fun l=>rfl
  have v1:∀ l,List.foldl vst (0,0) (-0::l)=List.foldl vst (0,0) l:=fun l=>rfl
  match n,hn with
  | 0,_=>
    have a1: -e1=0:=hz 1 (by omega) (by omega)
    have a2:e2=0:=hz 2 (by omega) (by omega)
    have a3: -e3=0:=hz 3 (by omega) (by omega)
    have a4:e4=0:=hz 4 (by omega) (by omega)
    show vch [sgz 1]=_
    rw [show e1=0 by omega,a2,show e3=0 by omega,a4,s0,s1]
    unfold vch
    rw [v0,v1,v0,v1]
  | 1,_=>
    have a2:e2=0:=hz 2 (by omega) (by omega)
    have a3: -e3=0:=hz 3 (by omega) (by omega)
    have a4:e4=0:=hz 4 (by omega) (by omega)
    show vch [sgz (-e1),sgz 1]=_
    rw [a2,show e3=0 by omega,a4,s0,s1,sgz_minus]
    unfold vch
    rw [v0,v1,v0]
  | 2,_=>
    have a3: -e3=0:=hz 3 (by omega) (by omega)
    have a4:e4=0:=hz 4 (by omega) (by omega)
    show vch [sgz e2,sgz (-e1),sgz 1]=_
    rw [show e3=0 by omega,a4,s0,s1,sgz_minus]
    unfold vch
    rw [v0,v1]
  | 3,_=>
    have a4:e4=0:=hz 4 (by omega) (by omega)
    show vch [sgz (-e3),sgz e2,sgz (-e1),sgz 1]=_
    rw [a4,s0,s1,sgz_minus,sgz_minus]
    unfold vch
    rw [v0]
  | 4,_=>
    show vch [sgz e4,sgz (-e3),sgz e2,sgz (-e1),sgz 1]=_
    rw [s1,sgz_minus,sgz_minus]
theorem sym_pad {n:Nat} (hn:n≤4) {A:Mx} (hA:∀ i j,i < 4→j < 4→A i j=A j i) (hP:Pd n A):∃ e1 e2 e3 e4,Es A e1 e2 e3 e4∧∀ k,n < k→k≤4→cf e1 e2 e3 e4 k=0:=by
  refine ⟨_,_,_,_,sym_Es hA,fun k hk h4=>?_⟩
  have z:=fun i j h=>hP i j h
  match k,h4 with
  | 0,_=>omega
  | 1,_=>
    show - u1 _ _ _ _ _ _ _ _ _ _=0
    rw [z 0 0 (by omega),z 1 1 (by omega),z 2 2 (by omega),z 3 3 (by omega)]
    simp [u1,t1,t2,t3,q3]
  | 2,_=>
    show u2 _ _ _ _ _ _ _ _ _ _=0
    rw [z 1 1 (by omega),z 2 2 (by omega),z 3 3 (by omega),z 0 1 (by omega),z 0 2 (by omega),z 0 3 (by omega),z 2 3 (by omega),z 1 3 (by omega),z 1 2 (by omega)]
    simp [u2,t1,t2,t3,q3]
  | 3,_=>
    show - u3 _ _ _ _ _ _ _ _ _ _=0
    rw [z 2 2 (by omega),z 3 3 (by omega),z 0 2 (by omega),z 0 3 (by omega),z 2 3 (by omega),z 1 3 (by omega),z 1 2 (by omega)]
    simp [u3,t1,t2,t3,q3]
  | 4,_=>
    show u4 _ _ _ _ _ _ _ _ _ _=0
    rw [z 3 3 (by omega),z 0 3 (by omega),z 2 3 (by omega),z 1 3 (by omega)]
    simp [u4,t1,t2,t3,q3]
section
variable {n:Nat} {M:Int} {P:List Nb} {g:Nat→Int} {T:List (List Nb)}
theorem izeros_ok (hM:M < pw 60) (hP:Lg P (n+1) g) (bg:∀ i,i < n+1→Bd M (g i)) (hT:T.length=n) (hn:n≤900):Ret (loop (exact_Inertia_l6 T P) 0) (fun z=>∃ m:Nat,z=(m:Int)∧m≤n∧(∀ i,i < m→g i=0)∧(m < n→g m≠0)):=by
  refine ret_loop (Post:=fun z=>∃ m:Nat,z=(m:Int)∧m≤n∧(∀ i,i < m→g i=0)∧(m < n→g m≠0)) n (fun k (s:Int)=>s=(k:Int)∧k≤n∧∀ i,i < k→g i=0) ⟨rfl,by omega,fun i hi=>absurd hi (by omega)⟩ ?_ (by omega)
  rintro k _ hk ⟨rfl,hkn,hI⟩
  unfold exact_Inertia_l6
  rw [hT,ret_bind,ret_if]
  refine ⟨fun hlt=>?_,fun hge=>?_⟩
  · obtain ⟨z,h1,h2⟩:=hP.at (c:=k) (by omega) (i:=(k:Int)) rfl
    have lz:=h2.lenB (bg k (by omega)) hM
    rw [h1,obs,sign_bg h2.1 (by omega),obs,h2.sv,ret_some]
    have e:(if g k < 0 then (-1:Int) else if 0 < g k then 1 else 0)=sgz (g k):=rfl
    rw [e]
    by_cases hz:g k=0
    · rw [sgz_zero.2 hz,decide_eq_true rfl,if_pos rfl]
      refine ⟨_,rfl,by omega,by show wa .i64 (k:Int) 1=_; rw [wa_i (by omega) (by omega)]; rfl,by omega,fun i hi=>?_⟩
      by_cases e2:i=k
      · subst e2; exact hz
      · exact hI i (by omega)
    · rw [decide_eq_false (fun h=>hz (sgz_zero.1 h)),if_neg (by decide)]
      exact ⟨_,rfl,k,rfl,hkn,hI,fun _=>hz⟩
  · rw [ret_some,if_neg (by decide)]
    exact ⟨_,rfl,k,rfl,hkn,hI,fun h=>absurd h (by omega)⟩
theorem isigns_ok (hM:M < pw 60) (hP:Lg P (n+1) g) (bg:∀ i,i < n+1→Bd M (g i)) (hn:n≤900):Ret (loop (exact_Inertia_l11 P) (0,0,0)) (fun z=>z=((vch ((List.range (n+1)).map fun i=>sgz (g i)):Nat):Int)∧vch ((List.range (n+1)).map fun i=>sgz (g i))≤n+1):=by
  refine ret_loop (Post:=fun z=>z=((vch ((List.range (n+1)).map fun i=>sgz (g i)):Nat):Int)∧vch ((List.range (n+1)).map fun i=>sgz (g i))≤n+1) (n+1) (fun k (s:Int×Int×Int)=>s.2.2=(k:Int)∧k≤n+1∧s.2.1=(((List.range k).map fun i=>sgz (g i)).foldl vst (0,0)).1∧s.1=(((((List.range k).map fun i=>sgz (g i)).foldl vst (0,0)).2:Nat):Int)∧(s.2.1= -1∨s.2.1=0∨s.2.1=1)∧(((List.range k).map fun i=>sgz (g i)).foldl vst (0,0)).2≤k) ⟨rfl,by omega,rfl,rfl,Or.inr (Or.inl rfl),Nat.le_refl 0⟩ ?_ (by omega)
  rintro k ⟨_,a,_⟩ hk ⟨rfl,hkn,ha,rfl,ha1,hle⟩
  simp only at ha ha1
  unfold exact_Inertia_l11
  simp only
  rw [hP.1,ret_if]
  refine ⟨fun hlt=>?_,fun hge=>⟨_,rfl,by have e:k=n+1:=(by omega); subst e; exact ⟨rfl,hle⟩⟩⟩
  obtain ⟨z,h1,h2⟩:=hP.at (c:=k) (by omega) (i:=(k:Int)) rfl
  have lz:=h2.lenB (bg k (by omega)) hM
  rw [h1,obs,sign_bg h2.1 (by omega),obs,h2.sv]
  have e:(if g k < 0 then (-1:Int) else if 0 < g k then 1 else 0)=sgz (g k):=rfl
  rw [e]
  have hs:=sgz_cases (g k)
  have ef:((List.range (k+1)).map fun i=>sgz (g i)).foldl vst (0,0)=vst (((List.range k).map fun i=>sgz (g i)).foldl vst (0,0)) (sgz (g k)):=by
    rw [List.range_succ,List.map_append,List.foldl_append]; rfl
  generalize hst:((List.range k).map fun i=>sgz (g i)).foldl vst (0,0)=st at*
  generalize sgz (g k)=s at*
  subst ha
  have hmul:wm .i64 s st.1=s*st.1:=by
    rcases hs with rfl | rfl | rfl<;>rcases ha1 with h | h | h<;>rw [h]<;>exact wm_i (by decide) (by decide)
  have hw:wa .i64 (st.2:Int) 1=((st.2+1:Nat):Int):=by rw [wa_i (by omega) (by omega)]; rfl
  have hw2:wa .i64 (k:Int) 1=((k+1:Nat):Int):=by rw [wa_i (by omega) (by omega)]; rfl
  have fin:∀ x:Int,x=(((vst st s).2:Nat):Int)→Ret (exact_Inertia_j12 s (k:Int) st.1 x) (VQ (fun t:Int×Int×Int=>k < n+1∧t.2.2=((k+1:Nat):Int)∧k+1≤n+1∧t.2.1=(((List.range (k+1)).map fun i=>sgz (g i)).foldl vst (0,0)).1∧t.1=(((((List.range (k+1)).map fun i=>sgz (g i)).foldl vst (0,0)).2:Nat):Int)∧(t.2.1= -1∨t.2.1=0∨t.2.1=1)∧(((List.range (k+1)).map fun i=>sgz (g i)).foldl vst (0,0)).2≤k+1) (fun z:Int=>z=((vch ((List.range (n+1)).map fun i=>sgz (g i)):Nat):Int)∧vch ((List.range (n+1)).map fun i=>sgz (g i))≤n+1)):=fun x hx=>by
    have h2le:(vst st s).2≤k+1:=by unfold vst; simp only; split<;>omega
    unfold exact_Inertia_j12 exact_Inertia_j13
    rw [ef,hw2,ret_if]
    refine ⟨fun h0=>⟨_,rfl,by omega,rfl,by omega,?_,hx,ha1,h2le⟩,fun h0=>⟨_,rfl,by omega,rfl,by omega,?_,hx,hs,h2le⟩⟩
    · show st.1=(vst st s).1
      unfold vst; simp only; rw [if_pos h0]
    · show s=(vst st s).1
      unfold vst; simp only; rw [if_neg h0]
  rw [hmul,ret_if]
  refine ⟨fun h=>?_,fun h=>?_⟩
  · exact fin _ (by rw [hw]; unfold vst; simp only; rw [if_pos h])
  · exact fin _ (by unfold vst; simp only; rw [if_neg h])
def symn (n:Nat) (A:Mx):Prop:=∀ i j,i < n→j < n→A i j=A j i
theorem isym_ok {A:Mx} {K:Nat} (hT:Tr K T n n A) (hK:K≤400) (hn:n≤900):Ret (loop (exact_Inertia_l3 T) 0) (fun o:Unit⊕Unit=>(o=.inl ()∧symn n A)∨(o=.inr ()∧¬ symn n A)):=by
  refine ret_loop (Post:=fun o:Unit⊕Unit=>(o=.inl ()∧symn n A)∨(o=.inr ()∧¬ symn n A)) n (fun k (s:Int)=>s=(k:Int)∧k≤n∧∀ i j,i < k→j < n→A i j=A j i) ⟨rfl,by omega,fun i j hi=>absurd hi (by omega)⟩ ?_ (by omega)
  rintro k _ hk ⟨rfl,hkn,hI⟩
  unfold exact_Inertia_l3
  rw [hT.1,ret_if]
  refine ⟨fun hlt=>?_,fun hge=>⟨_,rfl,Or.inl ⟨rfl,fun i j hi hj=>hI i j (by omega) hj⟩⟩⟩
  have hkn1:k < n:=by omega
  obtain ⟨row,h1,h2⟩:=hT.at hkn1 (i:=(k:Int)) rfl
  rw [h1,obs,ret_bind]
  have hin:Ret (loop (exact_Inertia_l15 row T (k:Int)) 0) (fun o:Unit⊕Unit=>(o=.inl ()∧∀ j,j < n→A k j=A j k)∨(o=.inr ()∧∃ j,j < n∧A k j≠A j k)):=by
    refine ret_loop (Post:=fun o:Unit⊕Unit=>(o=.inl ()∧∀ j,j < n→A k j=A j k)∨(o=.inr ()∧∃ j,j < n∧A k j≠A j k)) n (fun j (s:Int)=>s=(j:Int)∧j≤n∧∀ q,q < j→A k q=A q k) ⟨rfl,by omega,fun q hq=>absurd hq (by omega)⟩ ?_ (by omega)
    rintro j _ hj ⟨rfl,hjn,hJ⟩
    unfold exact_Inertia_l15
    rw [h2.1,ret_if]
    refine ⟨fun hlt=>?_,fun hge=>⟨_,rfl,Or.inl ⟨rfl,fun q hq=>hJ q (by omega)⟩⟩⟩
    have hjn1:j < n:=by omega
    obtain ⟨x,h3,h4⟩:=h2.at hjn1 (i:=(j:Int)) rfl
    obtain ⟨rj,h5,h6⟩:=hT.at hjn1 (i:=(j:Int)) rfl
    obtain ⟨y,h7,h8⟩:=h6.at hkn1 (i:=(k:Int)) rfl
    rw [h3,obs,h5,obs,h7,obs,cmp_bg h4.1 h8.1 (by have:=h4.2.1; omega) (by have:=h8.2.1; omega),obs,h4.2.2,h8.2.2,ret_if]
    refine ⟨fun h=>?_,fun h=>?_⟩
    · have e:A k j=A j k:=by
        by_cases h1:A k j < A j k
        · rw [if_pos h1] at h; omega
        · rw [if_neg h1] at h
          by_cases h2:A j k < A k j
          · rw [if_pos h2] at h; omega
          · omega
      refine ⟨_,rfl,hjn1,by show wa .i64 (j:Int) 1=_; rw [wa_i (by omega) (by omega)]; rfl,by omega,fun q hq=>?_⟩
      by_cases e2:q=j
      · subst e2; exact e
      · exact hJ q (by omega)
    · refine ⟨_,rfl,Or.inr ⟨rfl,j,hjn1,fun e=>h ?_⟩⟩
      rw [e,if_neg (by omega),if_neg (by omega)]
  refine hin.mono fun o ho=>?_
  rcases ho with ⟨rfl,ho⟩ | ⟨rfl,j,hj,ho⟩
  · refine ⟨_,rfl,hkn1,by show wa .i64 (k:Int) 1=_; rw [wa_i (by omega) (by omega)]; rfl,by omega,fun i j hi hj=>?_⟩
    by_cases e:i=k
    · subst e; exact ho j hj
    · exact hI i j (by omega) hj
  · exact ⟨_,rfl,Or.inr ⟨rfl,fun h=>ho (h k j hkn1 hj)⟩⟩
theorem xinertia_ok {A:Mx} (hn:n≤4) (hT:Tr 4 T n n A):Ret (exact_Inertia T) (fun r=>(¬ symn n A∧r=(0,0,0,80))∨(symn n A∧∃ a b c:Nat,r=((a:Int),(b:Int),(c:Int),0)∧Inr n (pad n A) a b c)):=by
  unfold exact_Inertia
  rw [ysquare_ok hT.sh (by omega),obs,if_pos rfl,ret_bind]
  refine (isym_ok hT (by omega) (by omega)).mono fun o ho=>?_
  rcases ho with ⟨rfl,hs⟩ | ⟨rfl,hs⟩
  · simp only
    rw [ret_bind]
    refine (ytwin0_ok hT (by omega) (by omega) (by omega)).mono fun U hU=>?_
    have hUp:Tg U n n (pad n A):=hU.congr fun i j hi hj=>(pad_in hi hj).symm
    have hsym:∀ i j,i < 4→j < 4→pad n A i j=pad n A j i:=fun i j _ _=>by
      unfold pad
      by_cases h:i < n∧j < n
      · rw [if_pos h,if_pos ⟨h.2,h.1⟩]; exact hs i j h.1 h.2
      · rw [if_neg h,if_neg (fun e=>h ⟨e.2,e.1⟩)]
    obtain ⟨e1,e2,e3,e4,hE,hz⟩:=sym_pad hn hsym (pad_pd n A)
    rw [ret_bind]
    refine (char4_ok hn (pad_pd n A) hUp (fun i j hi hj=>by
      obtain ⟨l,g1,g2⟩:=hT.2 i hi
      obtain ⟨z,g3,g4⟩:=g2.2 j hj
      rw [pad_in hi hj]; exact g4.bd) hE).mono fun P hP=>?_
    obtain ⟨hP,bP⟩:=hP
    have hM2:pw 59 < pw 60:=by
      have h2:pw 60=B*pw 59:=rfl
      have h3:B=4294967296:=rfl
      have:=pw_pos 59
      rw [h3] at h2
      omega
    rw [ret_bind]
    refine (izeros_ok hM2 hP bP hT.1 (by omega)).mono fun z hzz=>?_
    obtain ⟨m,rfl,hm,hm1,hm2⟩:=hzz
    rw [ret_bind]
    refine (isigns_ok hM2 hP bP (by omega)).mono fun p hp=>?_
    obtain ⟨rfl,hple⟩:=hp
    rw [vch_eq hn hz] at*
    have hl:lead (sgz e1) (sgz e2) (sgz e3) (sgz e4)=4 - (n - m):=lead_t (by omega) (fun k hk h4=>by
      by_cases h:n < k
      · exact hz k h h4
      · have:=hm1 (n - k) (by omega)
        rw [show n - (n - k)=k by omega] at this; exact this) fun h=>hm2 (by omega)
    obtain ⟨L,d,mm,hR⟩:=rep_ex hsym
    have hmain:=hR.main hE
    have hc1:vch [sgz e4,- sgz e3,sgz e2,- sgz e1,1]=cnt d 1:=hmain.1
    have hc0:lead (sgz e1) (sgz e2) (sgz e3) (sgz e4)=cnt d 0:=hmain.2
    have hle:cnt d 1+cnt d 0≤4:=by
      unfold cnt one3
      have s:=fun i=>sgz_cases (d i)
      have h0:=s 0
      have h1:=s 1
      have h2:=s 2
      have h3:=s 3
      repeat' split
      all_goals omega
    rw [hc1,hT.1]
    refine ⟨_,rfl,Or.inr ⟨hs,n - m - cnt d 1,m,cnt d 1,?_,by omega,L,d,mm,hR,rfl,by omega⟩⟩
    rw [ws_i (x:=(n:Int)) (y:=(m:Int)) (by omega) (by omega),ws_i (by omega) (by omega)]
    rw [show ((n - m - cnt d 1:Nat):Int)=(n:Int) - (m:Int) - (cnt d 1:Int) by omega]
  · simp only
    exact ⟨_,rfl,Or.inl ⟨hs,rfl⟩⟩
end
end Km
namespace Sf
open Sx Go M Vc
theorem place_ok (x:Int) (m:Nat) (h0:0 < m) (h1:m < 1000000):∃ z:Nat,sparsekit_Place x (m:Int)=some (z:Int)∧z < m:=by
  obtain ⟨a,b,c⟩:=Km.place_eq x (n:=(m:Int)) (by omega) (by omega)
  exact ⟨(x % 18446744073709551616 % (m:Int)).toNat,by rw [a]; congr 1; omega,by omega⟩
end Sf
namespace Km
open Sx Go M Vc Lm Dt
theorem Inr.cg {n:Nat} {A A':Mx} {a b c:Nat} (h:Inr n A a b c) (e:∀ x y,x < 4→y < 4→A' x y=A x y):Inr n A' a b c:=by
  obtain ⟨h1,L,d,m,h2,h3⟩:=h
  exact ⟨h1,L,d,m,⟨h2.det,h2.pos,fun x y hx hy=>by rw [e x y hx hy]; exact h2.eq x y hx hy⟩,h3⟩
theorem Inr.cong {n:Nat} {A A' E:Mx} {a b c:Nat} (h:Inr n A a b c) (hE:Dt.det 4 E≠0) (hA:∀ x y,x < 4→y < 4→A' x y=sm 4 fun r=>E r x*sm 4 fun s=>A r s*E s y):Inr n A' a b c:=by
  obtain ⟨h1,L,d,m,h2,h3⟩:=h
  exact ⟨h1,_,d,m,h2.cong hE hA,h3⟩
theorem cntAll (d:Nat→Int):cnt d 1+cnt d 0+cnt d (-1)=4:=by
  unfold cnt one3
  have h0:=sgz_cases (d 0)
  have h1:=sgz_cases (d 1)
  have h2:=sgz_cases (d 2)
  have h3:=sgz_cases (d 3)
  rcases h0 with h0 | h0 | h0<;>rcases h1 with h1 | h1 | h1<;>rcases h2 with h2 | h2 | h2<;>rcases h3 with h3 | h3 | h3<;>rw [h0,h1,h2,h3]<;>decide
theorem Inr.neg {n:Nat} {A:Mx} {a b c:Nat} (h:Inr n A a b c):Inr n (fun i j=>-1*A i j) c b a:=by
  obtain ⟨h1,L,d,m,h2,h3,h4⟩:=h
  have hc:=cntAll d
  have e1:cnt (fun i=>- d i) 1=cnt d (-1):=one3_neg _ _ _ _
  have e2:cnt (fun i=>- d i) (-1)=cnt d 1:=by
    have:=one3_neg (- d 0) (- d 1) (- d 2) (- d 3)
    rw [Int.neg_neg,Int.neg_neg,Int.neg_neg,Int.neg_neg] at this
    exact this.symm
  have e3:=cntAll fun i=>- d i
  exact ⟨by omega,L,_,m,h2.neg,by omega,by omega⟩
theorem perm_det {o:Nat→Nat} (h1:∀ x,x < 4→o x < 4) (hi:∀ x y,x < 4→y < 4→o x=o y→x=y):Dt.det 4 (fun r x=>if r=o x then (1:Int) else 0)≠0:=by
  intro h
  have e:Dt.det 4 (mul 4 (tp fun r x=>if r=o x then (1:Int) else 0) fun r x=>if r=o x then (1:Int) else 0)=Dt.det 4 one:=det_congr fun x y hx hy=>by
    show sm 4 (fun r=>(if r=o x then (1:Int) else 0)*if r=o y then (1:Int) else 0)=one x y
    have:sm 4 (fun r=>(if r=o x then (1:Int) else 0)*if r=o y then (1:Int) else 0)=sm 4 (fun r=>if r=o x then (if r=o y then (1:Int) else 0) else 0):=sm_congr fun r _=>by
      by_cases h:r=o x
      · rw [if_pos h,if_pos h,Int.one_mul]
      · rw [if_neg h,if_neg h,Int.zero_mul]
    rw [this,sm_one (f:=fun r=>if r=o y then (1:Int) else 0) (h1 x hx)]
    unfold one
    exact if_ck ⟨fun h=>hi x y hx hy h,fun h=>by rw [h]⟩
  rw [det_mul,h,Int.mul_zero,det_one] at e
  omega
theorem Inr.perm {n:Nat} {A A':Mx} {a b c:Nat} (h:Inr n A a b c) {o:Nat→Nat} (h1:∀ x,x < 4→o x < 4) (hi:∀ x y,x < 4→y < 4→o x=o y→x=y) (e:∀ x y,x < 4→y < 4→A' x y=A (o x) (o y)):Inr n A' a b c:=
  h.cong (perm_det h1 hi) fun x y hx hy=>by
    have i1:∀ r,sm 4 (fun s=>A r s*if s=o y then (1:Int) else 0)=A r (o y):=fun r=>by
      have:sm 4 (fun s=>A r s*if s=o y then (1:Int) else 0)=sm 4 (fun s=>if s=o y then A r s else 0):=sm_congr fun s _=>by split; rw [Int.mul_one]; rw [Int.mul_zero]
      rw [this,sm_one (f:=fun s=>A r s) (h1 y hy)]
    have i2:sm 4 (fun r=>(if r=o x then (1:Int) else 0)*sm 4 fun s=>A r s*if s=o y then (1:Int) else 0)=sm 4 (fun r=>if r=o x then A r (o y) else 0):=sm_congr fun r _=>by
      rw [i1]; split; rw [Int.one_mul]; rw [Int.zero_mul]
    rw [e x y hx hy,i2,sm_one (f:=fun r=>A r (o y)) (h1 x hx)]
end Km
namespace Km
open Sx Go M Vc Lm Dt
def evn (l:List Int) (n:Nat):Mx:=fun i j=>if j < i then sqe l n j i else sqe l n i j
theorem evn_sym (l:List Int) (n:Nat) (i j:Nat):evn l n i j=evn l n j i:=by
  unfold evn
  rcases Nat.lt_trichotomy i j with h | h | h
  · rw [if_neg (by omega),if_pos h]
  · subst h; rfl
  · rw [if_pos h,if_neg (by omega)]
theorem evn_bd (l:List Int) (n i j:Nat):Bd 100 (evn l n i j):=by
  unfold evn
  split
  · exact sqe_bd ..
  · exact sqe_bd ..
theorem even_ok {l:List Int} (hl:l.length≤1000) {n:Nat} (hn:n≤16):Ret (sparselaw08_even l (n:Int)) (fun T=>Tg T n n (evn l n)):=by
  unfold sparselaw08_even
  rw [ret_bind]
  refine (square08_ok hl hn).mono fun T hT=>?_
  rw [ret_bind]
  refine (ret_loop (Post:=fun T=>Tg T n n (evn l n)) n (fun i (s:List (List Nb)×Int)=>s.2=(i:Int)∧i≤n∧Tg s.1 n n (fun r c=>if c < r∧r < i then sqe l n c r else sqe l n r c)) ⟨rfl,by omega,hT.congr fun r c _ _=>by rw [if_neg (by omega)]⟩ ?_ (by omega)).mono fun r hr=>⟨_,rfl,hr⟩
  rintro i ⟨U,_⟩ hi ⟨rfl,hin,hU⟩
  simp only at hU
  unfold sparselaw08_even_l3
  simp only
  rw [ret_if]
  refine ⟨fun hlt=>?_,fun hge=>⟨_,rfl,hU.congr fun r c hr _=>by unfold evn; exact if_ck ⟨fun h=>h.1,fun h=>⟨h,by omega⟩⟩⟩⟩
  have hi1:i < n:=by omega
  rw [ret_bind]
  refine (ret_loop (Post:=fun T=>Tg T n n (fun r c=>if c < r∧r < i+1 then sqe l n c r else sqe l n r c)) i (fun j (s:List (List Nb)×Int)=>s.2=(j:Int)∧j≤i∧Tg s.1 n n (fun r c=>if c < r∧(r < i∨r=i∧c < j) then sqe l n c r else sqe l n r c)) ⟨rfl,by omega,hU.congr fun r c _ _=>if_ck ⟨fun h=>⟨h.1,Or.inl h.2⟩,fun h=>⟨h.1,by omega⟩⟩⟩ ?_ (by omega)).mono fun V hV=>⟨_,rfl,hi1,by show wa .i64 (i:Int) 1=_; rw [wa_i (by omega) (by omega)]; rfl,by omega,hV⟩
  rintro j ⟨V,_⟩ hj ⟨rfl,hji,hV⟩
  simp only at hV
  unfold sparselaw08_even_l4
  simp only
  rw [ret_if]
  refine ⟨fun hlt=>?_,fun hge=>⟨_,rfl,hV.congr fun r c hr hc=>if_ck ⟨fun h=>⟨h.1,by omega⟩,fun h=>⟨h.1,by omega⟩⟩⟩⟩
  have hj1:j < n:=by omega
  obtain ⟨ri,g1,g2⟩:=hV.at hi1 (i:=(i:Int)) rfl
  obtain ⟨rj,g3,g4⟩:=hV.at hj1 (i:=(j:Int)) rfl
  obtain ⟨z,g5,g6⟩:=g4.at hi1 (i:=(i:Int)) rfl
  rw [if_neg (by omega)] at g6
  rw [g1,obs,g3,obs,g5,obs,set_some (by rw [g2.1]; exact hj1) rfl,obs,set_some (by rw [hV.1]; exact hi1) rfl,obs]
  refine ⟨_,rfl,by omega,by show wa .i64 (j:Int) 1=_; rw [wa_i (by omega) (by omega)]; rfl,by omega,(hV.set hi1 (g2.set hj1 (z:=(z.1,z.2)) g6)).congr fun r c hr hc=>?_⟩
  by_cases e:r=i
  · subst e
    rw [up_in]
    by_cases e2:c=j
    · subst e2; rw [if_pos rfl,if_pos ⟨by omega,Or.inr ⟨rfl,by omega⟩⟩]
    · rw [if_neg e2]; exact if_ck ⟨fun h=>⟨h.1,by omega⟩,fun h=>⟨h.1,by omega⟩⟩
  · rw [up_out e]; exact if_ck ⟨fun h=>⟨h.1,by omega⟩,fun h=>⟨h.1,by omega⟩⟩
theorem Inr.inert {n:Nat} {T:List (List Nb)} {A:Mx} {M:Int} (hn:n≤4) (hM:M < pw 4) (hT:Tg T n n A) (bA:∀ i j,i < n→j < n→Bd M (A i j)) (hs:symn n A) {a b c:Nat} (hI:Inr n (pad n A) a b c):exact_Inertia T=some ((a:Int),(b:Int),(c:Int),0):=by
  obtain ⟨r,h1,h2⟩:=xinertia_ok hn (hT.tr bA hM)
  have hsym:∀ i j,i < 4→j < 4→pad n A i j=pad n A j i:=fun i j _ _=>by
    unfold pad
    by_cases h:i < n∧j < n
    · rw [if_pos h,if_pos ⟨h.2,h.1⟩]; exact hs i j h.1 h.2
    · rw [if_neg h,if_neg (fun e=>h ⟨e.2,e.1⟩)]
  rcases h2 with ⟨h2,_⟩ | ⟨_,a',b',c',rfl,hI'⟩
  · exact absurd hs h2
  · obtain ⟨rfl,rfl,rfl⟩:=hI.uniq hsym hI'
    exact h1
theorem inert_ex {n:Nat} {T:List (List Nb)} {A:Mx} {M:Int} (hn:n≤4) (hM:M < pw 4) (hT:Tg T n n A) (bA:∀ i j,i < n→j < n→Bd M (A i j)) (hs:symn n A):∃ a b c,Inr n (pad n A) a b c:=by
  obtain ⟨r,h1,h2⟩:=xinertia_ok hn (hT.tr bA hM)
  rcases h2 with ⟨h2,_⟩ | ⟨_,a',b',c',rfl,hI'⟩
  · exact absurd hs h2
  · exact ⟨a',b',c',hI'⟩
section
variable {n:Nat} {T:List (List Nb)} {A:Mx} {o:List Int}
end
end Km
namespace Km
open Sx Go M Vc Lm Dt
def nz (d:Nat→Int):List Nat:=(List.range 4).filter fun i=>decide (d i≠0)
theorem nz_len (d:Nat→Int):(nz d).length+cnt d 0=4:=by
  have h:∀ i,(d i=0∧sgz (d i)=0)∨(d i≠0∧sgz (d i)≠0):=fun i=>by
    by_cases h:d i=0
    · exact Or.inl ⟨h,sgz_zero.2 h⟩
    · exact Or.inr ⟨h,fun e=>h (sgz_zero.1 e)⟩
  have s0:sgz 0=0:=by decide
  unfold nz cnt one3
  rw [show List.range 4=[0,1,2,3] from rfl]
  rcases h 0 with ⟨a,a'⟩ | ⟨a,a'⟩<;>rcases h 1 with ⟨b,b'⟩ | ⟨b,b'⟩<;>rcases h 2 with ⟨c,c'⟩ | ⟨c,c'⟩<;>rcases h 3 with ⟨e,e'⟩ | ⟨e,e'⟩<;>simp [a,a',b,b',c,c',e,e',s0]
theorem nz_mem {d:Nat→Int} {i:Nat}:i∈nz d↔i < 4∧d i≠0:=by unfold nz; simp
theorem nz_nd (d:Nat→Int):(nz d).Nodup:=List.nodup_range.filter _
def nzAt (d:Nat→Int) (k:Nat):Nat:=(nz d).getD k 0
theorem nzAt_ok {d:Nat→Int} {k:Nat} (hk:k < (nz d).length):nzAt d k < 4∧d (nzAt d k)≠0:=by
  unfold nzAt
  rw [List.getD_eq_getElem?_getD,List.getElem?_eq_getElem hk]
  exact nz_mem.1 (List.getElem_mem hk)
theorem nzAt_of {d:Nat→Int} {i:Nat} (hi:i < 4) (hd:d i≠0):∃ k,k < (nz d).length∧nzAt d k=i:=by
  obtain ⟨k,hk,e⟩:=List.mem_iff_getElem.1 (nz_mem.2 ⟨hi,hd⟩)
  exact ⟨k,hk,by unfold nzAt; rw [List.getD_eq_getElem?_getD,List.getElem?_eq_getElem hk]; exact e⟩
theorem nzAt_inj {d:Nat→Int} {k l:Nat} (hk:k < (nz d).length) (hl:l < (nz d).length) (e:nzAt d k=nzAt d l):k=l:=by
  unfold nzAt at e
  rw [List.getD_eq_getElem?_getD,List.getElem?_eq_getElem hk,List.getD_eq_getElem?_getD,List.getElem?_eq_getElem hl] at e
  have hp:=List.pairwise_iff_getElem.1 (nz_nd d)
  have e:(nz d)[k]=(nz d)[l]:=e
  rcases Nat.lt_trichotomy k l with h | h | h
  · exact absurd e (hp k l hk hl h)
  · exact h
  · exact absurd e.symm (hp l k hl hk h)
theorem rank_le {n k:Nat} {A A' L:Mx} {d:Nat→Int} {m sn:Int} {col:Nat→Nat} (hn:n≤4) (hR:Rep (pad n A) L d m) (hB:Bar n n A A' col k n sn):k≤(nz d).length:=by
  refine Classical.byContradiction fun hc=>?_
  have hlt:(nz d).length < k:=by omega
  obtain ⟨y,⟨j,hj,hyj⟩,hy⟩:=homog (nz d).length k (fun t s=>L (nzAt d t) (col s)) hlt
  obtain ⟨x,xi,hx,hA⟩:=hB.perm
  have hkn:=hB.kn
  have h0:∀ r,r < k→sm k (fun s=>Pm_ A' col r s*y s)=0:=fun r hr=>by
    have hx4:=(hx r (by omega)).1
    have e1:∀ s,s < k→m*Pm_ A' col r s=sm 4 fun i=>d i*(L i (x r)*L i (col s)):=fun s hs=>by
      have hcs:=hB.lt s hs
      have:=hR.eq (x r) (col s) (by omega) (by omega)
      rw [pad_in hx4 hcs] at this
      show m*A' r (col s)=_
      rw [hA r (col s) (by omega)]; exact this
    have e2:m*sm k (fun s=>Pm_ A' col r s*y s)=0:=by
      rw [← sm_mul]
      have e3:sm k (fun s=>m*(Pm_ A' col r s*y s))=sm k (fun s=>sm 4 fun i=>d i*L i (x r)*(L i (col s)*y s)):=sm_congr fun s hs=>by
        rw [← Int.mul_assoc,e1 s hs,← sm_mul']
        exact sm_congr fun i _=>by grind
      rw [e3,sm_swap]
      refine sm_zero fun i hi=>?_
      rw [sm_mul]
      by_cases hd:d i=0
      · rw [hd]; grind
      · obtain ⟨t,ht,e⟩:=nzAt_of hi hd
        have:=hy t ht
        rw [e] at this
        rw [this,Int.mul_zero]
    rcases Int.mul_eq_zero.1 e2 with h | h
    · exact absurd h (by have:=hR.pos; omega)
    · exact h
  exact hyj (col_zero hB.d h0 j hj)
theorem rank_ge {n k:Nat} {A A' L:Mx} {d:Nat→Int} {m sn:Int} {col:Nat→Nat} (hn:n≤4) (hR:Rep (pad n A) L d m) (hB:Bar n n A A' col k n sn):(nz d).length≤k:=by
  refine Classical.byContradiction fun hc=>?_
  have hlt:k < (nz d).length:=by omega
  obtain ⟨x,⟨j,hj,hxj⟩,hx⟩:=homog k (nz d).length (fun s t=>sm n fun c=>Rk A' col k s c*adj 4 L c (nzAt d t)) hlt
  let v:Nat→Int:=fun c=>sm (nz d).length fun t=>adj 4 L c (nzAt d t)*x t
  have hRv:∀ s,s < k→sm n (fun c=>Rk A' col k s c*v c)=0:=fun s hs=>by
    rw [← hx s hs]
    have e1:sm n (fun c=>Rk A' col k s c*v c)=sm n (fun c=>sm (nz d).length fun t=>Rk A' col k s c*adj 4 L c (nzAt d t)*x t):=sm_congr fun c _=>by
      show Rk A' col k s c*sm (nz d).length (fun t=>adj 4 L c (nzAt d t)*x t)=_
      rw [← sm_mul]; exact sm_congr fun t _=>by rw [Int.mul_assoc]
    rw [e1,sm_swap]
    exact sm_congr fun t _=>by rw [sm_mul']
  have hA':∀ r,r < n→sm n (fun c=>A' r c*v c)=0:=fun r hr=>by
    have e1:det k (Pm_ A' col)*sm n (fun c=>A' r c*v c)=0:=by
      rw [← sm_mul]
      have e2:sm n (fun c=>det k (Pm_ A' col)*(A' r c*v c))=sm n (fun c=>sm k fun s=>A' r (col s)*(Rk A' col k s c*v c)):=sm_congr fun c hc=>by
        rw [← Int.mul_assoc,hB.span hr (Or.inl hc),← sm_mul']
        exact sm_congr fun s _=>by rw [Int.mul_assoc]
      rw [e2,sm_swap]
      exact sm_zero fun s hs=>by rw [sm_mul,hRv s hs,Int.mul_zero]
    rcases Int.mul_eq_zero.1 e1 with h | h
    · exact absurd h hB.d
    · exact h
  have hA:=hB.rows (P:=fun f=>sm n (fun c=>f c*v c)=0) hA'
  have hLv:∀ i,i < 4→sm 4 (fun c=>L i c*v c)=sm (nz d).length fun t=>if nzAt d t=i then Dt.det 4 L*x t else 0:=fun i hi=>by
    have e1:sm 4 (fun c=>L i c*v c)=sm 4 (fun c=>sm (nz d).length fun t=>L i c*adj 4 L c (nzAt d t)*x t):=sm_congr fun c _=>by
      show L i c*sm (nz d).length (fun t=>adj 4 L c (nzAt d t)*x t)=_
      rw [← sm_mul]; exact sm_congr fun t _=>by rw [Int.mul_assoc]
    rw [e1,sm_swap]
    refine sm_congr fun t ht=>?_
    rw [sm_mul',mul_adj L hi (nzAt_ok ht).1]
    by_cases h:i=nzAt d t
    · rw [if_pos h,if_pos h.symm]
    · rw [if_neg h,if_neg (fun e=>h e.symm),Int.zero_mul]
  have hP:∀ r,r < 4→sm 4 (fun c=>pad n A r c*v c)=0:=fun r hr=>by
    have e0:sm 4 (fun c=>pad n A r c*v c)=sm n (fun c=>pad n A r c*v c):=sm_pad hn fun c hc=>by rw [pad_pd n A r c (Or.inr hc),Int.zero_mul]
    rw [e0]
    by_cases h:r < n
    · rw [← hA r h]
      exact sm_congr fun c hc=>by rw [pad_in h hc]
    · exact sm_zero fun c _=>by rw [pad_pd n A r c (Or.inl (by omega)),Int.zero_mul]
  have hD:∀ i,i < 4→d i*sm 4 (fun c=>L i c*v c)=0:=by
    refine row_zero (A:=L) hR.det fun y hy=>?_
    have e1:m*sm 4 (fun c=>pad n A y c*v c)=0:=by rw [hP y hy,Int.mul_zero]
    rw [← e1,← sm_mul]
    have e2:sm 4 (fun c=>m*(pad n A y c*v c))=sm 4 (fun c=>sm 4 fun i=>d i*L i y*(L i c*v c)):=sm_congr fun c hc=>by
      rw [← Int.mul_assoc,hR.eq y c hy hc,← sm_mul']
      exact sm_congr fun i _=>by grind
    rw [e2,sm_swap]
    exact sm_congr fun i _=>by rw [sm_mul]; grind
  have hj4:=nzAt_ok hj
  have h1:=hD _ hj4.1
  rw [hLv _ hj4.1] at h1
  have e3:sm (nz d).length (fun t=>if nzAt d t=nzAt d j then Dt.det 4 L*x t else 0)=Dt.det 4 L*x j:=by
    have:sm (nz d).length (fun t=>if nzAt d t=nzAt d j then Dt.det 4 L*x t else 0)=sm (nz d).length (fun t=>if t=j then Dt.det 4 L*x t else 0):=sm_congr fun t ht=>if_ck ⟨fun h=>nzAt_inj ht hj h,fun h=>by rw [h]⟩
    rw [this,sm_one (f:=fun t=>Dt.det 4 L*x t) hj]
  rw [e3] at h1
  rcases Int.mul_eq_zero.1 h1 with h | h
  · exact hj4.2 h
  · rcases Int.mul_eq_zero.1 h with h | h
    · exact hR.det h
    · exact hxj h
theorem det_cf {n:Nat} (hn:n≤4) {A:Mx} (hs:symn n A) {e1 e2 e3 e4:Int} (hE:Es (pad n A) e1 e2 e3 e4):cf e1 e2 e3 e4 n=(if n % 2=0 then 1 else -1)*det n A:=by
  have hsym:∀ i j,i < 4→j < 4→pad n A i j=pad n A j i:=fun i j _ _=>by
    unfold pad
    by_cases h:i < n∧j < n
    · rw [if_pos h,if_pos ⟨h.2,h.1⟩]; exact hs i j h.1 h.2
    · rw [if_neg h,if_neg (fun e=>h ⟨e.2,e.1⟩)]
  obtain ⟨rfl,rfl,rfl,rfl⟩:=hE.uniq (sym_Es hsym)
  have p:∀ i j,i < n→j < n→pad n A i j=A i j:=fun i j hi hj=>pad_in hi hj
  have z:∀ i j,n≤i∨n≤j→pad n A i j=0:=pad_pd n A
  match n,hn with
  | 0,_=>rfl
  | 1,_=>
    show - u1 _ _ _ _ _ _ _ _ _ _=_
    rw [p 0 0 (by omega) (by omega),z 1 1 (by omega),z 2 2 (by omega),z 3 3 (by omega)]
    simp [u1,t1,det,sm,Dt.sg]
  | 2,_=>
    have s1:=hs 1 0 (by omega) (by omega)
    show u2 _ _ _ _ _ _ _ _ _ _=_
    rw [p 0 0 (by omega) (by omega),p 0 1 (by omega) (by omega),p 1 1 (by omega) (by omega),z 2 2 (by omega),z 3 3 (by omega),z 0 2 (by omega),z 0 3 (by omega),z 2 3 (by omega),z 1 3 (by omega),z 1 2 (by omega)]
    simp [u2,t1,t2,det,sm,Dt.sg,Dt.mn,sk,s1]
    try grind
  | 3,_=>
    have s1:=hs 1 0 (by omega) (by omega)
    have s2:=hs 2 0 (by omega) (by omega)
    have s3:=hs 2 1 (by omega) (by omega)
    show - u3 _ _ _ _ _ _ _ _ _ _=_
    rw [p 0 0 (by omega) (by omega),p 0 1 (by omega) (by omega),p 1 1 (by omega) (by omega),p 2 2 (by omega) (by omega),p 0 2 (by omega) (by omega),p 1 2 (by omega) (by omega),z 3 3 (by omega),z 0 3 (by omega),z 2 3 (by omega),z 1 3 (by omega)]
    simp [u3,t1,t2,t3,q3,det,sm,Dt.sg,Dt.mn,sk,s1,s2,s3]
    try grind
  | 4,_=>
    have s1:=hs 1 0 (by omega) (by omega)
    have s2:=hs 2 0 (by omega) (by omega)
    have s3:=hs 2 1 (by omega) (by omega)
    have s4:=hs 3 0 (by omega) (by omega)
    have s5:=hs 3 1 (by omega) (by omega)
    have s6:=hs 3 2 (by omega) (by omega)
    show u4 _ _ _ _ _ _ _ _ _ _=_
    rw [p 0 0 (by omega) (by omega),p 0 1 (by omega) (by omega),p 1 1 (by omega) (by omega),p 2 2 (by omega) (by omega),p 0 2 (by omega) (by omega),p 1 2 (by omega) (by omega),p 3 3 (by omega) (by omega),p 0 3 (by omega) (by omega),p 2 3 (by omega) (by omega),p 1 3 (by omega) (by omega)]
    simp [u4,t1,t2,t3,q3,det,sm,Dt.sg,Dt.mn,sk,s1,s2,s3,s4,s5,s6]
    try grind
end Km
namespace Km
open Sx Go M Vc Lm Dt
theorem awake08u:sparselaw08_awake=some true:=by kernel_rfl
def fnz (s1 s2 s3 s4:Int):Int:=if s4=0 then if s3=0 then if s2=0 then if s1=0 then 1 else -s1 else s2 else -s3 else s4
def chkP (s1 s2 s3 s4:Int):Bool:=decide (fnz s1 s2 s3 s4=if vch [s4,-s3,s2,-s1,1] % 2=0 then 1 else -1)
theorem par_all:(all3 fun s1=>all3 fun s2=>all3 fun s3=>all3 fun s4=>chkP s1 s2 s3 s4)=true:=by kernel_rfl
theorem par (e1 e2 e3 e4:Int):fnz (sgz e1) (sgz e2) (sgz e3) (sgz e4)=if vch [sgz e4,-sgz e3,sgz e2,-sgz e1,1] % 2=0 then 1 else -1:=by
  have h:=all3_of (all3_of (all3_of (all3_of par_all (sgz_cases e1)) (sgz_cases e2)) (sgz_cases e3)) (sgz_cases e4)
  exact of_decide_eq_true h
theorem fnz_cf {n:Nat} (hn:n≤4) {e1 e2 e3 e4:Int} (hz:∀ k,n < k→k≤4→cf e1 e2 e3 e4 k=0) (h0:cf e1 e2 e3 e4 n≠0):fnz (sgz e1) (sgz e2) (sgz e3) (sgz e4)=sgz (cf e1 e2 e3 e4 n):=by
  have z:∀ {x:Int},x=0→sgz x=0:=fun h=>sgz_zero.2 h
  have nz:∀ {x:Int},x≠0→¬ sgz x=0:=fun h e=>h (sgz_zero.1 e)
  unfold fnz
  match n,hn with
  | 0,_=>
    have a1: -e1=0:=hz 1 (by omega) (by omega)
    have a2:e2=0:=hz 2 (by omega) (by omega)
    have a3: -e3=0:=hz 3 (by omega) (by omega)
    have a4:e4=0:=hz 4 (by omega) (by omega)
    rw [if_pos (z a4),if_pos (z (by omega)),if_pos (z a2),if_pos (z (by omega))]; rfl
  | 1,_=>
    have a1: -e1≠0:=h0
    have a2:e2=0:=hz 2 (by omega) (by omega)
    have a3: -e3=0:=hz 3 (by omega) (by omega)
    have a4:e4=0:=hz 4 (by omega) (by omega)
    rw [if_pos (z a4),if_pos (z (by omega)),if_pos (z a2),if_neg (nz (by omega))]
    exact (sgz_minus e1).symm
  | 2,_=>
    have a2:e2≠0:=h0
    have a3: -e3=0:=hz 3 (by omega) (by omega)
    have a4:e4=0:=hz 4 (by omega) (by omega)
    rw [if_pos (z a4),if_pos (z (by omega)),if_neg (nz a2)]; rfl
  | 3,_=>
    have a3: -e3≠0:=h0
    have a4:e4=0:=hz 4 (by omega) (by omega)
    rw [if_pos (z a4),if_neg (nz (by omega))]
    exact (sgz_minus e3).symm
  | 4,_=>
    have a4:e4≠0:=h0
    rw [if_neg (nz a4)]; rfl
theorem det_sign {n:Nat} (hn:n≤4) {A:Mx} (hs:symn n A) {a b c:Nat} (hI:Inr n (pad n A) a b c):sgz (det n A)=if 0 < b then 0 else if a % 2=1 then -1 else 1:=by
  have hsym:∀ i j,i < 4→j < 4→pad n A i j=pad n A j i:=fun i j _ _=>by
    unfold pad
    by_cases h:i < n∧j < n
    · rw [if_pos h,if_pos ⟨h.2,h.1⟩]; exact hs i j h.1 h.2
    · rw [if_neg h,if_neg (fun e=>h ⟨e.2,e.1⟩)]
  obtain ⟨e1,e2,e3,e4,hE,hz⟩:=sym_pad hn hsym (pad_pd n A)
  obtain ⟨h1,L,d,m,hR,h3,h4⟩:=hI
  have hmain:=hR.main hE
  have hv:vch [sgz e4,- sgz e3,sgz e2,- sgz e1,1]=cnt d 1:=hmain.1
  have hl:lead (sgz e1) (sgz e2) (sgz e3) (sgz e4)=cnt d 0:=hmain.2
  have hd:=det_cf hn hs hE
  by_cases hb:0 < b
  · rw [if_pos hb]
    by_cases h0:cf e1 e2 e3 e4 n=0
    · rw [h0] at hd
      refine sgz_zero.2 ?_
      split at hd<;>omega
    · have:=lead_t hn hz fun _=>h0
      omega
  · rw [if_neg hb]
    have h0:cf e1 e2 e3 e4 n≠0:=fun h0=>by
      by_cases hn0:n=0
      · subst hn0; exact absurd h0 (by show (1:Int)≠0; omega)
      ·
        have hle:cnt d 0+n=4:=by omega
        have hz':∀ k,n - 1 < k→k≤4→cf e1 e2 e3 e4 k=0:=fun k hk h4=>by
          by_cases e:k=n
          · subst e; exact h0
          · exact hz k (by omega) h4
        have key:4 - (n - 1)≤lead (sgz e1) (sgz e2) (sgz e3) (sgz e4):=by
          have zz:∀ {x:Int},x=0→sgz x=0:=fun h=>sgz_zero.2 h
          unfold lead
          match n,hn,hn0 with
          | 1,_,_=>
            have a1: -e1=0:=hz' 1 (by omega) (by omega)
            have a2:e2=0:=hz' 2 (by omega) (by omega)
            have a3: -e3=0:=hz' 3 (by omega) (by omega)
            have a4:e4=0:=hz' 4 (by omega) (by omega)
            rw [if_pos (zz a4),if_pos (zz (by omega)),if_pos (zz a2),if_pos (zz (by omega))]; omega
          | 2,_,_=>
            have a2:e2=0:=hz' 2 (by omega) (by omega)
            have a3: -e3=0:=hz' 3 (by omega) (by omega)
            have a4:e4=0:=hz' 4 (by omega) (by omega)
            rw [if_pos (zz a4),if_pos (zz (by omega)),if_pos (zz a2)]; split<;>omega
          | 3,_,_=>
            have a3: -e3=0:=hz' 3 (by omega) (by omega)
            have a4:e4=0:=hz' 4 (by omega) (by omega)
            rw [if_pos (zz a4),if_pos (zz (by omega))]; split<;>(try split)<;>omega
          | 4,_,_=>
            have a4:e4=0:=hz' 4 (by omega) (by omega)
            rw [if_pos (zz a4)]; split<;>(try split)<;>(try split)<;>omega
        omega
    have hp:=par e1 e2 e3 e4
    rw [fnz_cf hn hz h0,hv,hd,sgz_mul] at hp
    have hc:=sgz_cases (det n A)
    have s1:sgz 1=1:=by decide
    have s2:sgz (-1)= -1:=by decide
    by_cases h5:n % 2=0
    · rw [if_pos h5,s1,Int.one_mul] at hp
      rw [hp]
      by_cases h6:cnt d 1 % 2=0
      · rw [if_pos h6,if_neg (by omega)]
      · rw [if_neg h6,if_pos (by omega)]
    · rw [if_neg h5,s2] at hp
      by_cases h6:cnt d 1 % 2=0
      · rw [if_pos h6] at hp
        rw [if_pos (by omega)]; omega
      · rw [if_neg h6] at hp
        rw [if_neg (by omega)]; omega
theorem exactSigns_true (l:List Int) (x3:Int):sparselaw08_ExactSigns l x3=some true:=by
  unfold sparselaw08_ExactSigns
  by_cases hl:(25:Int) < (l.length:Int)
  · rw [if_pos hl,awake08u,obs]
  · rw [if_neg hl]
    obtain ⟨n,p1,p2⟩:=Sf.place_ok x3 5 (by omega) (by omega)
    have p1':sparsekit_Place x3 5=some (n:Int):=p1
    have hn4:n≤4:=by omega
    obtain ⟨T,t1,t2⟩:=even_ok (l:=l) (by omega) (n:=n) (by omega)
    have bA:∀ i j,i < n→j < n→Bd 100 (evn l n i j):=fun i j _ _=>evn_bd ..
    have hsA:symn n (evn l n):=fun i j _ _=>evn_sym ..
    have h100:(100:Int) < pw 4:=by decide
    obtain ⟨a,b,c,hI⟩:=inert_ex hn4 h100 t2 bA hsA
    have e1:=Inr.inert hn4 h100 t2 bA hsA hI
    obtain ⟨hM,hM1⟩:=mb_ok hn4
    have okA:Okb n n (evn l n) (mb n):=sqe_okb (l:=l) hn4 bA
    obtain ⟨k,k1,A',col,sn,hB⟩:=yrank_ok hM (t2.tr bA h100) (by omega) okA (by omega) (by omega) (by omega)
    obtain ⟨⟨ds,dl,de⟩,d1,d2,d3⟩:=xdet_ok hM okA t2 (fun i j hi hj=>(bA i j hi hj).mono hM1) (by omega)
    simp only at d2 d3
    subst d3
    have hdet:=det_sign hn4 hsA hI
    obtain ⟨h1,L,d,m,hR,h3,h4⟩:=hI
    have r1:=rank_le hn4 hR hB
    have r2:=rank_ge hn4 hR hB
    have r3:=nz_len d
    have hbk:(b:Int)=(n:Int) - (k:Int):=by omega
    have hbd:Bd ((4*100) ^ n) (det n (evn l n)):=det_bd (K:=4) (M:=100) (by omega) hn4 bA
    have ld:=d2.lenB (m:=60) hbd (by
      have h5:=pow_mono (X:=400) (by omega) (show n≤n+2 by omega)
      unfold mb at hM
      have e:(((4:Nat):Int)*100)=400:=by decide
      rw [e] at hM
      have h6:=Dt.pow_nn (X:=400) (by omega) (n+2)
      show ((4:Int)*100) ^ n < pw 60
      rw [show (4:Int)*100=400 by decide]
      omega)
    have hsg:integer_Sign ds dl=some (sgz (det n (evn l n))):=by
      rw [sign_bg d2.1 (by omega),d2.sv]; rfl
    have fin:∀ x:Int,x=sgz (det n (evn l n))→sparselaw08_ExactSigns_j5 (ds,dl,0) x=some true:=fun x hx=>by
      unfold sparselaw08_ExactSigns_j5
      simp only
      rw [hsg,obs,if_pos hx.symm,awake08u,obs,obs]
    have fin4:∀ x:Int,x=(if a % 2=1 then -1 else 1)→sparselaw08_ExactSigns_j4 ((a:Int),(b:Int),(c:Int),0) (ds,dl,0) x=some true:=fun x hx=>by
      unfold sparselaw08_ExactSigns_j4
      simp only
      by_cases hb:0 < b
      · rw [if_pos (by omega)]
        exact fin 0 (by rw [hdet,if_pos hb])
      · rw [if_neg (by omega)]
        exact fin x (by rw [hdet,if_neg hb,hx])
    rw [p1',obs,t1,obs,e1,obs,k1,obs,d1,obs]
    simp only
    rw [ws_i (by omega) (by omega),if_neg (by simp; omega)]
    have hw:wrc (a:Int) 2=((a % 2:Nat):Int):=by
      show Int.tmod (a:Int) 2=_
      rw [Int.tmod_eq_emod_of_nonneg (by omega)]; omega
    rw [hw]
    by_cases h7:a % 2=1
    · rw [if_pos (by omega)]
      exact fin4 _ (by rw [if_pos h7])
    · rw [if_neg (by omega)]
      exact fin4 _ (by rw [if_neg h7])
theorem exactSigns_t (l:List Int) (x3:Int) (_:okL (Wf .i64) l) (_:Wf .i64 x3):sparselaw08_ExactSigns l x3=some true:=exactSigns_true l x3
end Km
