/- Tables of numbers; a row minus a multiple of another one, divided exactly. -/
import Derived.Test.YtpfmbaidflhamaaGreatDoorQzA
import Derived.Test.YtpfmbaidflhamaaGreatDoorQzB
import Derived.KernelRfl
import Derived.Test.YtpfmbaidflhamaaGreatDoorSxR
set_option linter.unusedVariables false
set_option linter.unusedSimpArgs false
set_option maxHeartbeats 4000000
namespace Km
open Sx Go M Vc Lm Dt
abbrev Nb:=Bool×List Int
def Lg (l:List Nb) (w:Nat) (f:Nat→Int):Prop:=l.length=w∧∀ c,c < w→∃ z,l[c]?=some z∧Bg (f c) z.1 z.2
def Tg (T:List (List Nb)) (n w:Nat) (A:Mx):Prop:=T.length=n∧∀ r,r < n→∃ l,T[r]?=some l∧Lg l w (A r)
theorem Lg.congr {l:List Nb} {w:Nat} {f g:Nat→Int} (h:Lg l w f) (e:∀ c,c < w→f c=g c):Lg l w g:=⟨h.1,fun c hc=>by obtain ⟨z,h1,h2⟩:=h.2 c hc; exact ⟨z,h1,h2.cast (e c hc)⟩⟩
theorem Tg.congr {T:List (List Nb)} {n w:Nat} {A B:Mx} (h:Tg T n w A) (e:∀ r c,r < n→c < w→A r c=B r c):Tg T n w B:=⟨h.1,fun r hr=>by obtain ⟨l,h1,h2⟩:=h.2 r hr; exact ⟨l,h1,h2.congr fun c hc=>e r c hr hc⟩⟩
theorem Lg.set {l:List Nb} {w:Nat} {f:Nat→Int} (h:Lg l w f) {c:Nat} (hc:c < w) {z:Nb} {v:Int} (hz:Bg v z.1 z.2):Lg (l.set c z) w (fun j=>if j=c then v else f j):=by
  refine ⟨by rw [List.length_set]; exact h.1,fun j hj=>?_⟩
  by_cases e:j=c
  · subst e
    exact ⟨z,by rw [List.getElem?_set_self]; rw [h.1]; exact hc,hz.cast (show v=(if j=j then v else f j) from (if_pos rfl).symm)⟩
  · obtain ⟨y,h1,h2⟩:=h.2 j hj
    exact ⟨y,by rw [List.getElem?_set_ne (fun h=>e h.symm)]; exact h1,h2.cast (show f j=(if j=c then v else f j) from (if_neg e).symm)⟩
theorem Tg.set {T:List (List Nb)} {n w:Nat} {A:Mx} (h:Tg T n w A) {k:Nat} (hk:k < n) {l:List Nb} {g:Nat→Int} (hl:Lg l w g):Tg (T.set k l) n w (up A k g):=by
  refine ⟨by rw [List.length_set]; exact h.1,fun r hr=>?_⟩
  by_cases e:r=k
  · subst e
    exact ⟨l,by rw [List.getElem?_set_self]; rw [h.1]; exact hk,hl.congr fun c _=>up_in.symm⟩
  · obtain ⟨m,h1,h2⟩:=h.2 r hr
    exact ⟨m,by rw [List.getElem?_set_ne (fun h=>e h.symm)]; exact h1,h2.congr fun c _=>(up_out e).symm⟩
theorem at_some {α:Type} {l:List α} {k:Nat} {x:α} (hx:l[k]?=some x) {i:Int} (hi:i=(k:Int)):getI l i=some x:=by
  subst hi
  have:=(List.getElem?_eq_some_iff.1 hx).1
  exact Ret.eq (by rw [ret_get]; exact ⟨by omega,by omega,fun y hy=>by rw [Int.toNat_natCast] at hy; exact Option.some.inj (hy.symm.trans hx)⟩)
theorem set_some {α:Type} {l:List α} {k:Nat} {x:α} (hk:k < l.length) {i:Int} (hi:i=(k:Int)):setI l i x=some (l.set k x):=by
  subst hi
  exact Ret.eq (by rw [ret_set,Int.toNat_natCast]; exact ⟨by omega,by omega,rfl⟩)
theorem Lg.at {l:List Nb} {w:Nat} {f:Nat→Int} (h:Lg l w f) {c:Nat} (hc:c < w) {i:Int} (hi:i=(c:Int)):∃ z,getI l i=some z∧Bg (f c) z.1 z.2:=by
  obtain ⟨z,h1,h2⟩:=h.2 c hc
  exact ⟨z,at_some h1 hi,h2⟩
theorem Tg.at {T:List (List Nb)} {n w:Nat} {A:Mx} (h:Tg T n w A) {r:Nat} (hr:r < n) {i:Int} (hi:i=(r:Int)):∃ l,getI T i=some l∧Lg l w (A r):=by
  obtain ⟨l,h1,h2⟩:=h.2 r hr
  exact ⟨l,at_some h1 hi,h2⟩
theorem negP_bg {s:Bool} {a:List Int} (ha:LW a) (hn:a.length≤1000000):Ret (integer_Neg s a) (fun r=>Bg (- sv s a) r.1 r.2):=by
  unfold integer_Neg
  rw [clone_ok hn,obs,ret_bind]
  exact (big_bg (!s) ha hn).mono fun r hr=>⟨_,rfl,hr.cast (sv_not s a)⟩
theorem absP_bg {s:Bool} {a:List Int} (ha:LW a) (hn:a.length≤1000000):Ret (integer_Abs s a) (fun r=>Bg (lv a) r.1 r.2):=by
  unfold integer_Abs
  rw [clone_ok hn,obs,ret_bind]
  exact (big_bg false ha hn).mono fun r hr=>⟨_,rfl,hr⟩
theorem quoP_bg {s t:Bool} {a b:List Int} (ha:LW a) (hb:LW b) (hn:a.length≤800) (hm:b.length≤800) {h:Int} (hne:sv t b≠0) (he:sv s a=sv t b*h):Ret (integer_Quo s a t b) (fun r=>Bg h r.1 r.2.1∧r.2.2=0):=by
  unfold integer_Quo
  rw [ret_bind]
  refine (divmod_bg (s:=s) (t:=t) ha hb hn hm hne).mono ?_
  rintro ⟨a,b,c,d,e⟩ ⟨hq,hr,h0⟩
  simp only at hq hr h0 ⊢
  subst h0
  rw [he,Int.mul_emod_right] at hr
  rw [he,Int.mul_ediv_cancel_left _ hne] at hq
  have hd:d=[]:=(lv_zero hr.1 hr.2.1).1 (by rw [hr.abs]; simp)
  subst hd
  rw [if_neg (by simp)]
  exact ⟨_,rfl,hq,rfl⟩
theorem Bg.lenB {v:Int} {s:Bool} {l:List Int} (h:Bg v s l) {M:Int} {m:Nat} (hb:Bd M v) (hM:M < pw m):l.length≤m:=h.len (by have:=hb.1; omega) (by have:=hb.2; omega)
theorem sweep_ok {row top:List Nb} {w:Nat} {f g h:Nat→Int} {M a p d:Int} (hM:M < pw 60) (hrow:Lg row w f) (htop:Lg top w g) {za zp zd:Nb} (ha:Bg a za.1 za.2) (hp:Bg p zp.1 zp.2) (hd:Bg d zd.1 zd.2) (hd0:d≠0)
    (bf:∀ j,j < w→Bd M (f j)) (bg:∀ j,j < w→Bd M (g j)) (ba:Bd M a) (bp:Bd M p) (bd:Bd M d) (he:∀ j,j < w→p*f j - a*g j=d*h j) (hw:w≤1000):
    Ret (exact_sweep row top za.1 za.2 zp.1 zp.2 zd.1 zd.2) (fun r=>Lg r w h):=by
  unfold exact_sweep
  rw [ret_bind]
  have hM0:=ba.nn
  have la:=ha.lenB ba hM
  have lp:=hp.lenB bp hM
  have ld:=hd.lenB bd hM
  have hMM:M*M < pw 120:=by
    have h1:M*M≤M*pw 60:=Int.mul_le_mul_of_nonneg_left (by omega) hM0
    have h2:M*pw 60 < pw 60*pw 60:=Int.mul_lt_mul_of_pos_right hM (pw_pos 60)
    have h3:pw 120=pw 60*pw 60:=pw_add 60 60
    omega
  refine (ret_loop (Post:=fun r:List Nb=>Lg r w h) w (fun k (s:List Nb×Int)=>s.2=(k:Int)∧Lg s.1 w (fun j=>if j < k then h j else f j)) ⟨rfl,hrow.congr fun c _=>by rw [if_neg (by omega)]⟩ ?_ (by omega)).mono fun r hr=>⟨_,rfl,hr⟩
  rintro k ⟨r,_⟩ hk ⟨rfl,hI⟩
  simp only at hI
  unfold exact_sweep_l1
  simp only
  rw [htop.1,ret_if]
  refine ⟨fun hlt=>?_,fun hge=>⟨_,rfl,hI.congr fun c hc=>by rw [if_pos (by omega)]⟩⟩
  have hkw:k < w:=by omega
  obtain ⟨y,hy,hyB⟩:=htop.at hkw rfl
  obtain ⟨x,hx,hxB⟩:=hI.at hkw rfl
  have hxB:Bg (f k) x.1 x.2:=hxB.cast (show (if k < k then h k else f k)=f k from if_neg (by omega))
  have lx:=hxB.lenB (bf k hkw) hM
  have ly:=hyB.lenB (bg k hkw) hM
  rw [hy,obs,hx,obs,ret_bind]
  refine (mul_bg (s:=zp.1) (t:=x.1) hp.1 hxB.1 (by omega) (by omega)).mono fun u hu=>?_
  rw [hp.sv,hxB.sv] at hu
  have lu:=hu.lenB (bp.mul (bf k hkw)) hMM
  rw [ret_bind]
  refine (mul_bg (s:=za.1) (t:=y.1) ha.1 hyB.1 (by omega) (by omega)).mono fun v hv=>?_
  rw [ha.sv,hyB.sv] at hv
  have lv':=hv.lenB (ba.mul (bg k hkw)) hMM
  rw [ret_bind]
  refine (sub_bg (s:=u.1) (t:=v.1) hu.1 hv.1 (by omega) (by omega)).mono fun q hq=>?_
  rw [hu.sv,hv.sv] at hq
  have h2M:M*M+M*M < pw 121:=by
    have:=pw_pos 120
    have e:pw 121=B*pw 120:=rfl
    have e2:B=4294967296:=rfl
    rw [e,e2]; omega
  have lq:=hq.lenB ((bp.mul (bf k hkw)).sub (ba.mul (bg k hkw))) h2M
  rw [ret_bind]
  refine (quoP_bg (s:=q.1) (t:=zd.1) (h:=h k) hq.1 hd.1 (by omega) (by omega) (by rw [hd.sv]; exact hd0) (by rw [hq.sv,hd.sv]; exact he k hkw)).mono ?_
  rintro ⟨t1,t2,t3⟩ ⟨ht,_⟩
  simp only at ht ⊢
  rw [set_some (by rw [hI.1]; exact hkw) rfl,obs]
  refine ⟨_,rfl,hkw,by show wa .i64 (k:Int) 1=_; rw [wa_i (by omega) (by omega)]; rfl,?_⟩
  refine (hI.set hkw (z:=(t1,t2)) ht).congr fun c hc=>?_
  by_cases e:c=k
  · subst e; rw [if_pos rfl,if_pos (by omega)]
  · rw [if_neg e]
    by_cases hck:c < k
    · rw [if_pos hck,if_pos (by omega)]
    · rw [if_neg hck,if_neg (by omega)]
end Km
namespace Km
open Sx Go M Vc Lm Dt
def Okb (n w:Nat) (A:Mx) (M:Int):Prop:=∀ (A':Mx) (cl:Nat→Nat) (q i j:Nat),(∀ i,i < n→∃ i',i' < n∧∀ j,A' i j=A i' j)→q≤n→(∀ s,s < q→cl s < w)→i < n→j < w→Bd M (Rk A' cl q i j)∧Bd M (det q (Pm_ A' cl))
theorem pow_mono {X:Int} (hX:1≤X) {m n:Nat} (h:m≤n):X ^ m≤X ^ n:=by
  obtain ⟨d,rfl⟩:=Nat.exists_eq_add_of_le h
  induction d with
  | zero=>exact Int.le_refl _
  | succ d ih=>
    have h1:=ih (by omega)
    have h2:=Dt.pow_nn (show 0≤X by omega) (m+d)
    have h3:X ^ (m+d)*1≤X ^ (m+d)*X:=Int.mul_le_mul_of_nonneg_left hX h2
    rw [show m+(d+1)=(m+d)+1 by omega,Int.pow_succ]
    omega
theorem okb_of {n w K:Nat} {M:Int} {A:Mx} (hM:1≤M) (hK:1≤K) (hnK:n≤K) (hA:∀ i j,i < n→j < w→Bd M (A i j)):Okb n w A (2*(K*M) ^ (n+2)):=by
  intro A' cl q i j hp hq hc hi hj
  have hKM:1≤(K:Int)*M:=by
    have:(1:Int)*1≤K*M:=Int.mul_le_mul (by omega) hM (by omega) (by omega)
    omega
  have hA':∀ i j,i < n→j < w→Bd M (A' i j):=by
    intro i j hi hj
    obtain ⟨i',h1,h2⟩:=hp i hi
    rw [h2]; exact hA i' j h1 hj
  obtain ⟨h1,h2⟩:=Rk_bd (K:=K) (n:=n) (w:=w) (A:=A') (col:=cl) (k:=q) (i:=i) (j:=j) hM hK hA' hq (by omega) hc hi hj
  have h3:=pow_mono hKM (show q+2≤n+2 by omega)
  exact ⟨h1.mono (by omega),h2.mono (by omega)⟩
section
variable {n w cw:Nat} {A A':Mx} {col:Nat→Nat} {k c:Nat} {sn M:Int}
theorem bar_rows (h:Bar n cw A A' col k c sn):∀ i,i < n→∃ i',i' < n∧∀ j,A' i j=A i' j:=by
  obtain ⟨x,xi,hx,hA⟩:=h.perm
  exact fun i hi=>⟨x i,(hx i hi).1,fun j=>hA i j hi⟩
theorem sw_rows (h:∀ i,i < n→∃ i',i' < n∧∀ j,A' i j=A i' j) {a b:Nat} (ha:a < n) (hb:b < n):∀ i,i < n→∃ i',i' < n∧∀ j,sw A' a b i j=A i' j:=by
  intro i hi
  by_cases e1:i=a
  · obtain ⟨i',h1,h2⟩:=h b hb
    exact ⟨i',h1,fun j=>by unfold sw; rw [if_pos e1]; exact h2 j⟩
  · by_cases e2:i=b
    · obtain ⟨i',h1,h2⟩:=h a ha
      exact ⟨i',h1,fun j=>by unfold sw; rw [if_neg e1,if_pos e2]; exact h2 j⟩
    · obtain ⟨i',h1,h2⟩:=h i hi
      exact ⟨i',h1,fun j=>by unfold sw; rw [if_neg e1,if_neg e2]; exact h2 j⟩
theorem j1_ok (hM:M < pw 60) (hR:Okb n w A M) (h:Bar n cw A A' col k c sn) (hcw:cw≤w) (hw:w≤1000) (hn:n≤1000) (hc:c < cw) {a:Nat} (hka:k≤a) (han:a < n) (hne:Rk A' col k a c≠0)
    {T:List (List Nb)} (hT:Tg T n w (Rk (sw A' k a) col k)) {pv:List Int} (hpv:pv.length≤1000) {zd:Nb} (hd:Bg (det k (Pm_ A' col)) zd.1 zd.2) {s':Int}:
    Ret (exact_reduced_step_j1 (k:Int) (c:Int) zd.1 zd.2 pv T s') (fun r=>Tg r.1 n w (Rk (sw A' k a) (setC col k c) (k+1))∧r.2.1=pv++[(c:Int)]∧Bg (det (k+1) (Pm_ (sw A' k a) (setC col k c))) r.2.2.1 r.2.2.2.1∧r.2.2.2.2=s'):=by
  obtain ⟨hB',hdet,htop,hstep⟩:=h.pivot hc hka han hne
  have hkn:k < n:=by omega
  have hrows:=bar_rows h
  have hrows':=sw_rows hrows hkn han
  have hlt:∀ s,s < k→col s < w:=fun s hs=>by have:=h.lt s hs; have:=h.cw; omega
  have hlt':∀ s,s < k+1→setC col k c s < w:=fun s hs=>by have:=hB'.lt s hs; have:=hB'.cw; omega
  have bR:∀ i j,i < n→j < w→Bd M (Rk (sw A' k a) col k i j):=fun i j hi hj=>(hR _ _ _ _ _ hrows' h.kn hlt hi hj).1
  have bd:Bd M (det k (Pm_ A' col)):=(hR _ col k 0 c hrows h.kn hlt (by omega) (by omega)).2
  have hk:∀ j,Rk (sw A' k a) col k k j=Rk A' col k a j:=fun j=>by rw [Rk_sw hka,if_pos rfl]
  unfold exact_reduced_step_j1
  obtain ⟨lk,h1,h2⟩:=hT.at hkn (i:=(k:Int)) rfl
  obtain ⟨nx,h3,h4⟩:=h2.at (show c < w by omega) (i:=(c:Int)) rfl
  rw [hk] at h4
  rw [h1,obs,h3,obs,ret_bind]
  refine (ret_loop (Post:=fun r:List (List Nb)=>Tg r n w (Rk (sw A' k a) (setC col k c) (k+1))) n (fun i (s:List (List Nb)×Int)=>s.2=(i:Int)∧Tg s.1 n w (fun r j=>if r < i∧r≠k then Rk (sw A' k a) (setC col k c) (k+1) r j else Rk (sw A' k a) col k r j)) ⟨rfl,hT.congr fun r j _ _=>by rw [if_neg (by omega)]⟩ ?_ (by omega)).mono ?_
  · rintro i ⟨T',_⟩ hi ⟨rfl,hI⟩
    simp only at hI
    unfold exact_reduced_step_l4
    simp only
    rw [hT.1,ret_if]
    refine ⟨fun hlt2=>?_,fun hge=>⟨_,rfl,hI.congr fun r j hr hj=>?_⟩⟩
    · have hin:i < n:=by omega
      obtain ⟨row,hr1,hr2⟩:=hI.at hin (i:=(i:Int)) rfl
      have hr2:Lg row w (Rk (sw A' k a) col k i):=hr2.congr fun j _=>if_neg (by omega)
      have hwa:wa .i64 (i:Int) 1=((i+1:Nat):Int):=by rw [wa_i (by omega) (by omega)]; rfl
      rw [hr1,obs,ret_if]
      unfold exact_reduced_step_j5
      rw [hwa]
      refine ⟨fun he=>⟨_,rfl,hin,rfl,hI.congr fun r j _ _=>?_⟩,fun he=>?_⟩
      · have hik:i=k:=by omega
        by_cases hc2:r < i∧r≠k
        · rw [if_pos hc2,if_pos ⟨by omega,hc2.2⟩]
        · rw [if_neg hc2,if_neg (by omega)]
      · have hik:i≠k:=by omega
        obtain ⟨top,ht1,ht2⟩:=hI.at hkn (i:=(k:Int)) rfl
        have ht2:Lg top w (Rk A' col k a):=ht2.congr fun j _=>(if_neg (by omega)).trans (hk j)
        obtain ⟨fz,hf1,hf2⟩:=hr2.at (show c < w by omega) (i:=(c:Int)) rfl
        have hne2:neI (i:Int) (k:Int)=some ():=by unfold neI; rw [if_neg he]
        rw [ht1,obs,hf1,obs,hne2,obs,ret_bind]
        have bA:∀ j,j < w→Bd M (Rk A' col k a j):=fun j hj=>by rw [← hk]; exact bR k j hkn hj
        refine (sweep_ok (h:=Rk (sw A' k a) (setC col k c) (k+1) i) hM hr2 ht2 hf2 h4 hd h.d (fun j hj=>bR i j hin hj) bA (bR i c hin (by omega)) (bA c (by omega)) bd (fun j hj=>hstep i j hik) hw).mono fun row' hrow'=>?_
        rw [set_some (by rw [hI.1]; exact hin) rfl,obs]
        refine ⟨_,rfl,hin,rfl,(hI.set hin hrow').congr fun r j hr hj=>?_⟩
        by_cases e:r=i
        · subst e
          rw [up_in,if_pos ⟨by omega,hik⟩]
        · rw [up_out e]
          by_cases hc2:r < i∧r≠k
          · rw [if_pos hc2,if_pos ⟨by omega,hc2.2⟩]
          · rw [if_neg hc2,if_neg (by omega)]
    · by_cases e:r=k
      · subst e
        rw [if_neg (by omega),hk]; exact (htop j).symm
      · rw [if_pos ⟨by omega,e⟩]
  · intro T' hT'
    rw [ret_bind,ret_app]
    refine ⟨by simp only [List.length_cons,List.length_nil]; omega,_,rfl,hT',rfl,?_,rfl⟩
    rw [hdet]; exact h4
theorem step_ok (hM:M < pw 60) (hR:Okb n w A M) (h:Bar n cw A A' col k c sn) (hcw:cw≤w) (hw:w≤1000) (hn:n≤1000) (hc:c < cw) {a:Nat} (hka:k≤a) (han:a < n) (hne:Rk A' col k a c≠0)
    {T:List (List Nb)} (hT:Tg T n w (Rk A' col k)) {pv:List Int} (hpv:pv.length≤1000) {zd:Nb} (hd:Bg (det k (Pm_ A' col)) zd.1 zd.2):
    Ret (exact_reduced_step T pv zd.1 zd.2 sn (c:Int) (k:Int) (a:Int)) (fun r=>Tg r.1 n w (Rk (sw A' k a) (setC col k c) (k+1))∧r.2.1=pv++[(c:Int)]∧Bg (det (k+1) (Pm_ (sw A' k a) (setC col k c))) r.2.2.1 r.2.2.2.1∧r.2.2.2.2=(if a=k then sn else -sn)):=by
  have hkn:k < n:=by omega
  unfold exact_reduced_step
  rw [ret_if]
  refine ⟨fun hlt=>?_,fun hge=>?_⟩
  · obtain ⟨la,h1,h2⟩:=hT.at han (i:=(a:Int)) rfl
    obtain ⟨lk,h3,h4⟩:=hT.at hkn (i:=(k:Int)) rfl
    rw [h1,obs,h3,obs,set_some (by rw [hT.1]; exact hkn) rfl,obs,set_some (by rw [List.length_set,hT.1]; exact han) rfl,obs]
    have hT':Tg ((T.set k la).set a lk) n w (Rk (sw A' k a) col k):=by
      refine ((hT.set hkn h2).set han h4).congr fun r j hr hj=>?_
      rw [Rk_sw hka]
      by_cases e1:r=k
      · subst e1; rw [if_pos rfl,up_out (by omega),up_in]
      · rw [if_neg e1]
        by_cases e2:r=a
        · subst e2; rw [if_pos rfl,up_in]
        · rw [if_neg e2,up_out e2,up_out e1]
    have hs:wneg .i64 sn= -sn:=by
      rcases h.sg.1 with rfl | rfl
      · exact IntWalk.i64_in _ ⟨by omega,by omega⟩
      · exact IntWalk.i64_in _ ⟨by omega,by omega⟩
    rw [hs,if_neg (by omega)]
    exact j1_ok hM hR h hcw hw hn hc hka han hne hT' hpv hd
  · have e:a=k:=by omega
    subst e
    rw [if_pos rfl]
    refine j1_ok hM hR h hcw hw hn hc hka han hne ?_ hpv hd
    refine hT.congr fun r j _ _=>?_
    rw [Rk_sw (Nat.le_refl _)]
    by_cases e1:r=a
    · subst e1; rw [if_pos rfl]
    · rw [if_neg e1,if_neg e1]
def EI (n w cw:Nat) (A:Mx) (c:Nat) (T:List (List Nb)) (pv:List Int) (zs:Bool) (zl:List Int) (sn:Int):Prop:=
  ∃ A' col k,Bar n cw A A' col k c sn∧Tg T n w (Rk A' col k)∧pv=(List.range k).map (fun s=>(col s:Int))∧Bg (det k (Pm_ A' col)) zs zl
theorem eliminate_ok (hM:M < pw 60) (hR:Okb n w A M) (hcw:cw≤w) (hw:w≤900) (hn:n≤900) {T:List (List Nb)} (hT:Tg T n w A):
    Ret (exact_eliminate T (cw:Int)) (fun r=>EI n w cw A cw r.1 r.2.1 r.2.2.1 r.2.2.2.1 r.2.2.2.2):=by
  unfold exact_eliminate
  rw [ret_bind]
  refine (from_bg (n:=1) (by omega) (by omega)).mono fun one hone=>?_
  rw [ret_bind]
  refine (ret_loop (Post:=fun r:List (List Nb)×List Int×Bool×List Int×Int=>EI n w cw A cw r.1 r.2.1 r.2.2.1 r.2.2.2.1 r.2.2.2.2) cw (fun c (s:List (List Nb)×List Int×Bool×List Int×Int×Int)=>s.2.2.2.2.2=(c:Int)∧c≤cw∧EI n w cw A c s.1 s.2.1 s.2.2.1 s.2.2.2.1 s.2.2.2.2.1) ⟨rfl,by omega,A,id,0,Bar.start,hT.congr fun r j _ _=>Rk_zero.symm,rfl,hone.cast (show (1:Int)=det 0 (Pm_ A id) from rfl)⟩ ?_ (by omega)).mono fun r hr=>⟨_,rfl,hr⟩
  rintro c ⟨T,pv,zs,zl,sn,_⟩ hc ⟨rfl,hcc,A',col,k,hB,hT,hpv,hd⟩
  simp only at hB hT hpv hd
  unfold exact_eliminate_l9
  simp only
  rw [ret_if]
  refine ⟨fun hlt=>?_,fun hge=>⟨_,rfl,by have e:c=cw:=(by omega); subst e; exact ⟨A',col,k,hB,hT,hpv,hd⟩⟩⟩
  have hccw:c < cw:=by omega
  have hpl:pv.length=k:=by rw [hpv,List.length_map,List.length_range]
  have hkn:=hB.kn
  have hrows:=bar_rows hB
  have hlt':∀ s,s < k→col s < w:=fun s hs=>by have:=hB.lt s hs; have:=hB.cw; omega
  have hwa:wa .i64 (c:Int) 1=((c+1:Nat):Int):=by rw [wa_i (by omega) (by omega)]; rfl
  rw [ret_bind]
  refine (ret_loop (Post:=fun o=>(o=.inr ()∧∀ i,k≤i→i < n→Rk A' col k i c=0)∨∃ r,o=.inl r∧EI n w cw A (c+1) r.1 r.2.1 r.2.2.1 r.2.2.2.1 r.2.2.2.2) (n - k) (fun i (s:Int)=>s=((k+i:Nat):Int)∧k+i≤n∧∀ j,k≤j→j < k+i→Rk A' col k j c=0) ⟨by rw [hpl]; rfl,by omega,fun j h1 h2=>absurd h2 (by omega)⟩ ?_ (by omega)).mono ?_
  · rintro i _ hi ⟨rfl,hin,hz⟩
    unfold exact_eliminate_l13
    rw [hT.1,ret_if]
    refine ⟨fun hl2=>?_,fun hge=>⟨_,rfl,.inl ⟨rfl,fun j h1 h2=>hz j h1 (by omega)⟩⟩⟩
    have han:k+i < n:=by omega
    obtain ⟨row,h1,h2⟩:=hT.at han (i:=((k+i:Nat):Int)) rfl
    obtain ⟨x,h3,h4⟩:=h2.at (show c < w by omega) (i:=(c:Int)) rfl
    have bx:=(hR _ _ _ _ _ hrows hkn hlt' han (show c < w by omega)).1
    have lx:=h4.lenB bx hM
    rw [h1,obs,h3,obs,sign_bg h4.1 (by omega),obs,h4.sv,ret_if]
    refine ⟨fun h0=>⟨_,rfl,by omega,?_,by omega,fun j hj1 hj2=>?_⟩,fun h0=>?_⟩
    · rw [wa_i (by omega) (by omega)]; omega
    · by_cases e:j=k+i
      · subst e
        revert h0; split
        · omega
        · split
          · omega
          · intro _; omega
      · exact hz j hj1 (by omega)
    · have hne:Rk A' col k (k+i) c≠0:=fun h=>h0 (by rw [h]; rfl)
      have hpl':(pv.length:Int)=(k:Int):=by rw [hpl]
      rw [hpl',ret_bind]
      refine (step_ok (zd:=(zs,zl)) hM hR hB hcw (by omega) (by omega) hccw (by omega) han hne hT (by omega) hd).mono ?_
      rintro ⟨T',pv',zs',zl',sn'⟩ ⟨g1,g2,g3,g4⟩
      simp only at g1 g2 g3 g4 ⊢
      refine ⟨_,rfl,.inr ⟨_,rfl,sw A' k (k+i),setC col k c,k+1,?_,g1,?_,g3⟩⟩
      · have:=(hB.pivot hccw (by omega) han hne).1
        show Bar n cw A (sw A' k (k+i)) (setC col k c) (k+1) (c+1) sn'
        rw [g4]; exact this
      · show pv'=_
        rw [g2,hpv,List.range_succ,List.map_append]
        congr 1
        · refine List.map_congr_left fun s hs=>?_
          rw [setC_lt (List.mem_range.1 hs)]
        · show [(c:Int)]=[((setC col k c k:Nat):Int)]
          rw [setC_at]
  · rintro _ (⟨rfl,hz⟩ | ⟨⟨T',pv',zs',zl',sn'⟩,rfl,hE⟩)
    · show Ret (exact_eliminate_j12 _ _ _ _ _ _) _
      unfold exact_eliminate_j12
      exact ⟨_,rfl,hccw,hwa,by omega,A',col,k,hB.none hccw hz,hT,hpv,hd⟩
    · show Ret (exact_eliminate_j12 _ _ _ _ _ _) _
      unfold exact_eliminate_j12
      exact ⟨_,rfl,hccw,hwa,by omega,hE⟩
end
end Km
namespace Km
open Sx Go M Vc Lm Dt
theorem Lg.snoc {l:List Nb} {k:Nat} {f:Nat→Int} (h:Lg l k f) {z:Nb} (hz:Bg (f k) z.1 z.2):Lg (l++[z]) (k+1) f:=by
  refine ⟨by rw [List.length_append,h.1]; rfl,fun c hc=>?_⟩
  by_cases e:c < k
  · obtain ⟨y,h1,h2⟩:=h.2 c e
    exact ⟨y,by rw [List.getElem?_append_left (by rw [h.1]; exact e)]; exact h1,h2⟩
  · obtain rfl:c=k:=by omega
    exact ⟨z,by rw [List.getElem?_append_right (by rw [h.1]; omega),h.1,Nat.sub_self]; rfl,hz⟩
theorem Tg.snoc {T:List (List Nb)} {k w:Nat} {A:Mx} (h:Tg T k w A) {l:List Nb} (hl:Lg l w (A k)):Tg (T++[l]) (k+1) w A:=by
  refine ⟨by rw [List.length_append,h.1]; rfl,fun c hc=>?_⟩
  by_cases e:c < k
  · obtain ⟨y,h1,h2⟩:=h.2 c e
    exact ⟨y,by rw [List.getElem?_append_left (by rw [h.1]; exact e)]; exact h1,h2⟩
  · obtain rfl:c=k:=by omega
    exact ⟨l,by rw [List.getElem?_append_right (by rw [h.1]; omega),h.1,Nat.sub_self]; rfl,hl⟩
section
variable {n w:Nat} {A:Mx} {T:List (List Nb)}
theorem xcolumns_ok (hT:Tg T n w A):exact_columns T=some (if n=0 then 0 else (w:Int)):=by
  unfold exact_columns
  by_cases h0:n=0
  · rw [if_pos (by rw [hT.1]; omega),if_pos h0]
  · rw [if_neg (by rw [hT.1]; omega),if_neg h0]
    obtain ⟨l,h1,h2⟩:=hT.at (r:=0) (by omega) (i:=0) rfl
    rw [h1,obs,h2.1]
theorem xcheck_ok (hT:Tg T n w A) (hn:n≤16) (hw:w≤16):exact_check T=some 0:=by
  have hc:slices_ContainsFunc_apiBig T (if n=0 then 0 else (w:Int))=some false:=by
    refine Ret.eq ?_
    unfold slices_ContainsFunc_apiBig slices_IndexFunc_apiBig
    rw [ret_bind,ret_bind]
    refine (ret_loop (Post:=fun o=>o=.inl ()) n (fun k (i:Int)=>i=(k:Int)) rfl ?_ (by omega)).mono ?_
    · rintro k _ hk rfl
      unfold slices_IndexFunc_apiBig_l1
      rw [hT.1,ret_if]
      refine ⟨fun hlt=>?_,fun _=>⟨_,rfl,rfl⟩⟩
      obtain ⟨l,h1,h2⟩:=hT.at (r:=k) (by omega) (i:=(k:Int)) rfl
      unfold exact_check_1
      rw [h1,obs,obs,h2.1,if_neg (show ¬ n=0 by omega)]
      simp only [decide_true,Bool.not_true,Bool.false_eq_true,if_false]
      exact ⟨_,rfl,by omega,by show wa .i64 (k:Int) 1=_; rw [wa_i (by omega) (by omega)]; rfl⟩
    · rintro _ rfl
      exact ⟨_,rfl,_,rfl,rfl⟩
  unfold exact_check
  rw [xcolumns_ok hT,obs,hc,obs,if_neg (by simp),hT.1,if_neg]
  simp only [Bool.or_eq_true,decide_eq_true_eq,not_or]
  split<;>omega
theorem xsquare_ok (hT:Tg T n n A) (hn:n≤16):exact_square T=some 0:=by
  unfold exact_square
  rw [xcheck_ok hT hn hn,obs,if_pos rfl,xcolumns_ok hT,obs,hT.1]
  have:(!(decide ((n:Int)=if n=0 then 0 else (n:Int))))=false:=by split<;>simp<;>omega
  rw [this,obs,if_neg (by simp)]
theorem normZ_ok {v:Int} {z:Nb} (hz:Bg v z.1 z.2) (hl:z.2.length≤1000000):Ret (integer_Norm z.1 z.2) (fun r=>Bg v r.1 r.2):=(normP_bg (s:=z.1) hz.1 hl).mono fun r hr=>by rw [hz.sv] at hr; exact hr
theorem rowtwin_ok {row:List Nb} {f:Nat→Int} {M:Int} (hM:M < pw 60) (hrow:Lg row w f) (bf:∀ j,j < w→Bd M (f j)) (hw:w≤1000):Ret (loop (exact_twin_l6 row) ([],0)) (fun o=>Lg o w f):=by
  refine ret_loop (Post:=fun o:List Nb=>Lg o w f) w (fun k (s:List Nb×Int)=>s.2=(k:Int)∧Lg s.1 k f) ⟨rfl,rfl,fun c hc=>absurd hc (by omega)⟩ ?_ (by omega)
  rintro k ⟨o,_⟩ hk ⟨rfl,hI⟩
  simp only at hI
  unfold exact_twin_l6
  simp only
  rw [hrow.1,ret_if]
  refine ⟨fun hlt=>?_,fun hge=>⟨_,rfl,by have e:k=w:=(by omega); subst e; exact hI⟩⟩
  have hkw:k < w:=by omega
  obtain ⟨z,h1,h2⟩:=hrow.at hkw (i:=(k:Int)) rfl
  have lz:=h2.lenB (bf k hkw) hM
  rw [h1,obs,ret_bind]
  refine (normZ_ok h2 (by omega)).mono fun r hr=>?_
  rw [ret_bind,ret_app]
  refine ⟨by rw [hI.1]; simp only [List.length_cons,List.length_nil]; omega,_,rfl,hkw,by show wa .i64 (k:Int) 1=_; rw [wa_i (by omega) (by omega)]; rfl,hI.snoc (z:=(r.1,r.2)) hr⟩
theorem twin0_ok {M:Int} (hM:M < pw 60) (hT:Tg T n w A) (bA:∀ i j,i < n→j < w→Bd M (A i j)) (hn:n≤1000) (hw:w≤1000):Ret (exact_twin T []) (fun o=>Tg o n w A):=by
  unfold exact_twin
  rw [ret_bind]
  refine (ret_loop (Post:=fun o:List (List Nb)=>Tg o n w A) n (fun k (s:List (List Nb)×Int)=>s.2=(k:Int)∧Tg s.1 k w A) ⟨rfl,rfl,fun c hc=>absurd hc (by omega)⟩ ?_ (by omega)).mono fun r hr=>⟨_,rfl,hr⟩
  rintro k ⟨o,_⟩ hk ⟨rfl,hI⟩
  simp only at hI
  unfold exact_twin_l5
  simp only
  rw [hT.1,ret_if]
  refine ⟨fun hlt=>?_,fun hge=>⟨_,rfl,by have e:k=n:=(by omega); subst e; exact hI⟩⟩
  have hkn:k < n:=by omega
  obtain ⟨row,h1,h2⟩:=hT.at hkn (i:=(k:Int)) rfl
  rw [h1,obs,ret_bind]
  refine (rowtwin_ok hM h2 (fun j hj=>bA k j hkn hj) hw).mono fun r hr=>?_
  rw [if_neg (by simp)]
  unfold exact_twin_j7
  rw [ret_bind,ret_app]
  exact ⟨by rw [hI.1]; simp only [List.length_cons,List.length_nil]; omega,_,rfl,hkn,by show wa .i64 (k:Int) 1=_; rw [wa_i (by omega) (by omega)]; rfl,hI.snoc hr⟩
def aug (A:Mx) (w:Nat) (g:Nat→Int):Mx:=fun r c=>if c=w then g r else A r c
theorem twin1_ok {M:Int} (hM:M < pw 60) (hT:Tg T n w A) (bA:∀ i j,i < n→j < w→Bd M (A i j)) {b:List Nb} {g:Nat→Int} (hb:Lg b n g) (bg:∀ j,j < n→Bd M (g j)) (hn:n≤1000) (hw:w≤1000):Ret (exact_twin T b) (fun o=>Tg o n (w+1) (aug A w g)):=by
  unfold exact_twin
  rw [ret_bind]
  refine (ret_loop (Post:=fun o:List (List Nb)=>Tg o n (w+1) (aug A w g)) n (fun k (s:List (List Nb)×Int)=>s.2=(k:Int)∧Tg s.1 k (w+1) (aug A w g)) ⟨rfl,rfl,fun c hc=>absurd hc (by omega)⟩ ?_ (by omega)).mono fun r hr=>⟨_,rfl,hr⟩
  rintro k ⟨o,_⟩ hk ⟨rfl,hI⟩
  simp only at hI
  unfold exact_twin_l5
  simp only
  rw [hT.1,ret_if]
  refine ⟨fun hlt=>?_,fun hge=>⟨_,rfl,by have e:k=n:=(by omega); subst e; exact hI⟩⟩
  have hkn:k < n:=by omega
  obtain ⟨row,h1,h2⟩:=hT.at hkn (i:=(k:Int)) rfl
  obtain ⟨z,h3,h4⟩:=hb.at hkn (i:=(k:Int)) rfl
  have lz:=h4.lenB (bg k hkn) hM
  rw [h1,obs,ret_bind]
  refine (rowtwin_ok hM h2 (fun j hj=>bA k j hkn hj) hw).mono fun r hr=>?_
  rw [if_pos (by rw [hb.1]; omega),h3,obs,ret_bind]
  refine (normZ_ok h4 (by omega)).mono fun y hy=>?_
  rw [ret_bind,ret_app]
  refine ⟨by rw [hr.1]; simp only [List.length_cons,List.length_nil]; omega,?_⟩
  unfold exact_twin_j7
  rw [ret_bind,ret_app]
  have hr':Lg r w (aug A w g k):=hr.congr fun c hc=>by unfold aug; rw [if_neg (by omega)]
  have hrow:Lg (r++[(y.1,y.2)]) (w+1) (aug A w g k):=hr'.snoc (z:=(y.1,y.2)) (hy.cast (by unfold aug; rw [if_pos rfl]))
  exact ⟨by rw [hI.1]; simp only [List.length_cons,List.length_nil]; omega,_,rfl,hkn,by show wa .i64 (k:Int) 1=_; rw [wa_i (by omega) (by omega)]; rfl,hI.snoc hrow⟩
theorem turned_ok {R:List (List Nb)} {pv:List Int} {zs:Bool} {zl:List Int} {sg' D v:Int} {z:Nb} (hD:Bg D zs zl) (hz:Bg v z.1 z.2) (l1:zl.length≤1000) (l2:z.2.length≤1000):Ret (exact_reduced_turned R pv zs zl sg' z.1 z.2) (fun r=>Bg (if D < 0 then -v else v) r.1 r.2):=by
  unfold exact_reduced_turned
  rw [sign_bg hD.1 (by omega),obs,hD.sv,ret_if]
  refine ⟨fun hc=>?_,fun hc=>?_⟩
  · have hneg:D < 0:=by revert hc; split<;>(try split)<;>omega
    rw [ret_bind]
    refine (negP_bg (s:=z.1) hz.1 (by omega)).mono fun r hr=>⟨_,rfl,hr.cast ?_⟩
    rw [hz.sv,if_pos hneg]
  · have hneg:¬ D < 0:=fun h=>hc (by rw [if_pos h]; omega)
    rw [ret_bind]
    refine (normP_bg (s:=z.1) hz.1 (by omega)).mono fun r hr=>⟨_,rfl,hr.cast ?_⟩
    rw [hz.sv,if_neg hneg]
theorem xsolve_ok {M:Int} (hM:M < pw 60) (hT:Tg T n n A) (bA:∀ i j,i < n→j < n→Bd M (A i j)) {b:List Nb} {g:Nat→Int} (hb:Lg b n g) (bg:∀ j,j < n→Bd M (g j)) (hR:Okb n (n+1) (aug A n g) M) (hn:n≤16) (hn0:0 < n):
    Ret (exact_Solve T b) (fun r=>(r.2.2.2=9∧det n A=0)∨(r.2.2.2=0∧det n A≠0∧∃ x,Lg r.1 n x∧Bg (if det n A < 0 then - det n A else det n A) r.2.1 r.2.2.1∧(∀ i,i < n→Bd M (x i))∧∀ i,i < n→sm n (fun j=>A i j*x j)=(if det n A < 0 then - det n A else det n A)*g i)):=by
  have hda:det n (aug A n g)=det n A:=det_congr fun i j hi hj=>by unfold aug; rw [if_neg (by omega)]
  unfold exact_Solve
  rw [xsquare_ok hT hn,obs,if_pos rfl,hb.1,hT.1,if_pos rfl,ret_bind]
  refine (twin1_ok hM hT bA hb bg (by omega) (by omega)).mono fun T' hT'=>?_
  rw [ret_bind]
  refine (eliminate_ok (cw:=n) hM hR (by omega) (by omega) (by omega) hT').mono ?_
  rintro ⟨R,pv,zs,zl,sn⟩ ⟨A',col,k,hB,hTR,hpv,hd⟩
  simp only at hB hTR hpv hd ⊢
  have hpl:pv.length=k:=by rw [hpv,List.length_map,List.length_range]
  rw [hpl,ret_if]
  refine ⟨fun hlt=>⟨_,rfl,.inl ⟨rfl,?_⟩⟩,fun hge=>?_⟩
  · rw [← hda]; exact hB.det0 (by omega)
  · have hkn:=hB.kn
    obtain rfl:k=n:=by omega
    have hdet:=hB.det_ok
    rw [hda] at hdet
    have hsol:=hB.solve
    have hdn:=hB.d
    have hcols:∀ s,s < k→col s < k+1:=fun s hs=>by have:=hB.lt s hs; omega
    have bd:=(hR A' col k 0 0 (bar_rows hB) (Nat.le_refl k) hcols hn0 (by omega)).2
    have bX:∀ i,i < k→Bd M (Rk A' col k i k):=fun i hi=>(hR A' col k i k (bar_rows hB) (Nat.le_refl k) hcols hi (by omega)).1
    have ld:=hd.lenB bd hM
    generalize hD:det k (Pm_ A' col)=D at*
    have habs:(if det k A < 0 then - det k A else det k A)=if D < 0 then -D else D:=by
      rcases hB.sg.1 with h | h
      · rw [h,Int.one_mul] at hdet; rw [hdet]
      · rw [h] at hdet
        have:D= - det k A:=by omega
        rw [this]; split<;>split<;>omega
    have hne:det k A≠0:=by
      intro h; rw [h,Int.mul_zero] at hdet; exact hdn hdet
    rw [ret_bind]
    refine (ret_loop (Post:=fun o:List Nb=>Lg o k (fun i=>if D < 0 then - Rk A' col k i k else Rk A' col k i k)) k (fun i (s:List Nb×Int)=>s.2=(i:Int)∧Lg s.1 i (fun i=>if D < 0 then - Rk A' col k i k else Rk A' col k i k)) ⟨rfl,rfl,fun c hc=>absurd hc (by omega)⟩ ?_ (by omega)).mono ?_
    · rintro i ⟨o,_⟩ hi ⟨rfl,hI⟩
      simp only at hI
      unfold exact_Solve_l1
      simp only
      rw [hTR.1,hT.1,ret_if]
      refine ⟨fun hlt=>?_,fun hge2=>⟨_,rfl,by have e:i=k:=(by omega); subst e; exact hI⟩⟩
      have hik:i < k:=by omega
      obtain ⟨row,h1,h2⟩:=hTR.at hik (i:=(i:Int)) rfl
      obtain ⟨z,h3,h4⟩:=h2.at (show k < k+1 by omega) (i:=(k:Int)) rfl
      have lz:=h4.lenB (bX i hik) hM
      rw [h1,obs,h3,obs,ret_bind]
      refine (turned_ok hd h4 (by omega) (by omega)).mono fun r hr=>?_
      rw [ret_bind,ret_app]
      exact ⟨by rw [hI.1]; simp only [List.length_cons,List.length_nil]; omega,_,rfl,hik,by show wa .i64 (i:Int) 1=_; rw [wa_i (by omega) (by omega)]; rfl,hI.snoc (z:=(r.1,r.2)) hr⟩
    · intro xs hxs
      rw [ret_bind]
      refine (absP_bg (s:=zs) hd.1 (by omega)).mono fun r hr=>⟨_,rfl,.inr ⟨rfl,hne,_,hxs,?_,?_,?_⟩⟩
      · rw [hd.abs] at hr
        rw [habs]; exact hr
      · intro i hi
        have:=bX i hi
        split
        · exact this.neg
        · exact this
      · intro i hi
        rw [habs]
        have h1:=hsol i hi
        have e1:sm k (fun j=>aug A k g i j*Rk A' col k j k)=sm k (fun j=>A i j*Rk A' col k j k):=sm_congr fun j hj=>by unfold aug; rw [if_neg (by omega)]
        have e2:aug A k g i k=g i:=by unfold aug; rw [if_pos rfl]
        rw [e1,e2] at h1
        by_cases hn2:D < 0
        · rw [if_pos hn2]
          have e3:sm k (fun j=>A i j*(if D < 0 then - Rk A' col k j k else Rk A' col k j k))= -1*sm k (fun j=>A i j*Rk A' col k j k):=by
            rw [← sm_mul]; exact sm_congr fun j hj=>by rw [if_pos hn2]; grind
          rw [e3,h1]; grind
        · rw [if_neg hn2]
          have e3:sm k (fun j=>A i j*(if D < 0 then - Rk A' col k j k else Rk A' col k j k))=sm k (fun j=>A i j*Rk A' col k j k):=sm_congr fun j hj=>by rw [if_neg hn2]
          rw [e3,h1]
end
end Km
namespace Km
open Sx Go M Vc Lm Dt
theorem prod_lt {M:Int} (hM:M < pw 60) (h0:0≤M):M*M < pw 120:=by
  have h1:M*M≤M*pw 60:=Int.mul_le_mul_of_nonneg_left (by omega) h0
  have h2:M*pw 60 < pw 60*pw 60:=Int.mul_lt_mul_of_pos_right hM (pw_pos 60)
  have h3:pw 120=pw 60*pw 60:=pw_add 60 60
  omega
theorem sum_lt {M:Int} (hM:M < pw 60) (h0:0≤M) {k:Nat} (hk:k≤1000):(k:Int)*(M*M) < pw 121:=by
  have h1:=prod_lt hM h0
  have h2:=Int.mul_nonneg h0 h0
  have h3:(k:Int)*(M*M)≤1000*(M*M):=Int.mul_le_mul_of_nonneg_right (by omega) h2
  have e:pw 121=B*pw 120:=rfl
  have e2:B=4294967296:=rfl
  have:=pw_pos 120
  rw [e,e2]; omega
section
variable {n w:Nat} {A:Mx} {T:List (List Nb)} {M:Int}
end
def sqe (l:List Int) (n:Nat):Mx:=fun i j=>if n*i+j < l.length then l.getD (n*i+j) 0 % 18446744073709551616 % 201 - 100 else 0
theorem sqe_bd (l:List Int) (n i j:Nat):Bd 100 (sqe l n i j):=by
  unfold sqe
  split
  · have h1:=Int.emod_nonneg (l.getD (n*i+j) 0 % 18446744073709551616) (show (201:Int)≠0 by omega)
    have h2:=Int.emod_lt_of_pos (l.getD (n*i+j) 0 % 18446744073709551616) (show (0:Int) < 201 by omega)
    exact ⟨by omega,by omega⟩
  · exact ⟨by omega,by omega⟩
theorem num_ok {v:Int} (h0: -1000000≤v) (h1:v≤1000000):Ret (sparselaw08_num v) (fun r=>Bg v r.1 r.2):=by
  unfold sparselaw08_num
  rw [ret_bind]
  exact (fromR_bg (n:=v) (by omega) (by omega)).mono fun r hr=>⟨_,rfl,hr⟩
def mb (n:Nat):Int:=2*(((4:Nat):Int)*100) ^ (n+2)
theorem mb_ok {n:Nat} (hn:n≤4):mb n < pw 60∧100≤mb n:=by
  have e:(((4:Nat):Int)*100)=400:=by decide
  have h1:=pow_mono (X:=400) (by omega) (show n+2≤6 by omega)
  have h2:=pow_mono (X:=400) (by omega) (show 1≤n+2 by omega)
  have h3:pw 2≤pw 60:=pw_mono (by omega)
  have h4:(2:Int)*400 ^ 6 < pw 2:=by decide
  have h5:(400:Int) ^ 1=400:=by decide
  unfold mb
  rw [e]
  exact ⟨by omega,by omega⟩
theorem sqe_okb {l:List Int} {n w:Nat} {A:Mx} (hn:n≤4) (hA:∀ i j,i < n→j < w→Bd 100 (A i j)):Okb n w A (mb n):=okb_of (K:=4) (M:=100) (by omega) (by omega) hn hA
end Km
namespace Km
open Sx Go M Vc Lm Dt
section
variable {n w:Nat} {A:Mx} {T:List (List Nb)} {M:Int}
theorem rcols_ok (hT:Tg T n w A):sparseref08_Cols T=some (if n=0 then 0 else (w:Int)):=by
  unfold sparseref08_Cols
  by_cases h0:n=0
  · rw [if_pos (by rw [hT.1]; omega),if_pos h0]
  · rw [if_neg (by rw [hT.1]; omega),if_neg h0]
    obtain ⟨l,h1,h2⟩:=hT.at (r:=0) (by omega) (i:=0) rfl
    rw [h1,obs,h2.1]
theorem pr_nn {n:Nat} {f:Nat→Int} (h:∀ i,i < n→0≤f i):0≤pr n f:=by
  induction n with
  | zero=>show (0:Int)≤1; omega
  | succ n ih=>exact Int.mul_nonneg (ih fun i hi=>h i (by omega)) (h n (by omega))
theorem pr_le {n:Nat} {f:Nat→Int} {X:Int} (h:∀ i,i < n→0≤f i∧f i≤X):pr n f≤X ^ n:=by
  induction n with
  | zero=>show (1:Int)≤X ^ 0; rw [Int.pow_zero]; exact Int.le_refl _
  | succ n ih=>
    have h1:=ih fun i hi=>h i (by omega)
    have h2:=h n (by omega)
    have h3:=pr_nn (n:=n) (f:=f) fun i hi=>(h i (by omega)).1
    rw [Int.pow_succ]
    exact Int.mul_le_mul h1 h2.2 h2.1 (Int.le_trans h3 h1)
end
end Km
namespace Km
open Sx Go M Vc Lm Dt
def Rw (K:Nat) (v:Int) (z:Nb):Prop:=LW z.2∧z.2.length≤K∧sv z.1 z.2=v
def Lr (K:Nat) (l:List Nb) (w:Nat) (f:Nat→Int):Prop:=l.length=w∧∀ c,c < w→∃ z,l[c]?=some z∧Rw K (f c) z
def Tr (K:Nat) (T:List (List Nb)) (n w:Nat) (A:Mx):Prop:=T.length=n∧∀ r,r < n→∃ l,T[r]?=some l∧Lr K l w (A r)
theorem Rw.bd {K:Nat} {v:Int} {z:Nb} (h:Rw K v z):Bd (pw K) v:=by
  obtain ⟨h1,h2,h3⟩:=h
  have a1:=lv_nn h1
  have a2:=lv_lt h1
  have a3:=pw_mono h2
  unfold sv at h3
  split at h3
  · exact ⟨by omega,by omega⟩
  · exact ⟨by omega,by omega⟩
theorem Bg.rw {K:Nat} {v:Int} {z:Nb} (h:Bg v z.1 z.2) (hl:z.2.length≤K):Rw K v z:=⟨h.1,hl,h.sv⟩
theorem Lg.lr {K:Nat} {l:List Nb} {w:Nat} {f:Nat→Int} {M:Int} (h:Lg l w f) (hb:∀ j,j < w→Bd M (f j)) (hM:M < pw K):Lr K l w f:=⟨h.1,fun c hc=>by
  obtain ⟨z,h1,h2⟩:=h.2 c hc
  exact ⟨z,h1,h2.rw (h2.lenB (hb c hc) hM)⟩⟩
theorem Tg.tr {K:Nat} {T:List (List Nb)} {n w:Nat} {A:Mx} {M:Int} (h:Tg T n w A) (hb:∀ i j,i < n→j < w→Bd M (A i j)) (hM:M < pw K):Tr K T n w A:=⟨h.1,fun r hr=>by
  obtain ⟨l,h1,h2⟩:=h.2 r hr
  exact ⟨l,h1,h2.lr (fun j hj=>hb r j hr hj) hM⟩⟩
theorem Lr.at {K:Nat} {l:List Nb} {w:Nat} {f:Nat→Int} (h:Lr K l w f) {c:Nat} (hc:c < w) {i:Int} (hi:i=(c:Int)):∃ z,getI l i=some z∧Rw K (f c) z:=by
  obtain ⟨z,h1,h2⟩:=h.2 c hc
  exact ⟨z,at_some h1 hi,h2⟩
theorem Tr.at {K:Nat} {T:List (List Nb)} {n w:Nat} {A:Mx} (h:Tr K T n w A) {r:Nat} (hr:r < n) {i:Int} (hi:i=(r:Int)):∃ l,getI T i=some l∧Lr K l w (A r):=by
  obtain ⟨l,h1,h2⟩:=h.2 r hr
  exact ⟨l,at_some h1 hi,h2⟩
def Sh (T:List (List Nb)) (n w:Nat):Prop:=T.length=n∧∀ r,r < n→∃ l,T[r]?=some l∧l.length=w
theorem Tr.sh {K:Nat} {T:List (List Nb)} {n w:Nat} {A:Mx} (h:Tr K T n w A):Sh T n w:=⟨h.1,fun r hr=>by
  obtain ⟨l,h1,h2⟩:=h.2 r hr
  exact ⟨l,h1,h2.1⟩⟩
theorem Tg.sh {T:List (List Nb)} {n w:Nat} {A:Mx} (h:Tg T n w A):Sh T n w:=⟨h.1,fun r hr=>by
  obtain ⟨l,h1,h2⟩:=h.2 r hr
  exact ⟨l,h1,h2.1⟩⟩
theorem Sh.at {T:List (List Nb)} {n w:Nat} (h:Sh T n w) {r:Nat} (hr:r < n) {i:Int} (hi:i=(r:Int)):∃ l,getI T i=some l∧l.length=w:=by
  obtain ⟨l,h1,h2⟩:=h.2 r hr
  exact ⟨l,at_some h1 hi,h2⟩
section
variable {n w K:Nat} {A:Mx} {T:List (List Nb)}
theorem ycolumns_ok (hT:Sh T n w):exact_columns T=some (if n=0 then 0 else (w:Int)):=by
  unfold exact_columns
  by_cases h0:n=0
  · rw [if_pos (by rw [hT.1]; omega),if_pos h0]
  · rw [if_neg (by rw [hT.1]; omega),if_neg h0]
    obtain ⟨l,h1,h2⟩:=hT.at (r:=0) (by omega) (i:=0) rfl
    rw [h1,obs,h2]
theorem yrcols_ok (hT:Sh T n w):sparseref08_Cols T=some (if n=0 then 0 else (w:Int)):=by
  unfold sparseref08_Cols
  by_cases h0:n=0
  · rw [if_pos (by rw [hT.1]; omega),if_pos h0]
  · rw [if_neg (by rw [hT.1]; omega),if_neg h0]
    obtain ⟨l,h1,h2⟩:=hT.at (r:=0) (by omega) (i:=0) rfl
    rw [h1,obs,h2]
theorem ycheck_ok (hT:Sh T n w) (hn:n≤16) (hw:w≤16):exact_check T=some 0:=by
  have hc:slices_ContainsFunc_apiBig T (if n=0 then 0 else (w:Int))=some false:=by
    refine Ret.eq ?_
    unfold slices_ContainsFunc_apiBig slices_IndexFunc_apiBig
    rw [ret_bind,ret_bind]
    refine (ret_loop (Post:=fun o=>o=.inl ()) n (fun k (i:Int)=>i=(k:Int)) rfl ?_ (by omega)).mono ?_
    · rintro k _ hk rfl
      unfold slices_IndexFunc_apiBig_l1
      rw [hT.1,ret_if]
      refine ⟨fun hlt=>?_,fun _=>⟨_,rfl,rfl⟩⟩
      obtain ⟨l,h1,h2⟩:=hT.at (r:=k) (by omega) (i:=(k:Int)) rfl
      unfold exact_check_1
      rw [h1,obs,obs,h2,if_neg (show ¬ n=0 by omega)]
      simp only [decide_true,Bool.not_true,Bool.false_eq_true,if_false]
      exact ⟨_,rfl,by omega,by show wa .i64 (k:Int) 1=_; rw [wa_i (by omega) (by omega)]; rfl⟩
    · rintro _ rfl
      exact ⟨_,rfl,_,rfl,rfl⟩
  unfold exact_check
  rw [ycolumns_ok hT,obs,hc,obs,if_neg (by simp),hT.1,if_neg]
  simp only [Bool.or_eq_true,decide_eq_true_eq,not_or]
  split<;>omega
theorem ysquare_ok (hT:Sh T n n) (hn:n≤16):exact_square T=some 0:=by
  unfold exact_square
  rw [ycheck_ok hT hn hn,obs,if_pos rfl,ycolumns_ok hT,obs,hT.1]
  have:(!(decide ((n:Int)=if n=0 then 0 else (n:Int))))=false:=by split<;>simp<;>omega
  rw [this,obs,if_neg (by simp)]
theorem normR_ok {v:Int} {z:Nb} (hz:Rw K v z) (hK:K≤400):Ret (integer_Norm z.1 z.2) (fun r=>Bg v r.1 r.2):=(normP_bg (s:=z.1) hz.1 (by have:=hz.2.1; omega)).mono fun r hr=>by rw [hz.2.2] at hr; exact hr
theorem yrowtwin_ok {row:List Nb} {f:Nat→Int} (hrow:Lr K row w f) (hK:K≤400) (hw:w≤1000):Ret (loop (exact_twin_l6 row) ([],0)) (fun o=>Lg o w f):=by
  refine ret_loop (Post:=fun o:List Nb=>Lg o w f) w (fun k (s:List Nb×Int)=>s.2=(k:Int)∧Lg s.1 k f) ⟨rfl,rfl,fun c hc=>absurd hc (by omega)⟩ ?_ (by omega)
  rintro k ⟨o,_⟩ hk ⟨rfl,hI⟩
  simp only at hI
  unfold exact_twin_l6
  simp only
  rw [hrow.1,ret_if]
  refine ⟨fun hlt=>?_,fun hge=>⟨_,rfl,by have e:k=w:=(by omega); subst e; exact hI⟩⟩
  have hkw:k < w:=by omega
  obtain ⟨z,h1,h2⟩:=hrow.at hkw (i:=(k:Int)) rfl
  rw [h1,obs,ret_bind]
  refine (normR_ok h2 hK).mono fun r hr=>?_
  rw [ret_bind,ret_app]
  refine ⟨by rw [hI.1]; simp only [List.length_cons,List.length_nil]; omega,_,rfl,hkw,by show wa .i64 (k:Int) 1=_; rw [wa_i (by omega) (by omega)]; rfl,hI.snoc (z:=(r.1,r.2)) hr⟩
theorem ytwin0_ok (hT:Tr K T n w A) (hK:K≤400) (hn:n≤1000) (hw:w≤1000):Ret (exact_twin T []) (fun o=>Tg o n w A):=by
  unfold exact_twin
  rw [ret_bind]
  refine (ret_loop (Post:=fun o:List (List Nb)=>Tg o n w A) n (fun k (s:List (List Nb)×Int)=>s.2=(k:Int)∧Tg s.1 k w A) ⟨rfl,rfl,fun c hc=>absurd hc (by omega)⟩ ?_ (by omega)).mono fun r hr=>⟨_,rfl,hr⟩
  rintro k ⟨o,_⟩ hk ⟨rfl,hI⟩
  simp only at hI
  unfold exact_twin_l5
  simp only
  rw [hT.1,ret_if]
  refine ⟨fun hlt=>?_,fun hge=>⟨_,rfl,by have e:k=n:=(by omega); subst e; exact hI⟩⟩
  have hkn:k < n:=by omega
  obtain ⟨row,h1,h2⟩:=hT.at hkn (i:=(k:Int)) rfl
  rw [h1,obs,ret_bind]
  refine (yrowtwin_ok h2 hK hw).mono fun r hr=>?_
  rw [if_neg (by simp)]
  unfold exact_twin_j7
  rw [ret_bind,ret_app]
  exact ⟨by rw [hI.1]; simp only [List.length_cons,List.length_nil]; omega,_,rfl,hkn,by show wa .i64 (k:Int) 1=_; rw [wa_i (by omega) (by omega)]; rfl,hI.snoc hr⟩
theorem ytwin1_ok (hT:Tr K T n w A) {b:List Nb} {g:Nat→Int} (hb:Lr K b n g) (hK:K≤400) (hn:n≤1000) (hw:w≤1000):Ret (exact_twin T b) (fun o=>Tg o n (w+1) (aug A w g)):=by
  unfold exact_twin
  rw [ret_bind]
  refine (ret_loop (Post:=fun o:List (List Nb)=>Tg o n (w+1) (aug A w g)) n (fun k (s:List (List Nb)×Int)=>s.2=(k:Int)∧Tg s.1 k (w+1) (aug A w g)) ⟨rfl,rfl,fun c hc=>absurd hc (by omega)⟩ ?_ (by omega)).mono fun r hr=>⟨_,rfl,hr⟩
  rintro k ⟨o,_⟩ hk ⟨rfl,hI⟩
  simp only at hI
  unfold exact_twin_l5
  simp only
  rw [hT.1,ret_if]
  refine ⟨fun hlt=>?_,fun hge=>⟨_,rfl,by have e:k=n:=(by omega); subst e; exact hI⟩⟩
  have hkn:k < n:=by omega
  obtain ⟨row,h1,h2⟩:=hT.at hkn (i:=(k:Int)) rfl
  obtain ⟨z,h3,h4⟩:=hb.at hkn (i:=(k:Int)) rfl
  rw [h1,obs,ret_bind]
  refine (yrowtwin_ok h2 hK hw).mono fun r hr=>?_
  rw [if_pos (by rw [hb.1]; omega),h3,obs,ret_bind]
  refine (normR_ok h4 hK).mono fun y hy=>?_
  rw [ret_bind,ret_app]
  refine ⟨by rw [hr.1]; simp only [List.length_cons,List.length_nil]; omega,?_⟩
  unfold exact_twin_j7
  rw [ret_bind,ret_app]
  have hr':Lg r w (aug A w g k):=hr.congr fun c hc=>by unfold aug; rw [if_neg (by omega)]
  have hrow:Lg (r++[(y.1,y.2)]) (w+1) (aug A w g k):=hr'.snoc (z:=(y.1,y.2)) (hy.cast (by unfold aug; rw [if_pos rfl]))
  exact ⟨by rw [hI.1]; simp only [List.length_cons,List.length_nil]; omega,_,rfl,hkn,by show wa .i64 (k:Int) 1=_; rw [wa_i (by omega) (by omega)]; rfl,hI.snoc hrow⟩
theorem ysolve_ok {M:Int} (hM:M < pw 60) (hT:Tr K T n n A) {b:List Nb} {g:Nat→Int} (hb:Lr K b n g) (hK:K≤400) (hR:Okb n (n+1) (aug A n g) M) (hn:n≤16) (hn0:0 < n):
    Ret (exact_Solve T b) (fun r=>(r.2.2.2=9∧det n A=0∧r.1=[]∧r.2.1=false∧r.2.2.1=[])∨(r.2.2.2=0∧det n A≠0∧∃ x,Lg r.1 n x∧Bg (if det n A < 0 then - det n A else det n A) r.2.1 r.2.2.1∧(∀ i,i < n→Bd M (x i))∧∀ i,i < n→sm n (fun j=>A i j*x j)=(if det n A < 0 then - det n A else det n A)*g i)):=by
  have hda:det n (aug A n g)=det n A:=det_congr fun i j hi hj=>by unfold aug; rw [if_neg (by omega)]
  unfold exact_Solve
  rw [ysquare_ok hT.sh hn,obs,if_pos rfl,hb.1,hT.1,if_pos rfl,ret_bind]
  refine (ytwin1_ok hT hb hK (by omega) (by omega)).mono fun T' hT'=>?_
  rw [ret_bind]
  refine (eliminate_ok (cw:=n) hM hR (by omega) (by omega) (by omega) hT').mono ?_
  rintro ⟨R,pv,zs,zl,sn⟩ ⟨A',col,k,hB,hTR,hpv,hd⟩
  simp only at hB hTR hpv hd ⊢
  have hpl:pv.length=k:=by rw [hpv,List.length_map,List.length_range]
  rw [hpl,ret_if]
  refine ⟨fun hlt=>⟨_,rfl,.inl ⟨rfl,?_,rfl,rfl,rfl⟩⟩,fun hge=>?_⟩
  · rw [← hda]; exact hB.det0 (by omega)
  · have hkn:=hB.kn
    obtain rfl:k=n:=by omega
    have hdet:=hB.det_ok
    rw [hda] at hdet
    have hsol:=hB.solve
    have hdn:=hB.d
    have hcols:∀ s,s < k→col s < k+1:=fun s hs=>by have:=hB.lt s hs; omega
    have bd:=(hR A' col k 0 0 (bar_rows hB) (Nat.le_refl k) hcols hn0 (by omega)).2
    have bX:∀ i,i < k→Bd M (Rk A' col k i k):=fun i hi=>(hR A' col k i k (bar_rows hB) (Nat.le_refl k) hcols hi (by omega)).1
    have ld:=hd.lenB bd hM
    generalize hD:det k (Pm_ A' col)=D at*
    have habs:(if det k A < 0 then - det k A else det k A)=if D < 0 then -D else D:=by
      rcases hB.sg.1 with h | h
      · rw [h,Int.one_mul] at hdet; rw [hdet]
      · rw [h] at hdet
        have:D= - det k A:=by omega
        rw [this]; split<;>split<;>omega
    have hne:det k A≠0:=by
      intro h; rw [h,Int.mul_zero] at hdet; exact hdn hdet
    rw [ret_bind]
    refine (ret_loop (Post:=fun o:List Nb=>Lg o k (fun i=>if D < 0 then - Rk A' col k i k else Rk A' col k i k)) k (fun i (s:List Nb×Int)=>s.2=(i:Int)∧Lg s.1 i (fun i=>if D < 0 then - Rk A' col k i k else Rk A' col k i k)) ⟨rfl,rfl,fun c hc=>absurd hc (by omega)⟩ ?_ (by omega)).mono ?_
    · rintro i ⟨o,_⟩ hi ⟨rfl,hI⟩
      simp only at hI
      unfold exact_Solve_l1
      simp only
      rw [hTR.1,hT.1,ret_if]
      refine ⟨fun hlt=>?_,fun hge2=>⟨_,rfl,by have e:i=k:=(by omega); subst e; exact hI⟩⟩
      have hik:i < k:=by omega
      obtain ⟨row,h1,h2⟩:=hTR.at hik (i:=(i:Int)) rfl
      obtain ⟨z,h3,h4⟩:=h2.at (show k < k+1 by omega) (i:=(k:Int)) rfl
      have lz:=h4.lenB (bX i hik) hM
      rw [h1,obs,h3,obs,ret_bind]
      refine (turned_ok hd h4 (by omega) (by omega)).mono fun r hr=>?_
      rw [ret_bind,ret_app]
      exact ⟨by rw [hI.1]; simp only [List.length_cons,List.length_nil]; omega,_,rfl,hik,by show wa .i64 (i:Int) 1=_; rw [wa_i (by omega) (by omega)]; rfl,hI.snoc (z:=(r.1,r.2)) hr⟩
    · intro xs hxs
      rw [ret_bind]
      refine (absP_bg (s:=zs) hd.1 (by omega)).mono fun r hr=>⟨_,rfl,.inr ⟨rfl,hne,_,hxs,?_,?_,?_⟩⟩
      · rw [hd.abs] at hr
        rw [habs]; exact hr
      · intro i hi
        have:=bX i hi
        split
        · exact this.neg
        · exact this
      · intro i hi
        rw [habs]
        have h1:=hsol i hi
        have e1:sm k (fun j=>aug A k g i j*Rk A' col k j k)=sm k (fun j=>A i j*Rk A' col k j k):=sm_congr fun j hj=>by unfold aug; rw [if_neg (by omega)]
        have e2:aug A k g i k=g i:=by unfold aug; rw [if_pos rfl]
        rw [e1,e2] at h1
        by_cases hn2:D < 0
        · rw [if_pos hn2]
          have e3:sm k (fun j=>A i j*(if D < 0 then - Rk A' col k j k else Rk A' col k j k))= -1*sm k (fun j=>A i j*Rk A' col k j k):=by
            rw [← sm_mul]; exact sm_congr fun j hj=>by rw [if_pos hn2]; grind
          rw [e3,h1]; grind
        · rw [if_neg hn2]
          have e3:sm k (fun j=>A i j*(if D < 0 then - Rk A' col k j k else Rk A' col k j k))=sm k (fun j=>A i j*Rk A' col k j k):=sm_congr fun j hj=>by rw [if_neg hn2]
          rw [e3,h1]
theorem Lg.zeros' (w:Nat):Lg (List.replicate w ((false,[]):Nb)) w (fun _=>0):=⟨List.length_replicate ..,fun c hc=>⟨(false,[]),by rw [List.getElem?_replicate,if_pos hc],bg_zero⟩⟩
theorem solve_nil:exact_Solve [] []=some ([],false,[1],0):=by kernel_rfl
theorem iprod {K:Nat} {v u s:Int} {m:Nat} {y z q:Nb} (hK:K≤60) (hy:Rw K v y) (hz:Rw K u z) (hq:Bg s q.1 q.2) (hs:q.2.length≤500):Ret ((integer_Mul y.1 y.2 z.1 z.2).bind fun r=>integer_Add q.1 q.2 r.1 r.2) (fun r=>Bg (s+v*u) r.1 r.2):=by
  have l1:=hy.2.1
  have l2:=hz.2.1
  rw [ret_bind]
  refine (mul_bg (s:=y.1) (t:=z.1) hy.1 hz.1 (by omega) (by omega)).mono fun r hr=>?_
  rw [hy.2.2,hz.2.2] at hr
  have lr:r.2.length≤2*K+1:=hr.lenB (hy.bd.mul hz.bd) (by
    have h1:pw (K+K)=pw K*pw K:=pw_add K K
    have h2:pw (K+K+1)=B*pw (K+K):=rfl
    have h3:=pw_pos (K+K)
    have e2:B=4294967296:=rfl
    have:2*K+1=K+K+1:=by omega
    rw [this,h2,← h1,e2]; omega)
  refine (add_bg (s:=q.1) (t:=r.1) hq.1 hr.1 (by omega) (by omega)).mono fun t ht=>?_
  rw [hq.sv,hr.sv] at ht
  exact ht
end
end Km
namespace Km
open Sx Go M Vc Lm Dt
abbrev Fb:=Bool×List Int×Bool×List Int
def Bk (K:Nat) (v:Int):Prop:=- pw K < v∧v < pw K
theorem bk_sv {s:Bool} {l:List Int} {K:Nat} (h:LW l) (hl:l.length≤K):Bk K (sv s l):=by
  have a1:=lv_nn h
  have a2:=lv_lt h
  have a3:=pw_mono hl
  unfold sv
  split
  · exact ⟨by omega,by omega⟩
  · exact ⟨by omega,by omega⟩
theorem Bk.len {K:Nat} {v:Int} {s:Bool} {l:List Int} (h:Bk K v) (hb:Bg v s l):l.length≤K:=hb.len h.1 h.2
theorem Bk.mul {K L:Nat} {u v:Int} (h:Bk K u) (h':Bk L v):Bk (K+L) (u*v):=by
  have e:pw (K+L)=pw K*pw L:=pw_add K L
  have p1:=pw_pos K
  have p2:=pw_pos L
  have b:=(show Bd (pw K - 1) u from ⟨by have:=h.1; omega,by have:=h.2; omega⟩).mul (show Bd (pw L - 1) v from ⟨by have:=h'.1; omega,by have:=h'.2; omega⟩)
  have e2:(pw K - 1)*(pw L - 1)=pw K*pw L - pw K - pw L+1:=by grind
  rw [e2] at b
  exact ⟨by have:=b.1; omega,by have:=b.2; omega⟩
theorem Bk.mono {K L:Nat} {v:Int} (h:Bk K v) (hKL:K≤L):Bk L v:=by
  have:=pw_mono hKL
  exact ⟨by have:=h.1; omega,by have:=h.2; omega⟩
theorem Bk.of {K:Nat} {v M:Int} (h:Bd M v) (hM:M < pw K):Bk K v:=⟨by have:=h.1; omega,by have:=h.2; omega⟩
theorem Bk.sub {K:Nat} {u v:Int} (h:Bk K u) (h':Bk K v):Bk (K+1) (u - v):=by
  have e:pw (K+1)=B*pw K:=rfl
  have e2:B=4294967296:=rfl
  have p1:=pw_pos K
  have:=h.1; have:=h.2; have:=h'.1; have:=h'.2
  exact ⟨by rw [e,e2]; omega,by rw [e,e2]; omega⟩
theorem quoR_ok {s t:Bool} {a b:List Int} (ha:LW a) (hb:LW b) (hn:a.length≤800) (hm:b.length≤800) (hne:sv t b≠0) (hd:sv t b ∣ sv s a):Ret (sparseref01_Quo s a t b) (fun r=>Bg (sv s a / sv t b) r.1 r.2.1):=by
  unfold sparseref01_Quo
  rw [ret_bind]
  refine (divmodR_bg (s:=s) (t:=t) ha hb hn hm hne).mono ?_
  rintro ⟨q1,q2,q3,q4⟩ ⟨h1,h2⟩
  simp only at h1 h2 ⊢
  rw [Int.emod_eq_zero_of_dvd hd] at h2
  have l2:=h2.lenB (M:=0) (m:=1) ⟨by omega,by omega⟩ (by decide)
  have hs:=signR_bg h2 (by omega)
  rw [if_neg (by omega),if_neg (by omega)] at hs
  rw [hs,obs,if_pos rfl]
  exact ⟨_,rfl,h1⟩
def Fr (z:Fb) (n d:Int):Prop:=Bg n z.1 z.2.1∧Bg d z.2.2.1 z.2.2.2
theorem frac_ok {s t:Bool} {a b:List Int} {u v:Int} (ha:LW a) (hb:LW b) (hu:sv s a=u) (hv:sv t b=v) (hn:a.length≤400) (hm:b.length≤400) (hne:v≠0) (htb:Bg v t b):Ret (sparseref08_frac s a t b) (fun r=>Fr r (nrm u v).1 (nrm u v).2):=by
  unfold sparseref08_frac
  rw [ret_bind]
  refine (gcdR_ok (s:=s) (t:=t) ha hb hn hm).mono ?_
  rintro ⟨gs,gl⟩ hg
  simp only at hg ⊢
  rw [hu,hv] at hg
  have hgv:(Int.gcd u v:Int) ∣ v:=Int.gcd_dvd_right ..
  have hgu:(Int.gcd u v:Int) ∣ u:=Int.gcd_dvd_left ..
  have hg0:Int.gcd u v≠0:=fun h=>hne (Int.eq_zero_of_gcd_eq_zero_right h)
  have hgle:(Int.gcd u v:Nat)≤v.natAbs:=Nat.le_of_dvd (by omega) (by have:=Int.natAbs_dvd_natAbs.2 hgv; simpa using this)
  have hbv:=bk_sv (s:=t) hb hm
  rw [hv] at hbv
  have hgb:Bk 400 (Int.gcd u v:Int):=⟨by have:=pw_pos 400; omega,by have:=hbv.1; have:=hbv.2; omega⟩
  have lg:=hgb.len hg
  rw [signR_bg htb (by omega),obs]
  have key:∀ (xs:Bool) (xl:List Int) (g:Int),Bg g xs xl→g=sgcd u v→xl.length≤400→Ret (sparseref08_frac_j1 s a t b xs xl) (fun r=>Fr r (nrm u v).1 (nrm u v).2):=by
    rintro xs xl g hx rfl hl
    unfold sparseref08_frac_j1
    have hs0:=sgcd_ne (a:=u) hne
    rw [ret_bind]
    refine (quoR_ok (s:=s) (t:=xs) ha hx.1 (by omega) (by omega) (by rw [hx.sv]; exact hs0) (by rw [hx.sv,hu]; exact sgcd_l u v)).mono fun r hr=>?_
    rw [hx.sv,hu] at hr
    rw [ret_bind]
    refine (quoR_ok (s:=t) (t:=xs) hb hx.1 (by omega) (by omega) (by rw [hx.sv]; exact hs0) (by rw [hx.sv,hv]; exact sgcd_r u v)).mono fun q hq=>?_
    rw [hx.sv,hv] at hq
    exact ⟨_,rfl,hr,hq⟩
  rw [ret_if]
  refine ⟨fun hneg=>?_,fun hpos=>?_⟩
  · have hv0:v < 0:=by revert hneg; split<;>(try split)<;>omega
    rw [ret_bind]
    refine (negR_bg (s:=gs) hg.1 (by omega)).mono fun r hr=>?_
    obtain ⟨hr,hl⟩:=hr
    rw [hg.sv] at hr
    exact key r.1 r.2 _ hr (by unfold sgcd; rw [if_pos hv0]) (by omega)
  · have hv0:¬ v < 0:=fun h=>hpos (by rw [if_pos h]; omega)
    exact key gs gl _ hg (by unfold sgcd; rw [if_neg hv0]) lg
def Fq (z:Fb) (v D:Int):Prop:=∃ n d,Fr z n d∧Lo n d∧Vq n d v D
theorem Fq.cancel {z:Fb} {v D c:Int} (hc:c≠0) (h:Fq z (c*v) (c*D)):Fq z v D:=by
  obtain ⟨n,d,h1,h2,h3⟩:=h
  refine ⟨n,d,h1,h2,?_⟩
  unfold Vq at*
  have:c*(n*D - v*d)=0:=by grind
  rcases Int.mul_eq_zero.1 this with h | h
  · exact absurd h hc
  · omega
theorem Fq.scale {z:Fb} {v D:Int} (c:Int) (h:Fq z v D):Fq z (c*v) (c*D):=by
  obtain ⟨n,d,h1,h2,h3⟩:=h
  refine ⟨n,d,h1,h2,?_⟩
  unfold Vq at*
  have:n*(c*D)=c*(n*D):=by grind
  rw [this,h3]; grind
theorem Fq.zero {z:Fb} {D D':Int} (hD:D≠0) (h:Fq z 0 D):Fq z 0 D':=by
  obtain ⟨n,d,h1,h2,h3⟩:=h
  refine ⟨n,d,h1,h2,?_⟩
  unfold Vq at*
  rw [Int.zero_mul] at h3 ⊢
  rcases Int.mul_eq_zero.1 h3 with h | h
  · rw [h,Int.zero_mul]
  · exact absurd h hD
theorem Fq.num {z:Fb} {v D:Int} (hD:D≠0) (h:Fq z v D):∃ n d,Fr z n d∧Lo n d∧Vq n d v D∧(n=0↔v=0):=by
  obtain ⟨n,d,h1,h2,h3⟩:=h
  refine ⟨n,d,h1,h2,h3,?_,?_⟩
  · rintro rfl
    unfold Vq at h3
    rw [Int.zero_mul] at h3
    rcases Int.mul_eq_zero.1 h3.symm with h | h
    · exact h
    · have:=h2.1; omega
  · rintro rfl
    unfold Vq at h3
    rw [Int.zero_mul] at h3
    rcases Int.mul_eq_zero.1 h3 with h | h
    · exact h
    · exact absurd h hD
theorem Fq.len {z:Fb} {v D:Int} {K:Nat} (hD:D≠0) (hv:Bk K v) (hd:Bk K D) (h:Fq z v D):z.2.1.length≤K∧z.2.2.2.length≤K:=by
  obtain ⟨n,d,h1,h2,h3,h4⟩:=h.num hD
  unfold Vq at h3
  have hdp:=h2.1
  have d1:d ∣ D:=by
    have:d ∣ n*D:=⟨v,by rw [h3,Int.mul_comm]⟩
    exact idvd h2.2 this
  have n1:n ∣ v:=by
    have:n ∣ d*v:=⟨D,by rw [Int.mul_comm d v]; exact h3.symm⟩
    exact idvd (by rw [Int.gcd_comm]; exact h2.2) this
  have d2:d.natAbs≤D.natAbs:=Nat.le_of_dvd (by omega) (Int.natAbs_dvd_natAbs.2 d1)
  have n2:n.natAbs≤v.natAbs:=by
    by_cases h0:v=0
    · rw [h4.2 h0]; omega
    · exact Nat.le_of_dvd (by omega) (Int.natAbs_dvd_natAbs.2 n1)
  have bn:Bk K n:=⟨by have:=hv.1; have:=hv.2; omega,by have:=hv.1; have:=hv.2; omega⟩
  have bd:Bk K d:=⟨by have:=hd.1; have:=hd.2; omega,by have:=hd.1; have:=hd.2; omega⟩
  exact ⟨bn.len h1.1,bd.len h1.2⟩
theorem nrm_le {a b:Int} {K L:Nat} (hb:b≠0) (ha:Bk K a) (hB:Bk L b):Bk K (nrm a b).1∧Bk L (nrm a b).2:=by
  have h0:=sgcd_ne (a:=a) hb
  have key:∀ {x:Int} {K:Nat},sgcd a b ∣ x→Bk K x→Bk K (x / sgcd a b):=by
    rintro x K ⟨y,rfl⟩ hx
    rw [Int.mul_ediv_cancel_left _ h0]
    have h1:y.natAbs≤(sgcd a b*y).natAbs:=by
      rw [Int.natAbs_mul]
      have:1*y.natAbs≤(sgcd a b).natAbs*y.natAbs:=Nat.mul_le_mul_right _ (by omega)
      omega
    exact ⟨by have:=hx.1; have:=hx.2; omega,by have:=hx.1; have:=hx.2; omega⟩
  exact ⟨key (sgcd_l a b) ha,key (sgcd_r a b) hB⟩
theorem fminus_ok {x y z w:Fb} {X Y Z W D:Int} {K L:Nat} (hD:D≠0) (hW:W≠0) (hx:Fq x X D) (hy:Fq y Y D) (hz:Fq z Z D) (hw:Fq w W D) (lx:x.2.1.length≤L∧x.2.2.2.length≤L) (ly:y.2.1.length≤K∧y.2.2.2.length≤K) (lz:z.2.1.length≤K∧z.2.2.2.length≤K) (lw:w.2.1.length≤K∧w.2.2.2.length≤K) (hK:L+3*K≤380):
    Ret (sparseref08_minus x.1 x.2.1 x.2.2.1 x.2.2.2 y.1 y.2.1 y.2.2.1 y.2.2.2 z.1 z.2.1 z.2.2.1 z.2.2.2 w.1 w.2.1 w.2.2.1 w.2.2.2) (fun r=>Fq r (X*W - Y*Z) (D*W)):=by
  obtain ⟨xn,xd,fx,ox,vx⟩:=hx
  obtain ⟨yn,yd,fy,oy,vy⟩:=hy
  obtain ⟨zn,zd,fz,oz,vz⟩:=hz
  obtain ⟨wn,wd,fw,ow,vw⟩:=hw
  obtain ⟨hw0,hV⟩:=Dt.minus_ok hD hW ox oy oz ow vx vy vz vw
  have bxn:=bk_sv (s:=x.1) fx.1.1 lx.1
  have bxd:=bk_sv (s:=x.2.2.1) fx.2.1 lx.2
  have byn:=bk_sv (s:=y.1) fy.1.1 ly.1
  have byd:=bk_sv (s:=y.2.2.1) fy.2.1 ly.2
  have bzn:=bk_sv (s:=z.1) fz.1.1 lz.1
  have bzd:=bk_sv (s:=z.2.2.1) fz.2.1 lz.2
  have bwn:=bk_sv (s:=w.1) fw.1.1 lw.1
  have bwd:=bk_sv (s:=w.2.2.1) fw.2.1 lw.2
  rw [fx.1.sv] at bxn
  rw [fx.2.sv] at bxd
  rw [fy.1.sv] at byn
  rw [fy.2.sv] at byd
  rw [fz.1.sv] at bzn
  rw [fz.2.sv] at bzd
  rw [fw.1.sv] at bwn
  rw [fw.2.sv] at bwd
  have hyd:=oy.1
  have hzd:=oz.1
  have hxd:=ox.1
  have hden:yd*zd*wn≠0:=Int.mul_ne_zero (Int.mul_ne_zero (by omega) (by omega)) hw0
  unfold sparseref08_minus
  rw [ret_bind]
  refine (mulR_bg (s:=y.1) (t:=z.1) fy.1.1 fz.1.1 (by omega) (by omega)).mono fun r1 h1=>?_
  rw [fy.1.sv,fz.1.sv] at h1
  have l1:=(byn.mul bzn).len h1
  rw [ret_bind]
  refine (mulR_bg (s:=r1.1) (t:=w.2.2.1) h1.1 fw.2.1 (by omega) (by omega)).mono fun r2 h2=>?_
  rw [h1.sv,fw.2.sv] at h2
  have b2:=(byn.mul bzn).mul bwd
  have l2:=b2.len h2
  rw [ret_bind]
  refine (mulR_bg (s:=y.2.2.1) (t:=z.2.2.1) fy.2.1 fz.2.1 (by omega) (by omega)).mono fun r3 h3=>?_
  rw [fy.2.sv,fz.2.sv] at h3
  have l3:=(byd.mul bzd).len h3
  rw [ret_bind]
  refine (mulR_bg (s:=r3.1) (t:=w.1) h3.1 fw.1.1 (by omega) (by omega)).mono fun r4 h4=>?_
  rw [h3.sv,fw.1.sv] at h4
  have b4:=(byd.mul bzd).mul bwn
  have l4:=b4.len h4
  rw [ret_bind]
  refine (frac_ok (s:=r2.1) (t:=r4.1) h2.1 h4.1 h2.sv h4.sv (by omega) (by omega) hden h4).mono fun p hp=>?_
  obtain ⟨p1,p2⟩:=nrm_ok (a:=yn*zn*wd) hden
  obtain ⟨bp1,bp2⟩:=nrm_le (a:=yn*zn*wd) hden b2 b4
  generalize nrm (yn*zn*wd) (yd*zd*wn)=P at*
  have lp1:=bp1.len hp.1
  have lp2:=bp2.len hp.2
  have hpd:=p1.1
  have hden2:xd*P.2≠0:=Int.mul_ne_zero (by omega) (by omega)
  rw [ret_bind]
  refine (mulR_bg (s:=x.1) (t:=p.2.2.1) fx.1.1 hp.2.1 (by omega) (by omega)).mono fun r5 h5=>?_
  rw [fx.1.sv,hp.2.sv] at h5
  have b5:=bxn.mul bp2
  have l5:=b5.len h5
  rw [ret_bind]
  refine (mulR_bg (s:=p.1) (t:=x.2.2.1) hp.1.1 fx.2.1 (by omega) (by omega)).mono fun r6 h6=>?_
  rw [hp.1.sv,fx.2.sv] at h6
  have b6:=bp1.mul bxd
  have l6:=b6.len h6
  rw [ret_bind]
  refine (subR_bg (s:=r5.1) (t:=r6.1) h5.1 h6.1 (by omega) (by omega)).mono fun r7 h7=>?_
  rw [h5.sv,h6.sv] at h7
  have b7:=(b5.mono (show L+(K+K+K)≤L+3*K by omega)).sub (b6.mono (show (K+K+K)+L≤L+3*K by omega))
  have l7:=b7.len h7
  rw [ret_bind]
  refine (mulR_bg (s:=x.2.2.1) (t:=p.2.2.1) fx.2.1 hp.2.1 (by omega) (by omega)).mono fun r8 h8=>?_
  rw [fx.2.sv,hp.2.sv] at h8
  have b8:=bxd.mul bp2
  have l8:=b8.len h8
  rw [ret_bind]
  refine (frac_ok (s:=r7.1) (t:=r8.1) h7.1 h8.1 h7.sv h8.sv (by omega) (by omega) hden2 h8).mono fun q hq=>?_
  obtain ⟨q1,q2⟩:=nrm_ok (a:=xn*P.2 - P.1*xd) hden2
  exact ⟨_,rfl,_,_,hq,q1,hV⟩
def Lf (l:List Fb) (w:Nat) (f:Nat→Int) (D:Int):Prop:=l.length=w∧∀ c,c < w→∃ z,l[c]?=some z∧Fq z (f c) D
def Tf (F:List (List Fb)) (n w:Nat) (V:Mx) (D:Nat→Int):Prop:=F.length=n∧∀ r,r < n→∃ l,F[r]?=some l∧Lf l w (V r) (D r)
theorem Lf.at {l:List Fb} {w:Nat} {f:Nat→Int} {D:Int} (h:Lf l w f D) {c:Nat} (hc:c < w) {i:Int} (hi:i=(c:Int)):∃ z,getI l i=some z∧Fq z (f c) D:=by
  obtain ⟨z,h1,h2⟩:=h.2 c hc
  exact ⟨z,at_some h1 hi,h2⟩
theorem Tf.at {F:List (List Fb)} {n w:Nat} {V:Mx} {D:Nat→Int} (h:Tf F n w V D) {r:Nat} (hr:r < n) {i:Int} (hi:i=(r:Int)):∃ l,getI F i=some l∧Lf l w (V r) (D r):=by
  obtain ⟨l,h1,h2⟩:=h.2 r hr
  exact ⟨l,at_some h1 hi,h2⟩
theorem Lf.congr {l:List Fb} {w:Nat} {f g:Nat→Int} {D E:Int} (h:Lf l w f D) (e:∀ c,c < w→f c=g c) (e2:D=E):Lf l w g E:=⟨h.1,fun c hc=>by
  obtain ⟨z,h1,h2⟩:=h.2 c hc
  exact ⟨z,h1,by rw [← e c hc,← e2]; exact h2⟩⟩
theorem Tf.congr {F:List (List Fb)} {n w:Nat} {V V':Mx} {D D':Nat→Int} (h:Tf F n w V D) (e:∀ r c,r < n→c < w→V r c=V' r c) (e2:∀ r,r < n→D r=D' r):Tf F n w V' D':=⟨h.1,fun r hr=>by
  obtain ⟨l,h1,h2⟩:=h.2 r hr
  exact ⟨l,h1,h2.congr (fun c hc=>e r c hr hc) (e2 r hr)⟩⟩
theorem Lf.snoc {l:List Fb} {k:Nat} {f:Nat→Int} {D:Int} (h:Lf l k f D) {z:Fb} (hz:Fq z (f k) D):Lf (l++[z]) (k+1) f D:=by
  refine ⟨by rw [List.length_append,h.1]; rfl,fun c hc=>?_⟩
  by_cases e:c < k
  · obtain ⟨y,h1,h2⟩:=h.2 c e
    exact ⟨y,by rw [List.getElem?_append_left (by rw [h.1]; exact e)]; exact h1,h2⟩
  · obtain rfl:c=k:=by omega
    exact ⟨z,by rw [List.getElem?_append_right (by rw [h.1]; omega),h.1,Nat.sub_self]; rfl,hz⟩
theorem Tf.snoc {F:List (List Fb)} {k w:Nat} {V:Mx} {D:Nat→Int} (h:Tf F k w V D) {l:List Fb} (hl:Lf l w (V k) (D k)):Tf (F++[l]) (k+1) w V D:=by
  refine ⟨by rw [List.length_append,h.1]; rfl,fun c hc=>?_⟩
  by_cases e:c < k
  · obtain ⟨y,h1,h2⟩:=h.2 c e
    exact ⟨y,by rw [List.getElem?_append_left (by rw [h.1]; exact e)]; exact h1,h2⟩
  · obtain rfl:c=k:=by omega
    exact ⟨l,by rw [List.getElem?_append_right (by rw [h.1]; omega),h.1,Nat.sub_self]; rfl,hl⟩
theorem lo_one (v:Int):Lo v 1:=⟨by omega,by rw [Int.gcd_one]⟩
theorem fracs_ok {K n w:Nat} {A:Mx} {T:List (List Nb)} (hT:Tr K T n w A) (hK:K≤400) (hn:n≤1000) (hw:w≤1000):Ret (sparseref08_fracs T) (fun F=>Tf F n w A (fun _=>1)):=by
  unfold sparseref08_fracs
  rw [ret_bind]
  refine (ret_loop (Post:=fun F:List (List Fb)=>Tf F n w A (fun _=>1)) n (fun r (s:List (List Fb)×Int)=>s.2=(r:Int)∧Tf s.1 r w A (fun _=>1)) ⟨rfl,rfl,fun c hc=>absurd hc (by omega)⟩ ?_ (by omega)).mono fun r hr=>⟨_,rfl,hr⟩
  rintro r ⟨F,_⟩ hr ⟨rfl,hI⟩
  simp only at hI
  unfold sparseref08_fracs_l3
  simp only
  rw [hT.1,ret_if]
  refine ⟨fun hlt=>?_,fun hge=>⟨_,rfl,by have e:r=n:=(by omega); subst e; exact hI⟩⟩
  have hrn:r < n:=by omega
  obtain ⟨row,h1,h2⟩:=hT.at hrn (i:=(r:Int)) rfl
  rw [ret_bind]
  refine (ret_loop (Post:=fun l:List Fb=>Lf l w (A r) 1) w (fun c (s:List Fb×Int)=>s.2=(c:Int)∧Lf s.1 c (A r) 1) ⟨rfl,rfl,fun c hc=>absurd hc (by omega)⟩ ?_ (by omega)).mono fun l hl=>?_
  · rintro c ⟨l,_⟩ hc ⟨rfl,hJ⟩
    simp only at hJ
    unfold sparseref08_fracs_l4
    simp only
    rw [h1,obs,h2.1,ret_if]
    refine ⟨fun hlt2=>?_,fun hge=>⟨_,rfl,by have e:c=w:=(by omega); subst e; exact hJ⟩⟩
    have hcw:c < w:=by omega
    obtain ⟨z,h3,h4⟩:=h2.at hcw (i:=(c:Int)) rfl
    rw [obs,h3,obs,ret_bind]
    refine (normR_bg (s:=z.1) h4.1 (by have:=h4.2.1; omega)).mono fun y hy=>?_
    obtain ⟨hy,_⟩:=hy
    rw [h4.2.2] at hy
    rw [ret_bind]
    refine (fromR_bg (n:=1) (by omega) (by omega)).mono fun one hone=>?_
    rw [ret_bind,ret_app]
    exact ⟨by rw [hJ.1]; simp only [List.length_cons,List.length_nil]; omega,_,rfl,hcw,by show wa .i64 (c:Int) 1=_; rw [wa_i (by omega) (by omega)]; rfl,hJ.snoc (z:=(y.1,y.2,one.1,one.2)) ⟨A r c,1,⟨hy,hone⟩,lo_one _,by unfold Vq; rfl⟩⟩
  · rw [ret_bind,ret_app]
    exact ⟨by rw [hI.1]; simp only [List.length_cons,List.length_nil]; omega,_,rfl,hrn,by show wa .i64 (r:Int) 1=_; rw [wa_i (by omega) (by omega)]; rfl,hI.snoc hl⟩
end Km
namespace Km
open Sx Go M Vc Lm Dt
theorem getI_at {α:Type} {l:List α} {k:Nat} (h:k < l.length):getI l (k:Int)=some l[k]:=at_some (List.getElem?_eq_getElem h) rfl
theorem mL {n:Nat} (h:n≤maxLen):n < 9223372036854775808:=by
  have e:maxLen=9223372036854775807:=by decide
  omega
theorem all_loop {α:Type} {l:List α} {step:Int→Option (Int⊕(Unit⊕Unit))} {p:α→Bool} (hl:l.length < 9223372036854775808) (h1:∀ k (hk:k < l.length),step (k:Int)=some (if p l[k]=true then .inl (wa .i64 (k:Int) 1) else .inr (.inr ()))) (h2:step (l.length:Int)=some (.inr (.inl ()))):loop step 0=some (if l.all p=true then .inl () else .inr ()):=by
  refine Ret.eq ?_
  refine ret_loop (Post:=fun o:Unit⊕Unit=>o=if l.all p=true then .inl () else .inr ()) l.length (fun k (i:Int)=>i=(k:Int)∧k≤l.length∧∀ j (hj:j < l.length),j < k→p l[j]=true) ⟨rfl,by omega,fun j _ h=>by omega⟩ ?_ hl
  rintro k _ hk ⟨rfl,hkl,hI⟩
  by_cases hlt:k < l.length
  · rw [h1 k hlt]
    by_cases hp:p l[k]=true
    · rw [if_pos hp]
      refine ⟨_,rfl,hlt,by rw [wa_i (by omega) (by omega)]; rfl,by omega,fun j hj hjk=>?_⟩
      by_cases e:j=k
      · subst e; exact hp
      · exact hI j hj (by omega)
    · rw [if_neg hp]
      refine ⟨_,rfl,?_⟩
      have:¬ l.all p=true:=fun h=>hp (List.all_eq_true.1 h _ (List.getElem_mem hlt))
      show (Sum.inr ():Unit⊕Unit)=_
      rw [if_neg this]
  · have e:k=l.length:=by omega
    subst e
    rw [h2]
    refine ⟨_,rfl,?_⟩
    have:l.all p=true:=List.all_eq_true.2 fun x hx=>by
      obtain ⟨j,hj,rfl⟩:=List.getElem_of_mem hx
      exact hI j hj hj
    show (Sum.inl ():Unit⊕Unit)=_
    rw [if_pos this]
theorem copy_loop {α β:Type} {l:List α} {f:α→β} {step:List β×Int→Option ((List β×Int)⊕List β)} (hl:l.length≤1000000) (h1:∀ k (hk:k < l.length),step (l.take k |>.map f,(k:Int))=some (.inl ((l.take (k+1)).map f,wa .i64 (k:Int) 1))) (h2:step (l.map f,(l.length:Int))=some (.inr (l.map f))):loop step ([],0)=some (l.map f):=by
  refine Ret.eq ?_
  refine ret_loop (Post:=fun o:List β=>o=l.map f) l.length (fun k (s:List β×Int)=>s=((l.take k).map f,(k:Int))∧k≤l.length) ⟨rfl,by omega⟩ ?_ (by omega)
  rintro k _ hk ⟨rfl,hkl⟩
  by_cases hlt:k < l.length
  · rw [h1 k hlt]
    exact ⟨_,rfl,hlt,by rw [wa_i (by omega) (by omega)]; rfl,by omega⟩
  · have e:k=l.length:=by omega
    subst e
    rw [List.take_length,h2]
    exact ⟨_,rfl,rfl⟩
theorem take_map {α β:Type} {l:List α} {f:α→β} {k:Nat} (h:k < l.length):(l.take k).map f++[f l[k]]=(l.take (k+1)).map f:=by
  rw [tks (List.getElem?_eq_getElem h),List.map_append]; rfl
theorem slim_eq {l:List Nb} (hl:l.length < 9223372036854775808):sparselaw08_slim l=some (l.all (fun z=>decide (z.2.length≤4)) && decide (l.length≤32)):=by
  unfold sparselaw08_slim
  have h:=all_loop (l:=l) (step:=sparselaw08_slim_l1 l) (p:=fun z=>decide (z.2.length≤4)) hl (fun k hk=>by
    unfold sparselaw08_slim_l1 sparsekit_Slim
    rw [if_pos (by omega),getI_at hk,obs,obs]
    by_cases h4:l[k].2.length≤4
    · rw [if_pos (by simp; omega),if_pos (by simp; omega)]
    · rw [if_neg (by simp; omega),if_neg (by simp; omega)]) (by
    unfold sparselaw08_slim_l1
    rw [if_neg (by omega)])
  rw [h,obs]
  by_cases ha:l.all (fun z=>decide (z.2.length≤4))=true
  · rw [if_pos ha,ha]
    show some (decide ((l.length:Int)≤32))=_
    rw [Bool.true_and]
    congr 1
    exact decide_eq_decide.2 (by omega)
  · rw [if_neg ha]
    simp only [Bool.not_eq_true] at ha
    rw [ha]; rfl
def rowP (l:List Nb):Bool:=(decide (l.length≤4) || decide (16 < l.length)) && decide (l.length≤32) && l.all (fun z=>decide (z.2.length≤4))
theorem small_eq {T:List (List Nb)} (hT:T.length≤maxLen) (hr:∀ l,l∈T→l.length≤maxLen):sparselaw08_small T=some ((decide (T.length≤4) || decide (16 < T.length)) && decide (T.length≤32) && T.all rowP):=by
  unfold sparselaw08_small
  by_cases hbad:(((decide ((4:Int) < (T.length:Int))) && (decide ((T.length:Int)≤16))) || (decide ((32:Int) < (T.length:Int))))=true
  · rw [if_pos hbad]
    have:((decide (T.length≤4) || decide (16 < T.length)) && decide (T.length≤32))=false:=by
      simp only [Bool.or_eq_true,Bool.and_eq_true,decide_eq_true_eq] at hbad
      rw [Bool.and_eq_false_iff,Bool.or_eq_false_iff,decide_eq_false_iff_not,decide_eq_false_iff_not,decide_eq_false_iff_not]
      omega
    rw [this]; rfl
  · rw [if_neg hbad]
    have:((decide (T.length≤4) || decide (16 < T.length)) && decide (T.length≤32))=true:=by
      simp only [Bool.or_eq_true,Bool.and_eq_true,decide_eq_true_eq] at hbad ⊢
      omega
    rw [this,Bool.true_and]
    have h:=all_loop (l:=T) (step:=sparselaw08_small_l9 T) (p:=rowP) (mL hT) (fun k hk=>by
      have hlk:=hr _ (List.getElem_mem hk)
      have hmx:=mL hlk
      unfold sparselaw08_small_l9
      rw [if_pos (by omega),getI_at hk,obs]
      generalize T[k]=l at*
      have e1:(if (4:Int) < (l.length:Int) then (some l).bind (fun x72=>some (decide ((x72.length:Int)≤16))) else some false)=some (!(decide (l.length≤4) || decide (16 < l.length))):=by
        by_cases h4:l.length≤4
        · rw [if_neg (by omega)]; simp [h4]
        · rw [if_pos (by omega),obs]
          congr 1
          have:decide (l.length≤4)=false:=by simp; omega
          rw [this,Bool.false_or,← decide_not]
          exact decide_eq_decide.2 (by omega)
      rw [e1,obs]
      unfold rowP
      by_cases hA:(decide (l.length≤4) || decide (16 < l.length))=true
      · rw [hA,if_neg (by simp),obs,obs]
        by_cases hB:l.length≤32
        · rw [if_neg (by simp; omega),obs,slim_eq hmx,obs,obs]
          by_cases hC:l.all (fun z=>decide (z.2.length≤4))=true
          · rw [hC,if_neg (by simp; omega),if_pos (by simp; omega)]
          · simp only [Bool.not_eq_true] at hC
            rw [hC,if_pos (by simp),if_neg (by simp)]
        · rw [if_pos (by simp; omega),obs,if_pos rfl,if_neg (by simp; omega)]
      · simp only [Bool.not_eq_true] at hA
        rw [hA,if_pos (by simp),obs,if_pos rfl,obs,if_pos rfl,if_neg (by simp)]) (by
      unfold sparselaw08_small_l9
      rw [if_neg (by omega)])
    rw [h,obs]
    by_cases ha:T.all rowP=true
    · rw [if_pos ha,ha]
    · rw [if_neg ha]
      simp only [Bool.not_eq_true] at ha
      rw [ha]
theorem twinBig_eq {s:Bool} {l:List Int} (hl:l.length≤1000000):sparsekit_TwinBig s l=some (s,l):=by
  unfold sparsekit_TwinBig
  have h:=copy_loop (l:=l) (f:=fun x=>x) (step:=sparsekit_TwinBig_l1 l) hl (fun k hk=>by
    unfold sparsekit_TwinBig_l1
    simp only
    rw [if_pos (by omega),getI_at hk,obs]
    have:=take_map (f:=fun x:Int=>x) hk
    have ha:app (List.map (fun x=>x) (l.take k)) [l[k]]=some ((l.take (k+1)).map fun x=>x):=Ret.eq (by rw [ret_app]; exact ⟨by simp; omega,this⟩)
    rw [ha,obs]) (by
    unfold sparsekit_TwinBig_l1
    simp only
    rw [if_neg (by omega)])
  rw [h,obs,List.map_id']
theorem twinBigs_eq {l:List Nb} (hl:l.length≤1000) (hz:∀ z,z∈l→z.2.length≤1000):sparsekit_TwinBigs l=some l:=by
  unfold sparsekit_TwinBigs
  have h:=copy_loop (l:=l) (f:=fun x=>x) (step:=sparsekit_TwinBigs_l1 l) (by omega) (fun k hk=>by
    have hzk:=hz _ (List.getElem_mem hk)
    unfold sparsekit_TwinBigs_l1
    simp only
    rw [if_pos (by omega),getI_at hk,obs,twinBig_eq (by omega),obs]
    have:=take_map (f:=fun x:Nb=>x) hk
    have ha:app (List.map (fun x=>x) (l.take k)) [l[k]]=some ((l.take (k+1)).map fun x=>x):=Ret.eq (by rw [ret_app]; exact ⟨by simp; omega,this⟩)
    show (app (List.map (fun x=>x) (l.take k)) [(l[k].1,l[k].2)]).bind _=_
    rw [show (l[k].1,l[k].2)=l[k] from rfl,ha,obs]) (by
    unfold sparsekit_TwinBigs_l1
    simp only
    rw [if_neg (by omega)])
  rw [h,obs,List.map_id']
theorem twinRows_eq {T:List (List Nb)} (hT:T.length≤1000) (hr:∀ l,l∈T→l.length≤1000∧∀ z,z∈l→z.2.length≤1000):sparsekit_TwinRows T=some T:=by
  unfold sparsekit_TwinRows
  have h:=copy_loop (l:=T) (f:=fun x=>x) (step:=sparsekit_TwinRows_l1 T) (by omega) (fun k hk=>by
    have hrk:=hr _ (List.getElem_mem hk)
    unfold sparsekit_TwinRows_l1
    simp only
    rw [if_pos (by omega),getI_at hk,obs,twinBigs_eq hrk.1 hrk.2,obs]
    have:=take_map (f:=fun x:List Nb=>x) hk
    have ha:app (List.map (fun x=>x) (T.take k)) [T[k]]=some ((T.take (k+1)).map fun x=>x):=Ret.eq (by rw [ret_app]; exact ⟨by simp; omega,this⟩)
    rw [ha,obs]) (by
    unfold sparsekit_TwinRows_l1
    simp only
    rw [if_neg (by omega)])
  rw [h,obs,List.map_id']
def cw (T:List (List Nb)):Nat:=match T with | []=>0 | l::_=>l.length
theorem xcols_eq (T:List (List Nb)):exact_columns T=some (cw T:Int):=by
  unfold exact_columns
  cases T with
  | nil=>rfl
  | cons l T=>rw [if_neg (by simp; omega)]; rfl
theorem rcols_eq (T:List (List Nb)):sparseref08_Cols T=some (cw T:Int):=by
  unfold sparseref08_Cols
  cases T with
  | nil=>rfl
  | cons l T=>rw [if_neg (by simp; omega)]; rfl
def errT (T:List (List Nb)):Int:=if T.all (fun l=>decide (l.length=cw T))=true then if 16 < T.length∨16 < cw T then 6 else 0 else 5
theorem xcontains_eq {T:List (List Nb)} (hT:T.length≤1000000):slices_ContainsFunc_apiBig T (cw T:Int)=some (!(T.all (fun l=>decide (l.length=cw T)))):=by
  refine Ret.eq ?_
  unfold slices_ContainsFunc_apiBig slices_IndexFunc_apiBig
  rw [ret_bind,ret_bind]
  refine (ret_loop (Post:=fun o:Unit⊕Int=>(T.all (fun l=>decide (l.length=cw T))=true∧o=.inl ())∨(T.all (fun l=>decide (l.length=cw T))=false∧∃ k:Nat,o=.inr (k:Int))) T.length (fun k (i:Int)=>i=(k:Int)∧k≤T.length∧∀ j (hj:j < T.length),j < k→T[j].length=cw T) ⟨rfl,by omega,fun j _ h=>by omega⟩ ?_ (by omega)).mono ?_
  · rintro k _ hk ⟨rfl,hkl,hI⟩
    unfold slices_IndexFunc_apiBig_l1
    rw [ret_if]
    refine ⟨fun hlt=>?_,fun hge=>⟨_,rfl,.inl ⟨List.all_eq_true.2 fun x hx=>?_,rfl⟩⟩⟩
    · have hk':k < T.length:=by omega
      rw [getI_at hk',obs]
      unfold exact_check_1
      rw [obs,ret_if]
      refine ⟨fun hne=>⟨_,rfl,.inr ⟨?_,k,rfl⟩⟩,fun he=>⟨_,rfl,hk',by show wa .i64 (k:Int) 1=_; rw [wa_i (by omega) (by omega)]; rfl,by omega,fun j hj hjk=>?_⟩⟩
      · rw [Bool.eq_false_iff]
        intro h
        have:=List.all_eq_true.1 h _ (List.getElem_mem hk')
        simp only [decide_eq_true_eq] at this
        rw [this] at hne
        simp at hne
      · by_cases e:j=k
        · subst e
          simp only [Bool.not_eq_true',decide_eq_false_iff_not,Classical.not_not] at he
          omega
        · exact hI j hj (by omega)
    · obtain ⟨j,hj,rfl⟩:=List.getElem_of_mem hx
      exact decide_eq_true (hI j hj (by omega))
  · rintro _ (⟨h,rfl⟩ | ⟨h,k,rfl⟩)
    · exact ⟨_,rfl,_,rfl,by rw [h]; rfl⟩
    · refine ⟨_,rfl,_,rfl,?_⟩
      rw [h]
      show decide ((0:Int)≤(k:Int))=true
      exact decide_eq_true (by omega)
theorem xcheck_eq {T:List (List Nb)} (hT:T.length≤1000000):exact_check T=some (errT T):=by
  unfold exact_check
  rw [xcols_eq,obs,xcontains_eq hT,obs]
  unfold errT
  by_cases h:T.all (fun l=>decide (l.length=cw T))=true
  · rw [h,if_neg (by simp),if_pos rfl]
    by_cases h2:16 < T.length∨16 < cw T
    · rw [if_pos (by simp only [Bool.or_eq_true,decide_eq_true_eq]; omega),if_pos h2]
    · rw [if_neg (by simp only [Bool.or_eq_true,decide_eq_true_eq]; omega),if_neg h2]
  · simp only [Bool.not_eq_true] at h
    rw [h,if_pos (by simp),if_neg (by simp)]
theorem rcheck_eq {T:List (List Nb)} (hT:T.length≤150) (hr:∀ l,l∈T→l.length≤1000000):sparseref08_Check T=some (errT T):=by
  unfold sparseref08_Check
  have h:=copy_loop (l:=T) (f:=fun l=>(l.length:Int)) (step:=sparseref08_Check_l1 T) (by omega) (fun k hk=>by
    unfold sparseref08_Check_l1
    simp only
    rw [if_pos (by omega),getI_at hk,obs]
    have:=take_map (f:=fun l:List Nb=>(l.length:Int)) hk
    have ha:app (List.map (fun l:List Nb=>(l.length:Int)) (T.take k)) [(T[k].length:Int)]=some ((T.take (k+1)).map fun l=>(l.length:Int)):=Ret.eq (by rw [ret_app]; exact ⟨by simp; omega,this⟩)
    rw [ha,obs]) (by
    unfold sparseref08_Check_l1
    simp only
    rw [if_neg (by omega)])
  rw [h,obs]
  generalize hL:T.map (fun l:List Nb=>(l.length:Int))=L
  have hLl:L.length=T.length:=by rw [← hL,List.length_map]
  have hL0:0 < T.length→getI L 0=some (cw T:Int):=fun h0=>by
    rw [← hL]
    cases T with
    | nil=>simp at h0
    | cons l T=>rfl
  have hs:=all_loop (l:=L) (step:=sparseref07_Shape_l1 L) (p:=fun x=>decide (x=(cw T:Int))) (by omega) (fun k hk=>by
    unfold sparseref07_Shape_l1
    rw [if_pos (by omega),getI_at hk,obs,hL0 (by omega),obs]
    by_cases e:L[k]=(cw T:Int)
    · rw [if_pos e,if_pos (decide_eq_true e)]
    · rw [if_neg e,if_neg (by simpa using e)]) (by
    unfold sparseref07_Shape_l1
    rw [if_neg (by omega)])
  have hall:L.all (fun x=>decide (x=(cw T:Int)))=T.all (fun l=>decide (l.length=cw T)):=by
    rw [← hL,List.all_map]
    congr 1
    funext l
    show decide ((l.length:Int)=(cw T:Int))=decide (l.length=cw T)
    exact decide_eq_decide.2 (by omega)
  rw [hall] at hs
  unfold errT
  by_cases ha:T.all (fun l=>decide (l.length=cw T))=true
  · have hsh:∃ e,sparseref07_Shape L=some e∧e≠5:=by
      unfold sparseref07_Shape
      rw [hs,obs,if_pos ha]
      simp only
      rw [if_neg (by omega)]
      by_cases h0:(0:Int) < (L.length:Int)
      · rw [if_pos h0,hL0 (by omega),obs,obs,obs]
        split
        · exact ⟨6,rfl,by omega⟩
        · exact ⟨0,rfl,by omega⟩
      · rw [if_neg h0,obs,obs]
        exact ⟨0,rfl,by omega⟩
    obtain ⟨e,he,hne⟩:=hsh
    rw [he,obs,if_neg hne,if_pos ha,rcols_eq]
    by_cases hn:16 < T.length
    · rw [if_pos (by omega),obs,if_pos rfl,if_pos (.inl hn)]
    · rw [if_neg (by omega),obs,obs]
      by_cases hw:16 < cw T
      · rw [if_pos (by simp; omega),if_pos (.inr hw)]
      · rw [if_neg (by simp; omega),if_neg (by omega)]
  · have hsh:sparseref07_Shape L=some 5:=by
      unfold sparseref07_Shape
      rw [hs,obs,if_neg ha]
    rw [hsh,obs,if_pos rfl,if_neg ha]
def vT (T:List (List Nb)):Mx:=fun r c=>match T[r]? with | some l=>(match l[c]? with | some z=>sv z.1 z.2 | none=>0) | none=>0
theorem tr_of {T:List (List Nb)} {K:Nat} (ha:T.all (fun l=>decide (l.length=cw T))=true) (hz:∀ l,l∈T→∀ z,z∈l→LW z.2∧z.2.length≤K):Tr K T T.length (cw T) (vT T):=by
  refine ⟨rfl,fun r hr=>⟨T[r],List.getElem?_eq_getElem hr,?_,fun c hc=>?_⟩⟩
  · have:=List.all_eq_true.1 ha _ (List.getElem_mem hr)
    simpa using this
  · have hl:T[r].length=cw T:=by
      have:=List.all_eq_true.1 ha _ (List.getElem_mem hr)
      simpa using this
    have hc':c < T[r].length:=by omega
    refine ⟨T[r][c],List.getElem?_eq_getElem hc',(hz _ (List.getElem_mem hr) _ (List.getElem_mem hc')).1,(hz _ (List.getElem_mem hr) _ (List.getElem_mem hc')).2,?_⟩
    unfold vT
    rw [List.getElem?_eq_getElem hr]
    simp only
    rw [List.getElem?_eq_getElem hc']
def vL (l:List Nb):Nat→Int:=fun c=>match l[c]? with | some z=>sv z.1 z.2 | none=>0
theorem lr_of {l:List Nb} {K:Nat} (hz:∀ z,z∈l→LW z.2∧z.2.length≤K):Lr K l l.length (vL l):=by
  refine ⟨rfl,fun c hc=>⟨l[c],List.getElem?_eq_getElem hc,(hz _ (List.getElem_mem hc)).1,(hz _ (List.getElem_mem hc)).2,?_⟩⟩
  unfold vL
  rw [List.getElem?_eq_getElem hc]
theorem Tr.bd {K n w:Nat} {T:List (List Nb)} {A:Mx} (h:Tr K T n w A):∀ i j,i < n→j < w→Bd (pw K) (A i j):=fun i j hi hj=>by
  obtain ⟨l,h1,h2⟩:=h.2 i hi
  obtain ⟨z,h3,h4⟩:=h2.2 j hj
  exact h4.bd
theorem Lr.bd {K w:Nat} {l:List Nb} {f:Nat→Int} (h:Lr K l w f):∀ j,j < w→Bd (pw K) (f j):=fun j hj=>by
  obtain ⟨z,h3,h4⟩:=h.2 j hj
  exact h4.bd
theorem xsquare_eq {T:List (List Nb)} (hT:T.length≤1000000):exact_square T=some (if errT T=0 then (if T.length=cw T then 0 else 5) else errT T):=by
  unfold exact_square
  rw [xcheck_eq hT,obs]
  by_cases h:errT T=0
  · rw [if_pos h,if_pos h,xcols_eq,obs,obs]
    by_cases e:T.length=cw T
    · rw [if_neg (by simp; omega),if_pos e,h]
    · rw [if_pos (by simp; omega),if_neg e]
  · rw [if_neg h,if_neg h,obs,if_neg (by simp)]
end Km
namespace Km
open Sx Go M Vc Lm Dt
theorem if_ck {p q:Prop} [Decidable p] [Decidable q] {x y:Int} (h:p↔q):(if p then x else y)=if q then x else y:=by
  by_cases hp:p
  · rw [if_pos hp,if_pos (h.1 hp)]
  · rw [if_neg hp,if_neg (fun e=>hp (h.2 e))]
def addI (A:Mx) (c:Int):Mx:=fun i j=>A i j+if i=j then c else 0
def FL (n:Nat) (A:Mx) (c:Nat→Int):Nat→Mx
  | 0=>fun _ _=>0
  | k+1=>mul n A (addI (FL n A c k) (c k))
section
variable {n:Nat} {A B:Mx} {M:Int}
theorem pinner_ok {row:List Nb} {f:Nat→Int} {U:List (List Nb)} {w v j:Nat} (hM:M < pw 60) (hr:Lg row w f) (hU:Tg U w v B) (bf:∀ k,k < w→Bd M (f k)) (bB:∀ k,k < w→Bd M (B k j)) (hj:j < v) (hw:w≤900):Ret (loop (exact_product_v2_l13 row U (j:Int)) (false,[],0)) (fun r:Bool×List Int=>Bg (sm w fun k=>f k*B k j) r.1 r.2):=by
  refine ret_loop (Post:=fun r:Bool×List Int=>Bg (sm w fun k=>f k*B k j) r.1 r.2) w (fun k (s:Bool×List Int×Int)=>s.2.2=(k:Int)∧Bg (sm k fun k=>f k*B k j) s.1 s.2.1) ⟨rfl,bg_zero.cast (show (0:Int)=sm 0 (fun k=>f k*B k j) from rfl)⟩ ?_ (by omega)
  rintro k ⟨ys,yl,_⟩ hk ⟨rfl,hJ⟩
  simp only at hJ
  unfold exact_product_v2_l13
  simp only
  rw [hr.1,ret_if]
  refine ⟨fun hlt2=>?_,fun hge=>⟨_,rfl,by have e:k=w:=(by omega); subst e; exact hJ⟩⟩
  have hkw:k < w:=by omega
  have hM0:=(bf k hkw).nn
  obtain ⟨x,h3,h4⟩:=hr.at hkw (i:=(k:Int)) rfl
  obtain ⟨l,h5,h6⟩:=hU.at hkw (i:=(k:Int)) rfl
  obtain ⟨y,h7,h8⟩:=h6.at hj (i:=(j:Int)) rfl
  have lx:=h4.lenB (bf k hkw) hM
  have ly:=h8.lenB (bB k hkw) hM
  rw [h3,obs,h5,obs,h7,obs,ret_bind]
  refine (mul_bg (s:=x.1) (t:=y.1) h4.1 h8.1 (by omega) (by omega)).mono fun u hu=>?_
  rw [h4.sv,h8.sv] at hu
  have lu:=hu.lenB ((bf k hkw).mul (bB k hkw)) (prod_lt hM hM0)
  have ls:=hJ.lenB (sm_bd (Int.mul_nonneg hM0 hM0) fun q hq=>(bf q (by omega)).mul (bB q (by omega))) (sum_lt hM hM0 (by omega))
  rw [ret_bind]
  refine (add_bg (s:=ys) (t:=u.1) hJ.1 hu.1 (by omega) (by omega)).mono fun v hv=>?_
  rw [hJ.sv,hu.sv] at hv
  exact ⟨_,rfl,hkw,by show wa .i64 (k:Int) 1=_; rw [wa_i (by omega) (by omega)]; rfl,hv⟩
theorem yproduct2_ok (hM:M < pw 60) {T U:List (List Nb)} (hT:Tg T n n A) (hU:Tg U n n B) (bA:∀ i j,i < n→j < n→Bd M (A i j)) (bB:∀ i j,i < n→j < n→Bd M (B i j)) (hn:n≤900):Ret (exact_product_v2 T U) (fun r=>Tg r n n (mul n A B)):=by
  unfold exact_product_v2
  rw [ret_bind]
  refine (ret_loop (Post:=fun r:List (List Nb)=>Tg r n n (mul n A B)) n (fun j (s:List (List Nb)×Int)=>s.2=(j:Int)∧Tg s.1 j n (mul n A B)) ⟨rfl,rfl,fun c hc=>absurd hc (by omega)⟩ ?_ (by omega)).mono fun r hr=>⟨_,rfl,hr⟩
  rintro j ⟨o,_⟩ hj ⟨rfl,hI⟩
  simp only at hI
  unfold exact_product_v2_l9
  simp only
  rw [hT.1,ret_if]
  refine ⟨fun hlt=>?_,fun hge=>⟨_,rfl,by have e:j=n:=(by omega); subst e; exact hI⟩⟩
  have hjn:j < n:=by omega
  obtain ⟨row,h1,h2⟩:=hT.at hjn (i:=(j:Int)) rfl
  rw [h1,obs,ret_bind]
  have key:Ret (loop (exact_product_v2_l12 row U) ([],0)) (fun r:List Nb=>Lg r n (mul n A B j)):=by
    refine ret_loop (Post:=fun r:List Nb=>Lg r n (mul n A B j)) n (fun i (s:List Nb×Int)=>s.2=(i:Int)∧Lg s.1 i (mul n A B j)) ⟨rfl,rfl,fun c hc=>absurd hc (by omega)⟩ ?_ (by omega)
    rintro i ⟨r,_⟩ hi ⟨rfl,hJ⟩
    simp only at hJ
    unfold exact_product_v2_l12
    simp only
    rw [h2.1,ret_if]
    refine ⟨fun hlt2=>?_,fun hge=>⟨_,rfl,by have e:i=n:=(by omega); subst e; exact hJ⟩⟩
    have hin:i < n:=by omega
    rw [ret_bind]
    refine (pinner_ok hM h2 hU (fun k hk=>bA j k hjn hk) (fun k hk=>bB k i hk hin) hin hn).mono fun z hz=>?_
    rw [ret_bind,ret_app]
    exact ⟨by rw [hJ.1]; simp only [List.length_cons,List.length_nil]; omega,_,rfl,hin,by show wa .i64 (i:Int) 1=_; rw [wa_i (by omega) (by omega)]; rfl,hJ.snoc (z:=(z.1,z.2)) hz⟩
  refine key.mono fun r hr=>?_
  rw [ret_bind,ret_app]
  exact ⟨by rw [hI.1]; simp only [List.length_cons,List.length_nil]; omega,_,rfl,hjn,by show wa .i64 (j:Int) 1=_; rw [wa_i (by omega) (by omega)]; rfl,hI.snoc hr⟩
theorem cdiag_ok {k:Nat} {X:Mx} {c:Int} (hM:M < pw 60) {T D P:List (List Nb)} {p:List Nb} (hk1:1≤k) (hk:k≤n) (hn:n≤900) (hD:D.length=n) (hT:Tg T n n X) (hP:T.length=n) (bX:∀ i j,i < n→j < n→Bd M (X i j)) (bc:Bd M c) {w:Nat} (hpl:w=n) {q:Nb} (hq:getI p (wa .i64 (ws .i64 (w:Int) (k:Int)) 1)=some q) (hqc:Bg c q.1 q.2) {S:List (List Nb)} (hS:S.length=w):
    Ret (loop (exact_characteristic_l9 D p S (k:Int)) (T,0)) (fun r=>Tg r n n (addI X c)):=by
  subst hpl
  refine ret_loop (Post:=fun r:List (List Nb)=>Tg r w w (addI X c)) w (fun i (s:List (List Nb)×Int)=>s.2=(i:Int)∧Tg s.1 w w (fun r j=>X r j+if r=j∧r < i then c else 0)) ⟨rfl,hT.congr fun r j _ _=>by rw [if_neg (by omega),Int.add_zero]⟩ ?_ (by omega)
  rintro i ⟨t,_⟩ hi ⟨rfl,hI⟩
  simp only at hI
  unfold exact_characteristic_l9
  simp only
  rw [hD,ret_if]
  refine ⟨fun hlt=>?_,fun hge=>⟨_,rfl,hI.congr fun r j hr _=>by unfold addI; exact congrArg _ (if_ck ⟨fun h=>h.1,fun h=>⟨h,by omega⟩⟩)⟩⟩
  have hin:i < w:=by omega
  obtain ⟨row,h1,h2⟩:=hI.at hin (i:=(i:Int)) rfl
  obtain ⟨z,h3,h4⟩:=h2.at hin (i:=(i:Int)) rfl
  rw [if_neg (by omega),Int.add_zero] at h4
  have lz:=h4.lenB (bX i i hin hin) hM
  have lq:=hqc.lenB bc hM
  rw [h1,obs,obs,h3,obs,hS,hq,obs,ret_bind]
  refine (add_bg (s:=z.1) (t:=q.1) h4.1 hqc.1 (by omega) (by omega)).mono fun v hv=>?_
  rw [h4.sv,hqc.sv] at hv
  rw [set_some (by rw [h2.1]; exact hin) rfl,obs,set_some (by rw [hI.1]; exact hin) rfl,obs]
  refine ⟨_,rfl,hin,by show wa .i64 (i:Int) 1=_; rw [wa_i (by omega) (by omega)]; rfl,(hI.set hin (h2.set hin hv)).congr fun r j hr hj=>?_⟩
  by_cases e:r=i
  · subst e
    rw [up_in]
    by_cases e2:j=r
    · subst e2; rw [if_pos rfl,if_pos ⟨rfl,by omega⟩]
    · rw [if_neg e2,if_neg (by omega),if_neg (by omega)]
  · rw [up_out e]
    exact congrArg _ (if_ck ⟨fun h=>⟨h.1,by omega⟩,fun h=>⟨h.1,by omega⟩⟩)
theorem ctrace_ok {X:Mx} (hM:M < pw 60) {T:List (List Nb)} (hT:Tg T n n X) (bX:∀ i j,i < n→j < n→Bd M (X i j)) (hn:n≤900):Ret (loop (exact_characteristic_l10 T) (false,[],0)) (fun r:Bool×List Int=>Bg (sm n fun i=>X i i) r.1 r.2):=by
  refine ret_loop (Post:=fun r:Bool×List Int=>Bg (sm n fun i=>X i i) r.1 r.2) n (fun k (s:Bool×List Int×Int)=>s.2.2=(k:Int)∧Bg (sm k fun i=>X i i) s.1 s.2.1) ⟨rfl,bg_zero.cast (show (0:Int)=sm 0 (fun i=>X i i) from rfl)⟩ ?_ (by omega)
  rintro k ⟨ys,yl,_⟩ hk ⟨rfl,hJ⟩
  simp only at hJ
  unfold exact_characteristic_l10
  simp only
  rw [hT.1,ret_if]
  refine ⟨fun hlt2=>?_,fun hge=>⟨_,rfl,by have e:k=n:=(by omega); subst e; exact hJ⟩⟩
  have hkw:k < n:=by omega
  have hM0:=(bX k k hkw hkw).nn
  obtain ⟨l,h5,h6⟩:=hT.at hkw (i:=(k:Int)) rfl
  obtain ⟨y,h7,h8⟩:=h6.at hkw (i:=(k:Int)) rfl
  have ly:=h8.lenB (bX k k hkw hkw) hM
  have ls:=hJ.lenB (sm_bd hM0 fun q hq=>bX q q (by omega) (by omega)) (show (k:Int)*M < pw 61 by
    have h1:(k:Int)*M≤((1000:Nat):Int)*M:=nat_le_mul (by omega) hM0
    have h2:pw 61=B*pw 60:=rfl
    have h3:B=4294967296:=rfl
    rw [h3] at h2
    omega)
  rw [h5,obs,h7,obs,ret_bind]
  refine (add_bg (s:=ys) (t:=y.1) hJ.1 h8.1 (by omega) (by omega)).mono fun v hv=>?_
  rw [hJ.sv,h8.sv] at hv
  exact ⟨_,rfl,hkw,by show wa .i64 (k:Int) 1=_; rw [wa_i (by omega) (by omega)]; rfl,hv⟩
theorem char_ok {c:Nat→Int} (hM:M < pw 60) {T:List (List Nb)} (hT:Tg T n n A) (hn:n≤16) (bA:∀ i j,i < n→j < n→Bd M (A i j)) (bF:∀ k,k≤n→∀ i j,i < n→j < n→Bd M (FL n A c k i j)∧Bd M (addI (FL n A c k) (c k) i j)) (bc:∀ k,k≤n→Bd M (c k)) (h0:c 0=1) (hc:∀ k,1≤k→k≤n→sm n (fun i=>FL n A c k i i)=(k:Int)* - c k):
    Ret (exact_characteristic T) (fun P=>Lg P (n+1) (fun i=>c (n - i))):=by
  unfold exact_characteristic
  rw [hT.1,wa_i (by omega) (by omega),ret_bind,ret_mkL]
  refine ⟨by omega,by omega,?_⟩
  rw [show ((n:Int)+1).toNat=n+1 by omega,ret_bind]
  refine (from_bg (n:=1) (by omega) (by omega)).mono fun one hone=>?_
  rw [set_some (k:=n) (by rw [List.length_replicate]; omega) rfl,obs,ret_bind,ret_mkL]
  refine ⟨by omega,by omega,?_⟩
  rw [show ((n:Int)).toNat=n by omega,ret_bind]
  have hz:Ret (loop (exact_characteristic_l1 (List.replicate n ([]:List Nb)) T) (List.replicate n [],0)) (fun r=>Tg r n n (fun _ _=>0)):=by
    refine ret_loop (Post:=fun r:List (List Nb)=>Tg r n n (fun _ _=>0)) n (fun i (s:List (List Nb)×Int)=>s.2=(i:Int)∧s.1.length=n∧∀ r,r < i→r < n→∃ l,s.1[r]?=some l∧Lg l n (fun _=>0)) ⟨rfl,List.length_replicate ..,fun r hr=>absurd hr (by omega)⟩ ?_ (by omega)
    rintro i ⟨t,_⟩ hi ⟨rfl,hl,hI⟩
    simp only at hl hI
    unfold exact_characteristic_l1
    simp only
    rw [List.length_replicate,ret_if]
    refine ⟨fun hlt=>?_,fun hge=>⟨_,rfl,hl,fun r hr=>hI r (by omega) hr⟩⟩
    have hin:i < n:=by omega
    rw [hT.1,ret_bind,ret_mkL]
    refine ⟨by omega,by omega,?_⟩
    rw [show ((n:Int)).toNat=n by omega,set_some (by rw [hl]; exact hin) rfl,obs]
    refine ⟨_,rfl,hin,by show wa .i64 (i:Int) 1=_; rw [wa_i (by omega) (by omega)]; rfl,by rw [List.length_set]; exact hl,fun r hr hrn=>?_⟩
    by_cases e:r=i
    · subst e; exact ⟨_,by rw [List.getElem?_set_self]; rw [hl]; exact hin,Lg.zeros' n⟩
    · obtain ⟨l,g1,g2⟩:=hI r (by omega) hrn
      exact ⟨l,by rw [List.getElem?_set_ne (fun h=>e h.symm)]; exact g1,g2⟩
  refine hz.mono fun z hz=>?_
  rw [ret_bind]
  have hM0:0≤M:=(bc 0 (by omega)).nn
  refine (ret_loop (Post:=fun P:List Nb=>Lg P (n+1) (fun i=>c (n - i))) n (fun t (s:List Nb×List (List Nb)×Int)=>s.2.2=((t+1:Nat):Int)∧t≤n∧Lg s.1 (n+1) (fun i=>if n - i < t+1 then c (n - i) else 0)∧Tg s.2.1 n n (FL n A c t)) ⟨rfl,by omega,?_,hz⟩ ?_ (by omega)).mono fun r hr=>⟨_,rfl,hr⟩
  · refine ((Lg.zeros' (n+1)).set (c:=n) (by omega) (hone.cast h0.symm)).congr fun i hi=>?_
    by_cases e:i=n
    · subst e; rw [if_pos rfl,if_pos (by omega),Nat.sub_self]
    · rw [if_neg e,if_neg (by omega)]
  · rintro t ⟨P,F,_⟩ ht ⟨rfl,htn,hP,hF⟩
    simp only at hP hF
    unfold exact_characteristic_l8
    simp only
    rw [hT.1,ret_if]
    refine ⟨fun hle=>?_,fun hge=>⟨_,rfl,hP.congr fun i hi=>by rw [if_pos (by omega)]⟩⟩
    have htn1:t+1≤n:=by omega
    obtain ⟨q,q1,q2⟩:=hP.at (c:=n - t) (by omega) (i:=wa .i64 (ws .i64 (n:Int) ((t+1:Nat):Int)) 1) (by rw [ws_i (by omega) (by omega),wa_i (by omega) (by omega)]; omega)
    rw [if_pos (by omega),show n - (n - t)=t by omega] at q2
    rw [ret_bind]
    refine (cdiag_ok (k:=t+1) (X:=FL n A c t) (c:=c t) (D:=F) (P:=F) (S:=T) (w:=n) hM (by omega) htn1 (by omega) hF.1 hF hF.1 (fun i j hi hj=>(bF t htn i j hi hj).1) (bc t htn) rfl q1 q2 hT.1).mono fun G hG=>?_
    rw [ret_bind]
    refine (yproduct2_ok hM hT hG bA (fun i j hi hj=>(bF t htn i j hi hj).2) (by omega)).mono fun H hH=>?_
    have hH:Tg H n n (FL n A c (t+1)):=hH
    rw [ret_bind]
    refine (ctrace_ok hM hH (fun i j hi hj=>(bF (t+1) htn1 i j hi hj).1) (by omega)).mono fun tr htr=>?_
    rw [hc (t+1) (by omega) htn1] at htr
    rw [ret_bind]
    refine (from_bg (n:=((t+1:Nat):Int)) (by omega) (by omega)).mono fun kk hkk=>?_
    have bt:Bd (((t+1:Nat):Int)*M) (((t+1:Nat):Int)* - c (t+1)):=Bd.mul ⟨by omega,by omega⟩ (bc (t+1) htn1).neg
    have lt:tr.2.length≤61:=htr.lenB bt (by
      have h1:((t+1:Nat):Int)*M≤((1000:Nat):Int)*M:=nat_le_mul (by omega) hM0
      have h2:pw 61=B*pw 60:=rfl
      have h3:B=4294967296:=rfl
      rw [h3] at h2
      omega)
    have lk:kk.2.length≤1:=hkk.len (by rw [show pw 1=4294967296 from rfl]; omega) (by rw [show pw 1=4294967296 from rfl]; omega)
    rw [ret_bind]
    refine (quoP_bg (s:=tr.1) (t:=kk.1) htr.1 hkk.1 (by omega) (by omega) (by rw [hkk.sv]; omega) (h:=- c (t+1)) (by rw [htr.sv,hkk.sv])).mono fun qq hqq=>?_
    have lqq:=hqq.1.lenB (bc (t+1) htn1).neg hM
    rw [ret_bind]
    refine (negP_bg (s:=qq.1) hqq.1.1 (by omega)).mono fun ng hng=>?_
    rw [hqq.1.sv,Int.neg_neg] at hng
    rw [ws_i (by omega) (by omega),set_some (k:=n - (t+1)) (by rw [hP.1]; omega) (by omega),obs]
    refine ⟨_,rfl,by omega,by show wa .i64 ((t+1:Nat):Int) 1=_; rw [wa_i (by omega) (by omega)]; rfl,htn1,(hP.set (by omega) (hng.cast (show c (t+1)=c (n - (n - (t+1))) by rw [show n - (n - (t+1))=t+1 by omega]))).congr fun i hi=>?_,hH⟩
    by_cases e:i=n - (t+1)
    · subst e; rw [if_pos rfl,if_pos (by omega)]
    · rw [if_neg e]; exact if_ck ⟨fun h=>by omega,fun h=>by omega⟩
end
end Km
namespace Km
open Sx Go M Vc Lm Dt
def Pd (n:Nat) (A:Mx):Prop:=∀ i j,n≤i∨n≤j→A i j=0
def pad (n:Nat) (A:Mx):Mx:=fun i j=>if i < n∧j < n then A i j else 0
theorem pad_pd (n:Nat) (A:Mx):Pd n (pad n A):=fun i j h=>if_neg (by omega)
theorem pad_in {n:Nat} {A:Mx} {i j:Nat} (hi:i < n) (hj:j < n):pad n A i j=A i j:=if_pos ⟨hi,hj⟩
theorem sm_pad {n m:Nat} (h:n≤m) {f:Nat→Int} (hf:∀ i,n≤i→f i=0):sm m f=sm n f:=by
  induction m with
  | zero =>
    have:n=0:=by omega
    subst this; rfl
  | succ m ih=>
    by_cases e:n=m+1
    · subst e; rfl
    · have h1:=ih (by omega)
      show sm m f+f m=_
      rw [h1,hf m (by omega),Int.add_zero]
theorem pt_pad {n:Nat} (hn:n≤4) {A:Mx} (hA:Pd n A):∀ k i j,pt 4 A k i j=pt n A k i j
  | 0=>fun i j=>rfl
  | k+1=>fun i j=>by
    show sm 4 (fun l=>A i l*pt 4 A k l j)=sm n fun l=>A i l*pt n A k l j
    rw [sm_pad hn fun l hl=>by rw [hA i l (Or.inr hl),Int.zero_mul]]
    exact sm_congr fun l _=>by rw [pt_pad hn hA k]
theorem pt_zero {n:Nat} {A:Mx} (hA:Pd n A):∀ k i j,n≤i→pt n A k i j=0
  | 0=>fun i j h=>hA i j (Or.inl h)
  | k+1=>fun i j h=>sm_zero fun l _=>by rw [hA i l (Or.inl h),Int.zero_mul]
theorem pw4_pad {n:Nat} (hn:n≤4) {A:Mx} (hA:Pd n A) (k:Nat):pw4 A k=sm n fun i=>pt n A k i i:=by
  show sm 4 (fun i=>pt 4 A k i i)=_
  have:sm 4 (fun i=>pt 4 A k i i)=sm 4 (fun i=>pt n A k i i):=sm_congr fun i _=>pt_pad hn hA k i i
  rw [this]
  exact sm_pad hn fun i hi=>pt_zero hA k i i hi
theorem FL_eq {n:Nat} {A:Mx} {c:Nat→Int}:∀ k i j,i < n→j < n→FL n A c (k+1) i j=sm (k+1) fun m=>c m*pt n A (k - m) i j:=by
  have st:∀ k i j,j < n→FL n A c (k+1) i j=sm n (fun l=>A i l*FL n A c k l j)+c k*A i j:=fun k i j hj=>by
    show sm n (fun l=>A i l*(FL n A c k l j+if l=j then c k else 0))=_
    have:sm n (fun l=>A i l*(FL n A c k l j+if l=j then c k else 0))=sm n (fun l=>A i l*FL n A c k l j+if l=j then A i l*c k else 0):=sm_congr fun l _=>by
      split
      · grind
      · rw [Int.add_zero,Int.add_zero]
    rw [this,sm_add,sm_one (f:=fun l=>A i l*c k) hj,Int.mul_comm (c k)]
  intro k
  induction k with
  | zero=>
    intro i j hi hj
    rw [st 0 i j hj]
    have:sm n (fun l=>A i l*FL n A c 0 l j)=0:=sm_zero fun l _=>Int.mul_zero _
    rw [this]
    show 0+c 0*A i j=0+c 0*A i j
    rfl
  | succ k ih=>
    intro i j hi hj
    rw [st (k+1) i j hj]
    have e1:sm n (fun l=>A i l*FL n A c (k+1) l j)=sm n fun l=>sm (k+1) fun m=>c m*(A i l*pt n A (k - m) l j):=sm_congr fun l hl=>by
      rw [ih l j hl hj,← sm_mul]
      exact sm_congr fun m _=>by grind
    rw [e1,sm_swap]
    have e2:sm (k+1) (fun m=>sm n fun l=>c m*(A i l*pt n A (k - m) l j))=sm (k+1) fun m=>c m*pt n A (k+1 - m) i j:=sm_congr fun m hm=>by
      rw [sm_mul,show k+1 - m=(k - m)+1 by omega]; rfl
    rw [e2]
    show _=sm (k+1) (fun m=>c m*pt n A (k+1 - m) i j)+c (k+1)*pt n A (k+1 - (k+1)) i j
    rw [Nat.sub_self]; rfl
theorem FL_tr {n:Nat} (hn:n≤4) {A:Mx} (hA:Pd n A) {c:Nat→Int} (k:Nat):sm n (fun i=>FL n A c (k+1) i i)=sm (k+1) fun m=>c m*pw4 A (k - m):=by
  have e:sm n (fun i=>FL n A c (k+1) i i)=sm n fun i=>sm (k+1) fun m=>c m*pt n A (k - m) i i:=sm_congr fun i hi=>FL_eq k i i hi hi
  rw [e,sm_swap]
  exact sm_congr fun m _=>by rw [sm_mul,pw4_pad hn hA]
def cf (e1 e2 e3 e4:Int):Nat→Int
  | 0=>1
  | 1=>-e1
  | 2=>e2
  | 3=>-e3
  | 4=>e4
  | _=>0
theorem cf_newton {n:Nat} (hn:n≤4) {A:Mx} (hA:Pd n A) {e1 e2 e3 e4:Int} (h:Es A e1 e2 e3 e4):∀ k,1≤k→k≤4→sm n (fun i=>FL n A (cf e1 e2 e3 e4) k i i)=(k:Int)* - cf e1 e2 e3 e4 k:=by
  intro k h1 h4
  obtain ⟨a1,a2,a3,a4⟩:=h
  have e:=fun k=>FL_tr hn hA (c:=cf e1 e2 e3 e4) k
  match k,h1,h4 with
  | 1,_,_=>
    rw [e 0]
    show 0+1*pw4 A 0=((1:Nat):Int)* - -e1
    omega
  | 2,_,_=>
    rw [e 1]
    show 0+1*pw4 A 1+ -e1*pw4 A 0=((2:Nat):Int)* -e2
    rw [Int.neg_mul]; omega
  | 3,_,_=>
    rw [e 2]
    show 0+1*pw4 A 2+ -e1*pw4 A 1+e2*pw4 A 0=((3:Nat):Int)* - -e3
    rw [Int.neg_mul]; omega
  | 4,_,_=>
    rw [e 3]
    show 0+1*pw4 A 3+ -e1*pw4 A 2+e2*pw4 A 1+ -e3*pw4 A 0=((4:Nat):Int)* -e4
    rw [Int.neg_mul,Int.neg_mul]; omega
theorem FL_bd {n:Nat} (hn:n≤4) {A:Mx} {c:Nat→Int} {X:Int} (hX:1≤X) (bA:∀ i j,i < n→j < n→Bd X (A i j)) (h0:c 0=1) (hc:∀ k,1≤k→k≤n→sm n (fun i=>FL n A c k i i)=(k:Int)* - c k):∀ k,k≤n→(∀ i j,i < n→j < n→Bd ((20*X) ^ k) (FL n A c k i j))∧Bd (4*(20*X) ^ k) (c k):=by
  intro k
  induction k with
  | zero=>
    intro _
    exact ⟨fun i j _ _=>⟨by rw [Int.pow_zero]; show -1≤(0:Int); omega,by rw [Int.pow_zero]; show (0:Int)≤1; omega⟩,by rw [h0,Int.pow_zero]; exact ⟨by omega,by omega⟩⟩
  | succ k ih=>
    intro hk
    obtain ⟨i1,i2⟩:=ih (by omega)
    have hY:0≤(20*X) ^ k:=pow_nn (by omega) k
    have step:∀ i j,i < n→j < n→Bd ((20*X) ^ (k+1)) (FL n A c (k+1) i j):=fun i j hi hj=>by
      have hb:∀ l,l < n→Bd (X*(5*(20*X) ^ k)) (A i l*addI (FL n A c k) (c k) l j):=fun l hl=>(bA i l hi hl).mul (by
        have h1:=(i1 l j hl hj).add i2
        unfold addI
        split
        · exact h1.mono (by omega)
        · rw [Int.add_zero]; exact (i1 l j hl hj).mono (by omega))
      have h2:0≤X*(5*(20*X) ^ k):=Int.mul_nonneg (by omega) (by omega)
      have h3:=sm_bd h2 hb
      have h4:(n:Int)*(X*(5*(20*X) ^ k))≤((4:Nat):Int)*(X*(5*(20*X) ^ k)):=nat_le_mul hn h2
      have h5:((4:Nat):Int)*(X*(5*(20*X) ^ k))=(20*X) ^ (k+1):=by rw [Int.pow_succ]; grind
      rw [h5] at h4
      exact h3.mono h4
    refine ⟨step,?_⟩
    have h1:=sm_bd (pow_nn (show 0≤20*X by omega) (k+1)) fun i (hi:i < n)=>step i i hi hi
    rw [hc (k+1) (by omega) hk] at h1
    have h2:(n:Int)*(20*X) ^ (k+1)≤((4:Nat):Int)*(20*X) ^ (k+1):=nat_le_mul hn (pow_nn (by omega) _)
    have h3:=h1.mono h2
    generalize (20*X) ^ (k+1)=Z at*
    generalize c (k+1)=v at*
    have hk1:(1:Int)≤((k+1:Nat):Int):=by omega
    generalize ((k+1:Nat):Int)=q at*
    obtain ⟨g1,g2⟩:=h3
    rcases Int.le_total 0 v with hv | hv
    · have:v≤q*v:=by have:=Int.mul_le_mul_of_nonneg_right hk1 hv; omega
      rw [Int.mul_neg] at g1 g2
      exact ⟨by omega,by omega⟩
    · have: -v≤q* -v:=by have:=Int.mul_le_mul_of_nonneg_right hk1 (show 0≤ -v by omega); omega
      exact ⟨by omega,by omega⟩
theorem char4_ok {n:Nat} (hn:n≤4) {A:Mx} (hA:Pd n A) {T:List (List Nb)} (hT:Tg T n n A) (bA:∀ i j,i < n→j < n→Bd (pw 4) (A i j)) {e1 e2 e3 e4:Int} (h:Es A e1 e2 e3 e4):Ret (exact_characteristic T) (fun P=>Lg P (n+1) (fun i=>cf e1 e2 e3 e4 (n - i))∧∀ i,i < n+1→Bd (pw 59) (cf e1 e2 e3 e4 (n - i))):=by
  have hN:=cf_newton hn hA h
  have hX:(1:Int)≤pw 4:=by have:=pw_pos 4; omega
  have hb:=FL_bd hn hX bA (c:=cf e1 e2 e3 e4) rfl fun k h1 h2=>hN k h1 (by omega)
  have hm:∀ k,k≤4→(20*pw 4) ^ k≤(20*pw 4) ^ 4:=fun k hk=>pow_mono (by omega) hk
  have hM:5*(20*pw 4) ^ 4≤pw 59:=by
    have h1:5*(20*pw 4) ^ 4 < pw 20:=by decide
    have h2:pw 20≤pw 59:=pw_mono (by omega)
    omega
  have hM2:pw 59 < pw 60:=by
    have h2:pw 60=B*pw 59:=rfl
    have h3:B=4294967296:=rfl
    have:=pw_pos 59
    rw [h3] at h2
    omega
  have hX4:pw 4≤pw 59:=pw_mono (by omega)
  have hY:0≤(20*pw 4) ^ 4:=pow_nn (by omega) 4
  have bc:∀ k,k≤n→Bd (pw 59) (cf e1 e2 e3 e4 k):=fun k hk=>(hb k hk).2.mono (by have:=hm k (by omega); omega)
  exact (char_ok hM2 hT (by omega) (fun i j hi hj=>(bA i j hi hj).mono hX4) (fun k hk i j hi hj=>by
    have h1:=(hb k hk).1 i j hi hj
    have h2:=(hb k hk).2
    have h3:=hm k (by omega)
    refine ⟨h1.mono (by omega),?_⟩
    unfold addI
    split
    · exact (h1.add h2).mono (by omega)
    · rw [Int.add_zero]; exact h1.mono (by omega)) bc rfl fun k h1 h2=>hN k h1 (by omega)).mono fun P hP=>⟨hP,fun i hi=>bc _ (by omega)⟩
end Km
namespace Km
open Sx Go M Vc Lm Dt
def Inr (n:Nat) (A:Mx) (neg zer pos:Nat):Prop:=neg+zer+pos=n∧∃ L d m,Rep A L d m∧pos=cnt d 1∧zer+4=n+cnt d 0
theorem rep_same {A L L':Mx} {d d':Nat→Int} {m m':Int} (hA:∀ i j,i < 4→j < 4→A i j=A j i) (h:Rep A L d m) (h':Rep A L' d' m'):cnt d 1=cnt d' 1∧cnt d 0=cnt d' 0:=by
  have hE:=sym_Es hA
  have h1:=h.main hE
  have h2:=h'.main hE
  exact ⟨h1.1.symm.trans h2.1,h1.2.symm.trans h2.2⟩
theorem Inr.uniq {n:Nat} {A:Mx} {a b c a' b' c':Nat} (hA:∀ i j,i < 4→j < 4→A i j=A j i) (h:Inr n A a b c) (h':Inr n A a' b' c'):a=a'∧b=b'∧c=c':=by
  obtain ⟨h1,L,d,m,h2,h3,h4⟩:=h
  obtain ⟨g1,L',d',m',g2,g3,g4⟩:=h'
  obtain ⟨e1,e2⟩:=rep_same hA h2 g2
  omega
theorem lead_t {e1 e2 e3 e4:Int} {t:Nat} (ht:t≤4) (h1:∀ k,t < k→k≤4→cf e1 e2 e3 e4 k=0) (h2:1≤t→cf e1 e2 e3 e4 t≠0):lead (sgz e1) (sgz e2) (sgz e3) (sgz e4)=4 - t:=by
  have z:∀ {x:Int},x=0→sgz x=0:=fun h=>sgz_zero.2 h
  have nz:∀ {x:Int},x≠0→¬ sgz x=0:=fun h e=>h (sgz_zero.1 e)
  unfold lead
  match t,ht with
  | 0,_=>
    have a1: -e1=0:=h1 1 (by omega) (by omega)
    have a2:e2=0:=h1 2 (by omega) (by omega)
    have a3: -e3=0:=h1 3 (by omega) (by omega)
    have a4:e4=0:=h1 4 (by omega) (by omega)
    rw [if_pos (z a4),if_pos (z (by omega)),if_pos (z a2),if_pos (z (by omega))]
  | 1,_=>
    have a1: -e1≠0:=h2 (by omega)
    have a2:e2=0:=h1 2 (by omega) (by omega)
    have a3: -e3=0:=h1 3 (by omega) (by omega)
    have a4:e4=0:=h1 4 (by omega) (by omega)
    rw [if_pos (z a4),if_pos (z (by omega)),if_pos (z a2),if_neg (nz (by omega))]
  | 2,_=>
    have a2:e2≠0:=h2 (by omega)
    have a3: -e3=0:=h1 3 (by omega) (by omega)
    have a4:e4=0:=h1 4 (by omega) (by omega)
    rw [if_pos (z a4),if_pos (z (by omega)),if_neg (nz a2)]
  | 3,_=>
    have a3: -e3≠0:=h2 (by omega)
    have a4:e4=0:=h1 4 (by omega) (by omega)
    rw [if_pos (z a4),if_neg (nz (by omega))]
  | 4,_=>
    have a4:e4≠0:=h2 (by omega)
    rw [if_neg (nz a4)]
theorem vch_eq {e1 e2 e3 e4:Int} {n:Nat} (hn:n≤4) (hz:∀ k,n < k→k≤4→cf e1 e2 e3 e4 k=0):vch ((List.range (n+1)).map fun i=>sgz (cf e1 e2 e3 e4 (n - i)))=vch [sgz e4,- sgz e3,sgz e2,- sgz e1,1]:=by
  have s1:sgz 1=1:=by decide
  have s0:sgz 0=0:=by decide
  have v0:∀ l,List.foldl vst (0,0) (0::l)=List.foldl vst (0,0) l:=fun l=>rfl
  have v1:∀ l,List.foldl vst (0,0) (-0::l)=List.foldl vst (0,0) l:=fun l=>rfl
  match n,hn with
  | 0,_=>
    have a1: -e1=0:=hz 1 (by omega) (by omega)
    have a2:e2=0:=hz 2 (by omega) (by omega)
    have a3: -e3=0:=hz 3 (by omega) (by omega)
    have a4:e4=0:=hz 4 (by omega) (by omega)
    show vch [sgz 1]=_
    rw [show e1=0 by omega,a2,show e3=0 by omega,a4,s0,s1]
    unfold vch
    rw [v0,v1,v0,v1]
  | 1,_=>
    have a2:e2=0:=hz 2 (by omega) (by omega)
    have a3: -e3=0:=hz 3 (by omega) (by omega)
    have a4:e4=0:=hz 4 (by omega) (by omega)
    show vch [sgz (-e1),sgz 1]=_
    rw [a2,show e3=0 by omega,a4,s0,s1,sgz_minus]
    unfold vch
    rw [v0,v1,v0]
  | 2,_=>
    have a3: -e3=0:=hz 3 (by omega) (by omega)
    have a4:e4=0:=hz 4 (by omega) (by omega)
    show vch [sgz e2,sgz (-e1),sgz 1]=_
    rw [show e3=0 by omega,a4,s0,s1,sgz_minus]
    unfold vch
    rw [v0,v1]
  | 3,_=>
    have a4:e4=0:=hz 4 (by omega) (by omega)
    show vch [sgz (-e3),sgz e2,sgz (-e1),sgz 1]=_
    rw [a4,s0,s1,sgz_minus,sgz_minus]
    unfold vch
    rw [v0]
  | 4,_=>
    show vch [sgz e4,sgz (-e3),sgz e2,sgz (-e1),sgz 1]=_
    rw [s1,sgz_minus,sgz_minus]
theorem sym_pad {n:Nat} (hn:n≤4) {A:Mx} (hA:∀ i j,i < 4→j < 4→A i j=A j i) (hP:Pd n A):∃ e1 e2 e3 e4,Es A e1 e2 e3 e4∧∀ k,n < k→k≤4→cf e1 e2 e3 e4 k=0:=by
  refine ⟨_,_,_,_,sym_Es hA,fun k hk h4=>?_⟩
  have z:=fun i j h=>hP i j h
  match k,h4 with
  | 0,_=>omega
  | 1,_=>
    show - u1 _ _ _ _ _ _ _ _ _ _=0
    rw [z 0 0 (by omega),z 1 1 (by omega),z 2 2 (by omega),z 3 3 (by omega)]
    simp [u1,t1,t2,t3,q3]
  | 2,_=>
    show u2 _ _ _ _ _ _ _ _ _ _=0
    rw [z 1 1 (by omega),z 2 2 (by omega),z 3 3 (by omega),z 0 1 (by omega),z 0 2 (by omega),z 0 3 (by omega),z 2 3 (by omega),z 1 3 (by omega),z 1 2 (by omega)]
    simp [u2,t1,t2,t3,q3]
  | 3,_=>
    show - u3 _ _ _ _ _ _ _ _ _ _=0
    rw [z 2 2 (by omega),z 3 3 (by omega),z 0 2 (by omega),z 0 3 (by omega),z 2 3 (by omega),z 1 3 (by omega),z 1 2 (by omega)]
    simp [u3,t1,t2,t3,q3]
  | 4,_=>
    show u4 _ _ _ _ _ _ _ _ _ _=0
    rw [z 3 3 (by omega),z 0 3 (by omega),z 2 3 (by omega),z 1 3 (by omega)]
    simp [u4,t1,t2,t3,q3]
section
variable {n:Nat} {M:Int} {P:List Nb} {g:Nat→Int} {T:List (List Nb)}
theorem izeros_ok (hM:M < pw 60) (hP:Lg P (n+1) g) (bg:∀ i,i < n+1→Bd M (g i)) (hT:T.length=n) (hn:n≤900):Ret (loop (exact_Inertia_l6 T P) 0) (fun z=>∃ m:Nat,z=(m:Int)∧m≤n∧(∀ i,i < m→g i=0)∧(m < n→g m≠0)):=by
  refine ret_loop (Post:=fun z=>∃ m:Nat,z=(m:Int)∧m≤n∧(∀ i,i < m→g i=0)∧(m < n→g m≠0)) n (fun k (s:Int)=>s=(k:Int)∧k≤n∧∀ i,i < k→g i=0) ⟨rfl,by omega,fun i hi=>absurd hi (by omega)⟩ ?_ (by omega)
  rintro k _ hk ⟨rfl,hkn,hI⟩
  unfold exact_Inertia_l6
  rw [hT,ret_bind,ret_if]
  refine ⟨fun hlt=>?_,fun hge=>?_⟩
  · obtain ⟨z,h1,h2⟩:=hP.at (c:=k) (by omega) (i:=(k:Int)) rfl
    have lz:=h2.lenB (bg k (by omega)) hM
    rw [h1,obs,sign_bg h2.1 (by omega),obs,h2.sv,ret_some]
    have e:(if g k < 0 then (-1:Int) else if 0 < g k then 1 else 0)=sgz (g k):=rfl
    rw [e]
    by_cases hz:g k=0
    · rw [sgz_zero.2 hz,decide_eq_true rfl,if_pos rfl]
      refine ⟨_,rfl,by omega,by show wa .i64 (k:Int) 1=_; rw [wa_i (by omega) (by omega)]; rfl,by omega,fun i hi=>?_⟩
      by_cases e2:i=k
      · subst e2; exact hz
      · exact hI i (by omega)
    · rw [decide_eq_false (fun h=>hz (sgz_zero.1 h)),if_neg (by decide)]
      exact ⟨_,rfl,k,rfl,hkn,hI,fun _=>hz⟩
  · rw [ret_some,if_neg (by decide)]
    exact ⟨_,rfl,k,rfl,hkn,hI,fun h=>absurd h (by omega)⟩
theorem isigns_ok (hM:M < pw 60) (hP:Lg P (n+1) g) (bg:∀ i,i < n+1→Bd M (g i)) (hn:n≤900):Ret (loop (exact_Inertia_l11 P) (0,0,0)) (fun z=>z=((vch ((List.range (n+1)).map fun i=>sgz (g i)):Nat):Int)∧vch ((List.range (n+1)).map fun i=>sgz (g i))≤n+1):=by
  refine ret_loop (Post:=fun z=>z=((vch ((List.range (n+1)).map fun i=>sgz (g i)):Nat):Int)∧vch ((List.range (n+1)).map fun i=>sgz (g i))≤n+1) (n+1) (fun k (s:Int×Int×Int)=>s.2.2=(k:Int)∧k≤n+1∧s.2.1=(((List.range k).map fun i=>sgz (g i)).foldl vst (0,0)).1∧s.1=(((((List.range k).map fun i=>sgz (g i)).foldl vst (0,0)).2:Nat):Int)∧(s.2.1= -1∨s.2.1=0∨s.2.1=1)∧(((List.range k).map fun i=>sgz (g i)).foldl vst (0,0)).2≤k) ⟨rfl,by omega,rfl,rfl,Or.inr (Or.inl rfl),Nat.le_refl 0⟩ ?_ (by omega)
  rintro k ⟨_,a,_⟩ hk ⟨rfl,hkn,ha,rfl,ha1,hle⟩
  simp only at ha ha1
  unfold exact_Inertia_l11
  simp only
  rw [hP.1,ret_if]
  refine ⟨fun hlt=>?_,fun hge=>⟨_,rfl,by have e:k=n+1:=(by omega); subst e; exact ⟨rfl,hle⟩⟩⟩
  obtain ⟨z,h1,h2⟩:=hP.at (c:=k) (by omega) (i:=(k:Int)) rfl
  have lz:=h2.lenB (bg k (by omega)) hM
  rw [h1,obs,sign_bg h2.1 (by omega),obs,h2.sv]
  have e:(if g k < 0 then (-1:Int) else if 0 < g k then 1 else 0)=sgz (g k):=rfl
  rw [e]
  have hs:=sgz_cases (g k)
  have ef:((List.range (k+1)).map fun i=>sgz (g i)).foldl vst (0,0)=vst (((List.range k).map fun i=>sgz (g i)).foldl vst (0,0)) (sgz (g k)):=by
    rw [List.range_succ,List.map_append,List.foldl_append]; rfl
  generalize hst:((List.range k).map fun i=>sgz (g i)).foldl vst (0,0)=st at*
  generalize sgz (g k)=s at*
  subst ha
  have hmul:wm .i64 s st.1=s*st.1:=by
    rcases hs with rfl | rfl | rfl<;>rcases ha1 with h | h | h<;>rw [h]<;>exact wm_i (by decide) (by decide)
  have hw:wa .i64 (st.2:Int) 1=((st.2+1:Nat):Int):=by rw [wa_i (by omega) (by omega)]; rfl
  have hw2:wa .i64 (k:Int) 1=((k+1:Nat):Int):=by rw [wa_i (by omega) (by omega)]; rfl
  have fin:∀ x:Int,x=(((vst st s).2:Nat):Int)→Ret (exact_Inertia_j12 s (k:Int) st.1 x) (VQ (fun t:Int×Int×Int=>k < n+1∧t.2.2=((k+1:Nat):Int)∧k+1≤n+1∧t.2.1=(((List.range (k+1)).map fun i=>sgz (g i)).foldl vst (0,0)).1∧t.1=(((((List.range (k+1)).map fun i=>sgz (g i)).foldl vst (0,0)).2:Nat):Int)∧(t.2.1= -1∨t.2.1=0∨t.2.1=1)∧(((List.range (k+1)).map fun i=>sgz (g i)).foldl vst (0,0)).2≤k+1) (fun z:Int=>z=((vch ((List.range (n+1)).map fun i=>sgz (g i)):Nat):Int)∧vch ((List.range (n+1)).map fun i=>sgz (g i))≤n+1)):=fun x hx=>by
    have h2le:(vst st s).2≤k+1:=by unfold vst; simp only; split<;>omega
    unfold exact_Inertia_j12 exact_Inertia_j13
    rw [ef,hw2,ret_if]
    refine ⟨fun h0=>⟨_,rfl,by omega,rfl,by omega,?_,hx,ha1,h2le⟩,fun h0=>⟨_,rfl,by omega,rfl,by omega,?_,hx,hs,h2le⟩⟩
    · show st.1=(vst st s).1
      unfold vst; simp only; rw [if_pos h0]
    · show s=(vst st s).1
      unfold vst; simp only; rw [if_neg h0]
  rw [hmul,ret_if]
  refine ⟨fun h=>?_,fun h=>?_⟩
  · exact fin _ (by rw [hw]; unfold vst; simp only; rw [if_pos h])
  · exact fin _ (by unfold vst; simp only; rw [if_neg h])
def symn (n:Nat) (A:Mx):Prop:=∀ i j,i < n→j < n→A i j=A j i
theorem isym_ok {A:Mx} {K:Nat} (hT:Tr K T n n A) (hK:K≤400) (hn:n≤900):Ret (loop (exact_Inertia_l3 T) 0) (fun o:Unit⊕Unit=>(o=.inl ()∧symn n A)∨(o=.inr ()∧¬ symn n A)):=by
  refine ret_loop (Post:=fun o:Unit⊕Unit=>(o=.inl ()∧symn n A)∨(o=.inr ()∧¬ symn n A)) n (fun k (s:Int)=>s=(k:Int)∧k≤n∧∀ i j,i < k→j < n→A i j=A j i) ⟨rfl,by omega,fun i j hi=>absurd hi (by omega)⟩ ?_ (by omega)
  rintro k _ hk ⟨rfl,hkn,hI⟩
  unfold exact_Inertia_l3
  rw [hT.1,ret_if]
  refine ⟨fun hlt=>?_,fun hge=>⟨_,rfl,Or.inl ⟨rfl,fun i j hi hj=>hI i j (by omega) hj⟩⟩⟩
  have hkn1:k < n:=by omega
  obtain ⟨row,h1,h2⟩:=hT.at hkn1 (i:=(k:Int)) rfl
  rw [h1,obs,ret_bind]
  have hin:Ret (loop (exact_Inertia_l15 row T (k:Int)) 0) (fun o:Unit⊕Unit=>(o=.inl ()∧∀ j,j < n→A k j=A j k)∨(o=.inr ()∧∃ j,j < n∧A k j≠A j k)):=by
    refine ret_loop (Post:=fun o:Unit⊕Unit=>(o=.inl ()∧∀ j,j < n→A k j=A j k)∨(o=.inr ()∧∃ j,j < n∧A k j≠A j k)) n (fun j (s:Int)=>s=(j:Int)∧j≤n∧∀ q,q < j→A k q=A q k) ⟨rfl,by omega,fun q hq=>absurd hq (by omega)⟩ ?_ (by omega)
    rintro j _ hj ⟨rfl,hjn,hJ⟩
    unfold exact_Inertia_l15
    rw [h2.1,ret_if]
    refine ⟨fun hlt=>?_,fun hge=>⟨_,rfl,Or.inl ⟨rfl,fun q hq=>hJ q (by omega)⟩⟩⟩
    have hjn1:j < n:=by omega
    obtain ⟨x,h3,h4⟩:=h2.at hjn1 (i:=(j:Int)) rfl
    obtain ⟨rj,h5,h6⟩:=hT.at hjn1 (i:=(j:Int)) rfl
    obtain ⟨y,h7,h8⟩:=h6.at hkn1 (i:=(k:Int)) rfl
    rw [h3,obs,h5,obs,h7,obs,cmp_bg h4.1 h8.1 (by have:=h4.2.1; omega) (by have:=h8.2.1; omega),obs,h4.2.2,h8.2.2,ret_if]
    refine ⟨fun h=>?_,fun h=>?_⟩
    · have e:A k j=A j k:=by
        by_cases h1:A k j < A j k
        · rw [if_pos h1] at h; omega
        · rw [if_neg h1] at h
          by_cases h2:A j k < A k j
          · rw [if_pos h2] at h; omega
          · omega
      refine ⟨_,rfl,hjn1,by show wa .i64 (j:Int) 1=_; rw [wa_i (by omega) (by omega)]; rfl,by omega,fun q hq=>?_⟩
      by_cases e2:q=j
      · subst e2; exact e
      · exact hJ q (by omega)
    · refine ⟨_,rfl,Or.inr ⟨rfl,j,hjn1,fun e=>h ?_⟩⟩
      rw [e,if_neg (by omega),if_neg (by omega)]
  refine hin.mono fun o ho=>?_
  rcases ho with ⟨rfl,ho⟩ | ⟨rfl,j,hj,ho⟩
  · refine ⟨_,rfl,hkn1,by show wa .i64 (k:Int) 1=_; rw [wa_i (by omega) (by omega)]; rfl,by omega,fun i j hi hj=>?_⟩
    by_cases e:i=k
    · subst e; exact ho j hj
    · exact hI i j (by omega) hj
  · exact ⟨_,rfl,Or.inr ⟨rfl,fun h=>ho (h k j hkn1 hj)⟩⟩
theorem xinertia_ok {A:Mx} (hn:n≤4) (hT:Tr 4 T n n A):Ret (exact_Inertia T) (fun r=>(¬ symn n A∧r=(0,0,0,80))∨(symn n A∧∃ a b c:Nat,r=((a:Int),(b:Int),(c:Int),0)∧Inr n (pad n A) a b c)):=by
  unfold exact_Inertia
  rw [ysquare_ok hT.sh (by omega),obs,if_pos rfl,ret_bind]
  refine (isym_ok hT (by omega) (by omega)).mono fun o ho=>?_
  rcases ho with ⟨rfl,hs⟩ | ⟨rfl,hs⟩
  · simp only
    rw [ret_bind]
    refine (ytwin0_ok hT (by omega) (by omega) (by omega)).mono fun U hU=>?_
    have hUp:Tg U n n (pad n A):=hU.congr fun i j hi hj=>(pad_in hi hj).symm
    have hsym:∀ i j,i < 4→j < 4→pad n A i j=pad n A j i:=fun i j _ _=>by
      unfold pad
      by_cases h:i < n∧j < n
      · rw [if_pos h,if_pos ⟨h.2,h.1⟩]; exact hs i j h.1 h.2
      · rw [if_neg h,if_neg (fun e=>h ⟨e.2,e.1⟩)]
    obtain ⟨e1,e2,e3,e4,hE,hz⟩:=sym_pad hn hsym (pad_pd n A)
    rw [ret_bind]
    refine (char4_ok hn (pad_pd n A) hUp (fun i j hi hj=>by
      obtain ⟨l,g1,g2⟩:=hT.2 i hi
      obtain ⟨z,g3,g4⟩:=g2.2 j hj
      rw [pad_in hi hj]; exact g4.bd) hE).mono fun P hP=>?_
    obtain ⟨hP,bP⟩:=hP
    have hM2:pw 59 < pw 60:=by
      have h2:pw 60=B*pw 59:=rfl
      have h3:B=4294967296:=rfl
      have:=pw_pos 59
      rw [h3] at h2
      omega
    rw [ret_bind]
    refine (izeros_ok hM2 hP bP hT.1 (by omega)).mono fun z hzz=>?_
    obtain ⟨m,rfl,hm,hm1,hm2⟩:=hzz
    rw [ret_bind]
    refine (isigns_ok hM2 hP bP (by omega)).mono fun p hp=>?_
    obtain ⟨rfl,hple⟩:=hp
    rw [vch_eq hn hz] at*
    have hl:lead (sgz e1) (sgz e2) (sgz e3) (sgz e4)=4 - (n - m):=lead_t (by omega) (fun k hk h4=>by
      by_cases h:n < k
      · exact hz k h h4
      · have:=hm1 (n - k) (by omega)
        rw [show n - (n - k)=k by omega] at this; exact this) fun h=>hm2 (by omega)
    obtain ⟨L,d,mm,hR⟩:=rep_ex hsym
    have hmain:=hR.main hE
    have hc1:vch [sgz e4,- sgz e3,sgz e2,- sgz e1,1]=cnt d 1:=hmain.1
    have hc0:lead (sgz e1) (sgz e2) (sgz e3) (sgz e4)=cnt d 0:=hmain.2
    have hle:cnt d 1+cnt d 0≤4:=by
      unfold cnt one3
      have s:=fun i=>sgz_cases (d i)
      have h0:=s 0
      have h1:=s 1
      have h2:=s 2
      have h3:=s 3
      repeat' split
      all_goals omega
    rw [hc1,hT.1]
    refine ⟨_,rfl,Or.inr ⟨hs,n - m - cnt d 1,m,cnt d 1,?_,by omega,L,d,mm,hR,rfl,by omega⟩⟩
    rw [ws_i (x:=(n:Int)) (y:=(m:Int)) (by omega) (by omega),ws_i (by omega) (by omega)]
    rw [show ((n - m - cnt d 1:Nat):Int)=(n:Int) - (m:Int) - (cnt d 1:Int) by omega]
  · simp only
    exact ⟨_,rfl,Or.inl ⟨hs,rfl⟩⟩
end
end Km
namespace Km
open Sx Go M Vc Lm Dt
theorem nat_inj {L:List Nat} (h:L.Nodup) {i j:Nat} {hi:i < L.length} {hj:j < L.length} (he:L[i]=L[j]):i=j:=by
  have hp:=List.pairwise_iff_getElem.1 h
  rcases Nat.lt_trichotomy i j with h1 | h1 | h1
  · exact absurd he (hp i j hi hj h1)
  · exact h1
  · exact absurd he.symm (hp j i hj hi h1)
def Tq (n:Nat) (F:List (List Fb)) (R:List Nat) (V D:Mx):Prop:=F.length=n∧∀ x,x < n→∃ l,F[x]?=some l∧l.length=n∧(x∈R→∀ y,y∈R→∃ z,l[y]?=some z∧Fq z (V x y) (D x y))
def up2 (V:Mx) (x y:Nat) (v:Int):Mx:=fun a b=>if a=x∧b=y then v else V a b
def nI (R:List Nat):List Int:=R.map fun (x:Nat)=>(x:Int)
theorem nI_len (R:List Nat):(nI R).length=R.length:=List.length_map ..
theorem nI_at {R:List Nat} {k:Nat} (hk:k < R.length) {i:Int} (hi:i=(k:Int)):getI (nI R) i=some ((R[k]:Nat):Int):=by
  refine at_some (k:=k) ?_ hi
  unfold nI
  rw [List.getElem?_map,List.getElem?_eq_getElem hk]; rfl
section
variable {n:Nat} {F:List (List Fb)} {R:List Nat} {V D:Mx}
theorem Tq.at (h:Tq n F R V D) (hR:∀ x,x∈R→x < n) {x y:Nat} (hx:x∈R) (hy:y∈R):∃ l z,getI F (x:Int)=some l∧l.length=n∧getI l (y:Int)=some z∧Fq z (V x y) (D x y):=by
  obtain ⟨l,h1,h2,h3⟩:=h.2 x (hR x hx)
  obtain ⟨z,h4,h5⟩:=h3 hx y hy
  exact ⟨l,z,at_some h1 rfl,h2,at_some h4 rfl,h5⟩
theorem Tq.congr (h:Tq n F R V D) {V' D':Mx} {R':List Nat} (hR:∀ x,x∈R'→x∈R) (e:∀ x y,x∈R'→y∈R'→V x y=V' x y∧D x y=D' x y):Tq n F R' V' D':=⟨h.1,fun x hx=>by
  obtain ⟨l,h1,h2,h3⟩:=h.2 x hx
  refine ⟨l,h1,h2,fun hxR y hy=>?_⟩
  obtain ⟨z,h4,h5⟩:=h3 (hR x hxR) y (hR y hy)
  obtain ⟨e1,e2⟩:=e x y hxR hy
  exact ⟨z,h4,by rw [← e1,← e2]; exact h5⟩⟩
theorem Tq.set (h:Tq n F R V D) {x y:Nat} (hx:x < n) (hy:y < n) {z:Fb} {v d:Int} (hz:Fq z v d):∃ l,getI F (x:Int)=some l∧setI l (y:Int) z=some (l.set y z)∧setI F (x:Int) (l.set y z)=some (F.set x (l.set y z))∧Tq n (F.set x (l.set y z)) R (up2 V x y v) (up2 D x y d):=by
  obtain ⟨l,h1,h2,h3⟩:=h.2 x hx
  refine ⟨l,at_some h1 rfl,set_some (by rw [h2]; exact hy) rfl,set_some (by rw [h.1]; exact hx) rfl,by rw [List.length_set]; exact h.1,fun a ha=>?_⟩
  by_cases e:a=x
  · subst e
    refine ⟨_,by rw [List.getElem?_set_self]; rw [h.1]; exact ha,by rw [List.length_set]; exact h2,fun haR b hb=>?_⟩
    by_cases e2:b=y
    · subst e2
      exact ⟨z,by rw [List.getElem?_set_self]; rw [h2]; exact hy,by unfold up2; rw [if_pos ⟨rfl,rfl⟩,if_pos ⟨rfl,rfl⟩]; exact hz⟩
    · obtain ⟨w,h4,h5⟩:=h3 haR b hb
      exact ⟨w,by rw [List.getElem?_set_ne (fun h=>e2 h.symm)]; exact h4,by unfold up2; rw [if_neg (fun h=>e2 h.2),if_neg (fun h=>e2 h.2)]; exact h5⟩
  · obtain ⟨m,g1,g2,g3⟩:=h.2 a ha
    refine ⟨m,by rw [List.getElem?_set_ne (fun h=>e h.symm)]; exact g1,g2,fun haR b hb=>?_⟩
    obtain ⟨w,h4,h5⟩:=g3 haR b hb
    exact ⟨w,h4,by unfold up2; rw [if_neg (fun h=>e h.1),if_neg (fun h=>e h.1)]; exact h5⟩
theorem Fq.sign {z:Fb} {v d:Int} (hd:0 < d) (h:Fq z v d) (hl:z.2.1.length≤1000):sparseref01_Sign z.1 z.2.1=some (if v < 0 then -1 else if 0 < v then 1 else 0):=by
  obtain ⟨n,e,h1,h2,h3⟩:=h
  rw [signR_bg h1.1 hl]
  have he:=h2.1
  unfold Vq at h3
  have h4:sgz n=sgz v:=by
    have h5:sgz (n*d)=sgz (v*e):=by rw [h3]
    rw [sgz_mul,sgz_mul,sgz_pos.2 hd,sgz_pos.2 he,Int.mul_one,Int.mul_one] at h5
    exact h5
  exact congrArg some h4
theorem fzero_ok {z:Fb} {v d:Int} (hd:0 < d) (h:Fq z v d) (hl:z.2.1.length≤1000):sparseref08_zero z.1 z.2.1 z.2.2.1 z.2.2.2=some (decide (v=0)):=by
  unfold sparseref08_zero
  rw [h.sign hd hl,obs]
  refine congrArg some (decide_eq_decide.2 ⟨fun h=>?_,fun h=>?_⟩)
  · exact sgz_zero.1 h
  · exact sgz_zero.2 h
theorem pivot_ok {m:Int} {K:Nat} (hm:0 < m) (hF:Tq n F R V (fun _ _=>m)) (hR:∀ x,x∈R→x < n) (hnd:R.Nodup) (hn:R.length≤900) (hK:K≤1000) (bV:∀ x y,x∈R→y∈R→Bk K (V x y)) (bm:Bk K m) (hsym:∀ x y,x∈R→y∈R→V x y=V y x):
    Ret (sparseref08_pivot F (nI R)) (fun o=>(o=(-1,-1)∧∀ x y,x∈R→y∈R→V x y=0)∨(∃ p,p∈R∧o=((p:Int),(p:Int))∧V p p≠0)∨(∃ p q,p∈R∧q∈R∧p≠q∧o=((p:Int),(q:Int))∧V p q≠0∧V p p=0∧V q q=0)):=by
  have rd:∀ x y,x∈R→y∈R→∃ l z,getI F (x:Int)=some l∧getI l (y:Int)=some z∧sparseref08_zero z.1 z.2.1 z.2.2.1 z.2.2.2=some (decide (V x y=0)):=fun x y hx hy=>by
    obtain ⟨l,z,h1,h2,h3,h4⟩:=hF.at hR hx hy
    exact ⟨l,z,h1,h3,fzero_ok hm h4 (by have:=(h4.len (by omega) (bV x y hx hy) bm).1; omega)⟩
  unfold sparseref08_pivot
  have d1:Ret (loop (sparseref08_pivot_l1 (nI R) F) 0) (fun o:Unit⊕(Int×Int)=>(o=.inl ()∧∀ x,x∈R→V x x=0)∨(∃ p,p∈R∧o=.inr ((p:Int),(p:Int))∧V p p≠0)):=by
    refine ret_loop (Post:=fun o:Unit⊕(Int×Int)=>(o=.inl ()∧∀ x,x∈R→V x x=0)∨(∃ p,p∈R∧o=.inr ((p:Int),(p:Int))∧V p p≠0)) R.length (fun k (s:Int)=>s=(k:Int)∧k≤R.length∧∀ x,x∈R.take k→V x x=0) ⟨rfl,by omega,fun x hx=>by simp at hx⟩ ?_ (by omega)
    rintro k _ hk ⟨rfl,hkn,hI⟩
    unfold sparseref08_pivot_l1
    rw [nI_len,ret_if]
    refine ⟨fun hlt=>?_,fun hge=>⟨_,rfl,Or.inl ⟨rfl,fun x hx=>hI x (by rw [take_all (by omega)]; exact hx)⟩⟩⟩
    have hk1:k < R.length:=by omega
    have hmem:R[k]∈R:=List.getElem_mem hk1
    obtain ⟨l,z,h1,h2,h3⟩:=rd _ _ hmem hmem
    rw [nI_at hk1 rfl,obs,h1,obs,obs,h2,obs,h3,obs,ret_if]
    refine ⟨fun h=>?_,fun h=>?_⟩
    · refine ⟨_,rfl,hk1,by show wa .i64 (k:Int) 1=_; rw [wa_i (by omega) (by omega)]; rfl,by omega,fun x hx=>?_⟩
      rw [mts (gEq hk1)] at hx
      rcases hx with hx | rfl
      · exact hI x hx
      · exact of_decide_eq_true h
    · rw [obs,obs]
      exact ⟨_,rfl,Or.inr ⟨_,hmem,rfl,fun e=>h (decide_eq_true e)⟩⟩
  rw [ret_bind]
  refine d1.mono fun o ho=>?_
  rcases ho with ⟨rfl,h0⟩ | ⟨p,hp,rfl,hne⟩
  · simp only
    have d2:Ret (loop (sparseref08_pivot_l4 (nI R) F) 0) (fun o:Unit⊕(Int×Int)=>(o=.inl ()∧∀ x y,x∈R→y∈R→V x y=0)∨(∃ p q,p∈R∧q∈R∧p≠q∧o=.inr ((p:Int),(q:Int))∧V p q≠0)):=by
      refine ret_loop (Post:=fun o:Unit⊕(Int×Int)=>(o=.inl ()∧∀ x y,x∈R→y∈R→V x y=0)∨(∃ p q,p∈R∧q∈R∧p≠q∧o=.inr ((p:Int),(q:Int))∧V p q≠0)) R.length (fun k (s:Int)=>s=(k:Int)∧k≤R.length∧∀ x y,x∈R.take k→y∈R.take k→V x y=0) ⟨rfl,by omega,fun x y hx=>by simp at hx⟩ ?_ (by omega)
      rintro k _ hk ⟨rfl,hkn,hI⟩
      unfold sparseref08_pivot_l4
      rw [nI_len,ret_if]
      refine ⟨fun hlt=>?_,fun hge=>⟨_,rfl,Or.inl ⟨rfl,fun x y hx hy=>hI x y (by rw [take_all (by omega)]; exact hx) (by rw [take_all (by omega)]; exact hy)⟩⟩⟩
      have hk1:k < R.length:=by omega
      have hmem:R[k]∈R:=List.getElem_mem hk1
      have hin:Ret (loop (sparseref08_pivot_l5 (k:Int) (nI R) F) 0) (fun o:Unit⊕(Int×Int)=>(o=.inl ()∧∀ y,y∈R.take k→V R[k] y=0)∨(∃ q,q∈R∧R[k]≠q∧o=.inr (((R[k]:Nat):Int),(q:Int))∧V R[k] q≠0)):=by
        refine ret_loop (Post:=fun o:Unit⊕(Int×Int)=>(o=.inl ()∧∀ y,y∈R.take k→V R[k] y=0)∨(∃ q,q∈R∧R[k]≠q∧o=.inr (((R[k]:Nat):Int),(q:Int))∧V R[k] q≠0)) k (fun j (s:Int)=>s=(j:Int)∧j≤k∧∀ y,y∈R.take j→V R[k] y=0) ⟨rfl,by omega,fun y hy=>by simp at hy⟩ ?_ (by omega)
        rintro j _ hj ⟨rfl,hjk,hJ⟩
        unfold sparseref08_pivot_l5
        rw [ret_if]
        refine ⟨fun hlt=>?_,fun hge=>⟨_,rfl,Or.inl ⟨rfl,fun y hy=>hJ y (by rw [show j=k by omega]; exact hy)⟩⟩⟩
        have hj1:j < R.length:=by omega
        have hjm:R[j]∈R:=List.getElem_mem hj1
        obtain ⟨l,z,h1,h2,h3⟩:=rd _ _ hmem hjm
        rw [nI_at hk1 rfl,obs,h1,obs,nI_at hj1 rfl,obs,h2,obs,h3,obs,ret_if]
        refine ⟨fun h=>?_,fun h=>?_⟩
        · refine ⟨_,rfl,by omega,by show wa .i64 (j:Int) 1=_; rw [wa_i (by omega) (by omega)]; rfl,by omega,fun y hy=>?_⟩
          rw [mts (gEq hj1)] at hy
          rcases hy with hy | rfl
          · exact hJ y hy
          · exact of_decide_eq_true h
        · rw [obs,obs]
          refine ⟨_,rfl,Or.inr ⟨_,hjm,fun e=>?_,rfl,fun e=>h (decide_eq_true e)⟩⟩
          have:=nat_inj hnd e
          omega
      rw [ret_bind]
      refine hin.mono fun o ho=>?_
      rcases ho with ⟨rfl,h1⟩ | ⟨q,hq,hne,rfl,hV⟩
      · refine ⟨_,rfl,hk1,by show wa .i64 (k:Int) 1=_; rw [wa_i (by omega) (by omega)]; rfl,by omega,fun x y hx hy=>?_⟩
        rw [mts (gEq hk1)] at hx hy
        rcases hx with hx | rfl
        · rcases hy with hy | rfl
          · exact hI x y hx hy
          · rw [hsym x _ (List.mem_of_mem_take hx) hmem]; exact h1 x hx
        · rcases hy with hy | rfl
          · exact h1 y hy
          · exact h0 _ hmem
      · exact ⟨_,rfl,Or.inr ⟨_,q,hmem,hq,hne,rfl,hV⟩⟩
    rw [ret_bind]
    refine d2.mono fun o ho=>?_
    rcases ho with ⟨rfl,h1⟩ | ⟨p,q,hp,hq,hpq,rfl,hV⟩
    · exact ⟨_,rfl,Or.inl ⟨rfl,h1⟩⟩
    · exact ⟨_,rfl,Or.inr (Or.inr ⟨p,q,hp,hq,hpq,rfl,hV,h0 p hp,h0 q hq⟩)⟩
  · exact ⟨_,rfl,Or.inr (Or.inl ⟨p,hp,rfl,hne⟩)⟩
def rst (R:List Nat) (p q:Nat):List Nat:=R.filter fun x=>decide (x≠p) && decide (x≠q)
theorem mem_rst {R:List Nat} {p q x:Nat}:x∈rst R p q↔x∈R∧x≠p∧x≠q:=by unfold rst; simp
theorem rest_ok {p q:Nat} (hn:R.length≤900):Ret (loop (sparseref08_Inertia_l168 (nI R) ((p:Int),(q:Int))) ([],0)) (fun o=>o=nI (rst R p q)):=by
  refine ret_loop (Post:=fun o=>o=nI (rst R p q)) R.length (fun k (s:List Int×Int)=>s.2=(k:Int)∧k≤R.length∧s.1=nI (rst (R.take k) p q)) ⟨rfl,by omega,by simp [rst,nI]⟩ ?_ (by omega)
  rintro k ⟨o,_⟩ hk ⟨rfl,hkn,hI⟩
  simp only at hI
  subst hI
  unfold sparseref08_Inertia_l168
  simp only
  rw [nI_len,ret_if]
  refine ⟨fun hlt=>?_,fun hge=>⟨_,rfl,show nI (rst (R.take k) p q)=nI (rst R p q) by rw [take_all (by omega)]⟩⟩
  have hk1:k < R.length:=by omega
  have et:R.take (k+1)=R.take k++[R[k]]:=tks (gEq hk1)
  have hle:(rst (R.take k) p q).length≤R.length:=Nat.le_trans (List.length_filter_le ..) (by rw [List.length_take]; omega)
  have hw:wa .i64 (k:Int) 1=((k+1:Nat):Int):=by rw [wa_i (by omega) (by omega)]; rfl
  rw [nI_at hk1 rfl,obs,obs,obs]
  have hb:(if ((R[k]:Nat):Int)=(p:Int) then some false else some (!decide (((R[k]:Nat):Int)=(q:Int))))=some (decide (R[k]≠p) && decide (R[k]≠q)):=by
    by_cases h1:R[k]=p
    · rw [if_pos (by omega),decide_eq_false (fun h=>h h1)]; rfl
    · rw [if_neg (by omega),decide_eq_true h1,Bool.true_and]
      by_cases h2:R[k]=q
      · rw [decide_eq_true (show ((R[k]:Nat):Int)=(q:Int) by omega),decide_eq_false (fun h=>h h2)]; rfl
      · rw [decide_eq_false (show ¬ ((R[k]:Nat):Int)=(q:Int) by omega),decide_eq_true h2]; rfl
  have hmid:((if ((R[k]:Nat):Int)=(p:Int) then some false else some (!decide (((R[k]:Nat):Int)=(q:Int)))).bind fun r7115=>if r7115=true then (app (nI (rst (R.take k) p q)) [((R[k]:Nat):Int)]).bind fun x7129=>sparseref08_Inertia_j195 (k:Int) x7129 else sparseref08_Inertia_j195 (k:Int) (nI (rst (R.take k) p q)))=some (.inl (nI (rst (R.take (k+1)) p q),((k+1:Nat):Int))):=by
    rw [hb,obs]
    unfold sparseref08_Inertia_j195
    rw [hw,et]
    have e2:rst (R.take k++[R[k]]) p q=rst (R.take k) p q++(if (decide (R[k]≠p) && decide (R[k]≠q))=true then [R[k]] else []):=by
      unfold rst
      rw [List.filter_append,List.filter_cons]; rfl
    by_cases h:(decide (R[k]≠p) && decide (R[k]≠q))=true
    · rw [if_pos h,e2,if_pos h]
      refine Ret.eq ?_
      rw [ret_bind,ret_app]
      refine ⟨by rw [nI_len]; simp only [List.length_cons,List.length_nil]; omega,?_⟩
      rw [ret_some]
      unfold nI; rw [List.map_append]; rfl
    · rw [if_neg h,e2,if_neg h,List.append_nil]
  rw [hmid,ret_some]
  exact ⟨hk1,rfl,by omega,rfl⟩
end
end Km
namespace Km
open Sx Go M Vc Lm Dt
noncomputable def mx (P:Nat→Nat→Prop) (V' V:Mx):Mx:=fun x y=>@ite Int (P x y) (Classical.propDecidable _) (V' x y) (V x y)
theorem mx_in {P:Nat→Nat→Prop} {V' V:Mx} {x y:Nat} (h:P x y):mx P V' V x y=V' x y:=if_pos h
theorem mx_out {P:Nat→Nat→Prop} {V' V:Mx} {x y:Nat} (h:¬ P x y):mx P V' V x y=V x y:=if_neg h
theorem mx_cg {P Q:Nat→Nat→Prop} {V' V:Mx} {x y:Nat} (h:P x y↔Q x y):mx P V' V x y=mx Q V' V x y:=by
  by_cases hp:P x y
  · rw [mx_in hp,mx_in (h.1 hp)]
  · rw [mx_out hp,mx_out (fun e=>hp (h.2 e))]
def Dn (R:List Nat) (i j:Nat) (x y:Nat):Prop:=(x∈R.take i∧y∈R.take i)∨(R[i]?=some x∧y∈R.take j)∨(R[i]?=some y∧x∈R.take j)
theorem Dn.row {R:List Nat} {i x y:Nat}:Dn R i (i+1) x y↔Dn R (i+1) 0 x y:=by
  unfold Dn
  rw [mts2,mts2,List.take_zero]
  simp only [List.not_mem_nil,and_false,or_false]
  constructor
  · rintro (⟨h1,h2⟩ | ⟨h1,h2⟩ | ⟨h1,h2⟩)
    · exact ⟨Or.inl h1,Or.inl h2⟩
    · exact ⟨Or.inr h1,h2⟩
    · exact ⟨h2,Or.inr h1⟩
  · rintro ⟨h1 | h1,h2 | h2⟩
    · exact Or.inl ⟨h1,h2⟩
    · exact Or.inr (Or.inr ⟨h2,Or.inl h1⟩)
    · exact Or.inr (Or.inl ⟨h1,Or.inl h2⟩)
    · exact Or.inr (Or.inl ⟨h1,Or.inr h2⟩)
theorem nd_take {R:List Nat} (h:R.Nodup) {i j:Nat} {x:Nat} (hi:R[i]?=some x) (hij:j≤i):x∉R.take j:=by
  intro hm
  obtain ⟨k,hk,he⟩:=List.mem_iff_getElem.1 hm
  rw [List.getElem_take] at he
  obtain ⟨hi1,hi2⟩:=List.getElem?_eq_some_iff.1 hi
  have:=nat_inj h (he.trans hi2.symm)
  rw [List.length_take] at hk
  omega
section
variable {n:Nat} {F:List (List Fb)} {R:List Nat} {X X':Mx} {m m':Int}
theorem sweep_body {p q i j:Nat} {K:Nat} {w:Fb} (hm:0 < m) (hR:∀ x,x∈R→x < n) (hnd:R.Nodup) (hp:p∈R) (hq:q∈R) (hW:X p q≠0) (hw:Fq w (X p q) m) (hK:K≤60) (bX:∀ x y,x∈R→y∈R→Bk K (X x y)) (bm:Bk K m)
    (h1:p=q→∀ x y,x∈rst R p q→y∈rst R p q→X' x y=X p q*(X x y*X p q - X x p*X q y)) (h1m:p=q→m'=X p q*(m*X p q))
    (h2:p≠q→∀ x y,x∈rst R p q→y∈rst R p q→X' x y=2*X p q*(X x y*X p q - X x p*X q y - X x q*X p y)) (h2m:p≠q→m'=2*X p q*(m*X p q))
    (hs:∀ x y,x∈rst R p q→y∈rst R p q→X' x y=X' y x) (hi:i < (rst R p q).length) (hji:j≤i)
    (hF:Tq n F R (mx (Dn (rst R p q) i j) X' X) (mx (Dn (rst R p q) i j) (fun _ _=>m') fun _ _=>m)) (hn:R.length≤900):
    ∃ G,sparseref08_Inertia_l190 (i:Int) (nI (rst R p q)) ((p:Int),(q:Int)) w (F,(j:Int))=some (.inl (G,((j+1:Nat):Int)))∧Tq n G R (mx (Dn (rst R p q) i (j+1)) X' X) (mx (Dn (rst R p q) i (j+1)) (fun _ _=>m') fun _ _=>m):=by
  have hnd':(rst R p q).Nodup:=hnd.filter _
  have hj:j < (rst R p q).length:=by omega
  have hle:(rst R p q).length≤1099511627776:=by
    have h3:(rst R p q).length≤R.length:=List.length_filter_le ..
    omega
  obtain ⟨x,hx⟩:∃ x,(rst R p q)[i]?=some x:=⟨_,List.getElem?_eq_getElem hi⟩
  obtain ⟨y,hy⟩:∃ y,(rst R p q)[j]?=some y:=⟨_,List.getElem?_eq_getElem hj⟩
  have hxm:=mem_get hx
  have hym:=mem_get hy
  have hxR:=(mem_rst.1 hxm).1
  have hyR:=(mem_rst.1 hym).1
  have gx:getI (nI (rst R p q)) (i:Int)=some (x:Int):=by
    rw [nI_at hi rfl]
    have:=(List.getElem?_eq_some_iff.1 hx).2
    rw [this]
  have gy:getI (nI (rst R p q)) (j:Int)=some (y:Int):=by
    rw [nI_at hj rfl]
    have:=(List.getElem?_eq_some_iff.1 hy).2
    rw [this]
  have nD:¬ Dn (rst R p q) i j x y:=by
    rintro (⟨h3,_⟩ | ⟨_,h3⟩ | ⟨h3,h4⟩)
    · exact nd_take hnd' hx (Nat.le_refl i) h3
    · exact nd_take hnd' hy (Nat.le_refl j) h3
    · exact nd_take hnd' hx hji h4
  have inR:∀ {a b:Nat},Dn (rst R p q) i j a b→a∈rst R p q∧b∈rst R p q:=by
    rintro a b (⟨h3,h4⟩ | ⟨h3,h4⟩ | ⟨h3,h4⟩)
    · exact ⟨List.mem_of_mem_take h3,List.mem_of_mem_take h4⟩
    · exact ⟨mem_get h3,List.mem_of_mem_take h4⟩
    · exact ⟨List.mem_of_mem_take h4,mem_get h3⟩
  have pn:p∉rst R p q:=fun h=>(mem_rst.1 h).2.1 rfl
  have qn:q∉rst R p q:=fun h=>(mem_rst.1 h).2.2 rfl
  have rd:∀ {a b:Nat},a∈R→b∈R→¬ Dn (rst R p q) i j a b→∃ l z,getI F (a:Int)=some l∧getI l (b:Int)=some z∧Fq z (X a b) m:=fun ha hb hd=>by
    obtain ⟨l,z,g1,_,g2,g3⟩:=hF.at hR ha hb
    rw [mx_out hd,mx_out hd] at g3
    exact ⟨l,z,g1,g2,g3⟩
  obtain ⟨lx,z1,e1,e2,e3⟩:=rd hxR hyR nD
  obtain ⟨lx2,z2,f1,f2,f3⟩:=rd hxR hp fun h=>pn (inR h).2
  rw [e1] at f1
  have:=sInj f1
  subst this
  obtain ⟨lq,z3,k1,k2,k3⟩:=rd hq hyR fun h=>qn (inR h).1
  have hm0:m≠0:=by omega
  have L1:=e3.len hm0 (bX x y hxR hyR) bm
  have L2:=f3.len hm0 (bX x p hxR hp) bm
  have L3:=k3.len hm0 (bX q y hq hyR) bm
  have L4:=hw.len hm0 (bX p q hp hq) bm
  have hwj:wa .i64 (j:Int) 1=((j+1:Nat):Int):=by rw [wa_i (by omega) (by omega)]; rfl
  have tail:∀ r:Fb,Fq r (X' x y) m'→Ret (sparseref08_Inertia_j192 F (x:Int) (y:Int) (j:Int) r.1 r.2.1 r.2.2.1 r.2.2.2) (fun o=>∃ G,o=.inl (G,((j+1:Nat):Int))∧Tq n G R (mx (Dn (rst R p q) i (j+1)) X' X) (mx (Dn (rst R p q) i (j+1)) (fun _ _=>m') fun _ _=>m)):=fun r hr=>by
    unfold sparseref08_Inertia_j192
    obtain ⟨l,a1,a2,a3,a4⟩:=hF.set (hR x hxR) (hR y hyR) (z:=(r.1,r.2.1,r.2.2.1,r.2.2.2)) hr
    obtain ⟨l',b1,b2,b3,b4⟩:=a4.set (hR y hyR) (hR x hxR) (z:=(r.1,r.2.1,r.2.2.1,r.2.2.2)) hr
    rw [a1,obs,a2,obs,a3,obs,b1,obs,b2,obs,b3,obs,hwj]
    refine ⟨_,rfl,_,rfl,b4.congr (fun _ h=>h) fun a b ha hb=>?_⟩
    have st:∀ (V' V:Mx) (v:Int),V' x y=v→V' y x=v→up2 (up2 (mx (Dn (rst R p q) i j) V' V) x y v) y x v a b=mx (Dn (rst R p q) i (j+1)) V' V a b:=fun V' V v hv hv2=>by
      unfold up2
      by_cases c1:a=y∧b=x
      · obtain ⟨rfl,rfl⟩:=c1
        rw [if_pos ⟨rfl,rfl⟩,mx_in (Or.inr (Or.inr ⟨hx,(mts2).2 (Or.inr hy)⟩)),hv2]
      · rw [if_neg c1]
        by_cases c2:a=x∧b=y
        · obtain ⟨rfl,rfl⟩:=c2
          rw [if_pos ⟨rfl,rfl⟩,mx_in (Or.inr (Or.inl ⟨hx,(mts2).2 (Or.inr hy)⟩)),hv]
        · rw [if_neg c2]
          refine mx_cg ⟨fun h=>?_,fun h=>?_⟩
          · rcases h with h | ⟨h3,h4⟩ | ⟨h3,h4⟩
            · exact Or.inl h
            · exact Or.inr (Or.inl ⟨h3,mts2.2 (Or.inl h4)⟩)
            · exact Or.inr (Or.inr ⟨h3,mts2.2 (Or.inl h4)⟩)
          · rcases h with h | ⟨h3,h4⟩ | ⟨h3,h4⟩
            · exact Or.inl h
            · rcases mts2.1 h4 with h4 | h4
              · exact Or.inr (Or.inl ⟨h3,h4⟩)
              · rw [hx] at h3; rw [hy] at h4
                exact absurd ⟨(sInj h3).symm,(sInj h4).symm⟩ c2
            · rcases mts2.1 h4 with h4 | h4
              · exact Or.inr (Or.inr ⟨h3,h4⟩)
              · rw [hx] at h3; rw [hy] at h4
                exact absurd ⟨(sInj h4).symm,(sInj h3).symm⟩ c1
    exact ⟨st X' X (X' x y) rfl (hs y x hym hxm),st (fun _ _=>m') (fun _ _=>m) m' rfl rfl⟩
  have hm1:m*X p q≠0:=Int.mul_ne_zero hm0 hW
  have key:Ret (sparseref08_Inertia_l190 (i:Int) (nI (rst R p q)) ((p:Int),(q:Int)) w (F,(j:Int))) (fun o=>∃ G,o=.inl (G,((j+1:Nat):Int))∧Tq n G R (mx (Dn (rst R p q) i (j+1)) X' X) (mx (Dn (rst R p q) i (j+1)) (fun _ _=>m') fun _ _=>m)):=by
    unfold sparseref08_Inertia_l190
    simp only
    rw [if_pos (by omega),gx,obs,gy,obs,e1,obs,e2,obs,obs,f2,obs,k1,obs,k2,obs,ret_bind]
    refine (fminus_ok (x:=z1) (y:=z2) (z:=z3) (w:=w) (K:=K) (L:=K) hm0 hW e3 f3 k3 hw L1 L2 L3 L4 (by omega)).mono fun r hr=>?_
    rw [ret_if]
    refine ⟨fun hpq=>?_,fun hpq=>?_⟩
    · have hpq:p=q:=by omega
      refine tail r ?_
      rw [h1 hpq x y hxm hym,h1m hpq]
      exact hr.scale _
    · have hpq:p≠q:=by omega
      obtain ⟨lx3,z4,g1,g2,g3⟩:=rd hxR hq fun h=>qn (inR h).2
      rw [e1] at g1
      have:=sInj g1
      subst this
      obtain ⟨lp,z5,q1,q2,q3⟩:=rd hp hyR fun h=>pn (inR h).1
      have L5:=g3.len hm0 (bX x q hxR hq) bm
      have L6:=q3.len hm0 (bX p y hp hyR) bm
      have br:Bk (K+K+1) (X x y*X p q - X x p*X q y):=((bX x y hxR hyR).mul (bX p q hp hq)).sub ((bX x p hxR hp).mul (bX q y hq hyR))
      have L7:=hr.len hm1 br ((bm.mul (bX p q hp hq)).mono (by omega))
      rw [obs,g2,obs,q1,obs,q2,obs,ret_bind]
      have s4:=g3.scale (X p q)
      have s5:=q3.scale (X p q)
      have sw:=hw.scale (X p q)
      rw [Int.mul_comm (X p q) m] at s4 s5 sw
      refine (fminus_ok (x:=r) (y:=z4) (z:=z5) (w:=w) (K:=K) (L:=K+K+1) hm1 (Int.mul_ne_zero hW hW) hr s4 s5 sw L7 L5 L6 L4 (by omega)).mono fun r2 hr2=>?_
      refine tail r2 ?_
      rw [h2 hpq x y hxm hym,h2m hpq]
      have e9:(X x y*X p q - X x p*X q y)*(X p q*X p q) - X p q*X x q*(X p q*X p y)=X p q*X p q*(X x y*X p q - X x p*X q y - X x q*X p y):=by grind
      have e8:m*X p q*(X p q*X p q)=X p q*X p q*(m*X p q):=by grind
      rw [e9,e8] at hr2
      exact (hr2.cancel (Int.mul_ne_zero hW hW)).scale _
  obtain ⟨o,g1,G,rfl,g2⟩:=key
  exact ⟨G,g1,g2⟩
theorem sweep2_ok {p q:Nat} {K:Nat} {w:Fb} (hm:0 < m) (hR:∀ x,x∈R→x < n) (hnd:R.Nodup) (hp:p∈R) (hq:q∈R) (hW:X p q≠0) (hw:Fq w (X p q) m) (hK:K≤60) (bX:∀ x y,x∈R→y∈R→Bk K (X x y)) (bm:Bk K m)
    (h1:p=q→∀ x y,x∈rst R p q→y∈rst R p q→X' x y=X p q*(X x y*X p q - X x p*X q y)) (h1m:p=q→m'=X p q*(m*X p q))
    (h2:p≠q→∀ x y,x∈rst R p q→y∈rst R p q→X' x y=2*X p q*(X x y*X p q - X x p*X q y - X x q*X p y)) (h2m:p≠q→m'=2*X p q*(m*X p q))
    (hs:∀ x y,x∈rst R p q→y∈rst R p q→X' x y=X' y x)
    (hF:Tq n F R X fun _ _=>m) (hn:R.length≤900):
    Ret (loop (sparseref08_Inertia_l185 (nI (rst R p q)) ((p:Int),(q:Int)) w) (F,0)) (fun G=>Tq n G (rst R p q) X' fun _ _=>m'):=by
  have hle:(rst R p q).length≤900:=by
    have h3:(rst R p q).length≤R.length:=List.length_filter_le ..
    omega
  refine ret_loop (Post:=fun G=>Tq n G (rst R p q) X' fun _ _=>m') (rst R p q).length (fun i (s:List (List Fb)×Int)=>s.2=(i:Int)∧i≤(rst R p q).length∧Tq n s.1 R (mx (Dn (rst R p q) i 0) X' X) (mx (Dn (rst R p q) i 0) (fun _ _=>m') fun _ _=>m)) ⟨rfl,by omega,hF.congr (fun _ h=>h) fun x y _ _=>?_⟩ ?_ (by omega)
  · have hd:¬ Dn (rst R p q) 0 0 x y:=by
      rintro (⟨h3,_⟩ | ⟨_,h3⟩ | ⟨_,h3⟩)<;>simp at h3
    rw [mx_out hd,mx_out hd]; exact ⟨rfl,rfl⟩
  · rintro i ⟨G,_⟩ hi ⟨rfl,hin,hG⟩
    simp only at hG
    unfold sparseref08_Inertia_l185
    simp only
    rw [nI_len,ret_if]
    refine ⟨fun hlt=>?_,fun hge=>⟨_,rfl,hG.congr (fun x hx=>(mem_rst.1 hx).1) fun x y hx hy=>?_⟩⟩
    · have hi1:i < (rst R p q).length:=by omega
      rw [ret_bind]
      refine (ret_loop (Post:=fun G=>Tq n G R (mx (Dn (rst R p q) i (i+1)) X' X) (mx (Dn (rst R p q) i (i+1)) (fun _ _=>m') fun _ _=>m)) (i+1) (fun j (s:List (List Fb)×Int)=>s.2=(j:Int)∧j≤i+1∧Tq n s.1 R (mx (Dn (rst R p q) i j) X' X) (mx (Dn (rst R p q) i j) (fun _ _=>m') fun _ _=>m)) ⟨rfl,by omega,hG⟩ ?_ (by omega)).mono fun H hH=>?_
      · rintro j ⟨H,_⟩ hj ⟨rfl,hjn,hH⟩
        simp only at hH
        by_cases hji:j≤i
        · obtain ⟨G',g1,g2⟩:=sweep_body hm hR hnd hp hq hW hw hK bX bm h1 h1m h2 h2m hs hi1 hji hH hn
          rw [g1,ret_some]
          exact ⟨by omega,rfl,by omega,g2⟩
        · unfold sparseref08_Inertia_l190
          simp only
          rw [if_neg (by omega),ret_some]
          have:j=i+1:=by omega
          subst this
          exact hH
      · exact ⟨_,rfl,hi1,by show wa .i64 (i:Int) 1=_; rw [wa_i (by omega) (by omega)]; rfl,by omega,hH.congr (fun _ h=>h) fun x y _ _=>⟨mx_cg Dn.row,mx_cg Dn.row⟩⟩
    · have hd:Dn (rst R p q) i 0 x y:=Or.inl (by rw [take_all (by omega)]; exact ⟨hx,hy⟩)
      rw [mx_in hd,mx_in hd]; exact ⟨rfl,rfl⟩
end
end Km
namespace Km
open Sx Go M Vc Lm Dt
def bt:Nat→Nat
  | 0=>4
  | t+1=>3*bt t+3
theorem bt_mono {s t:Nat} (h:s≤t):bt s≤bt t:=by
  induction t with
  | zero =>
    have:s=0:=by omega
    subst this; exact Nat.le_refl _
  | succ t ih=>
    by_cases e:s=t+1
    · subst e; exact Nat.le_refl _
    · have:=ih (by omega)
      show bt s≤3*bt t+3
      omega
theorem bt2 {t:Nat} (h:t≤2):bt t≤48:=Nat.le_trans (bt_mono h) (by decide)
theorem bt4 {t:Nat} (h:t≤4):bt t≤1000:=Nat.le_trans (bt_mono h) (by decide)
theorem bk_two {K:Nat} {v:Int} (h:Bk K v):Bk (K+1) (2*v):=by
  obtain ⟨h1,h2⟩:=h
  have e:pw (K+1)=B*pw K:=rfl
  have hB:B=4294967296:=rfl
  have:=pw_pos K
  rw [hB] at e
  exact ⟨by omega,by omega⟩
def IS (n:Nat) (A:Mx) (F:List (List Fb)) (a c:Int) (Rl:List Int):Prop:=
  ∃ (X L:Mx) (d:Nat→Int) (m:Int) (S:Nat→Bool) (R:List Nat) (t:Nat),El A X L d m S∧(∀ x y,x < 4→y < 4→S x=true→S y=true→X x y=X y x)∧Rl=nI R∧R.Nodup∧(∀ x,x∈R→x < n)∧(∀ x,x < 4→(S x=true↔x∈R∨n≤x))∧(∀ x y,x < 4→y < 4→n≤x∨n≤y→X x y=0)∧
  Tq n F R X (fun _ _=>m)∧R.length+t=n∧(∀ x y,x∈R→y∈R→Bk (bt t) (X x y))∧Bk (bt t) m∧a=((cnt d (-1):Nat):Int)∧c=((cnt d 1:Nat):Int)∧R.length+cnt d 1+cnt d (-1)=n
theorem cnt_all (d:Nat→Int):cnt d 1+cnt d 0+cnt d (-1)=4:=by
  unfold cnt one3
  have h0:=sgz_cases (d 0)
  have h1:=sgz_cases (d 1)
  have h2:=sgz_cases (d 2)
  have h3:=sgz_cases (d 3)
  rcases h0 with h0 | h0 | h0<;>rcases h1 with h1 | h1 | h1<;>rcases h2 with h2 | h2 | h2<;>rcases h3 with h3 | h3 | h3<;>rw [h0,h1,h2,h3]<;>decide
theorem IS.done {n:Nat} {A X L:Mx} {d:Nat→Int} {m:Int} {S:Nat→Bool} {R:List Nat} (hE:El A X L d m S) (hS:∀ x,x < 4→(S x=true↔x∈R∨n≤x)) (hP:∀ x y,x < 4→y < 4→n≤x∨n≤y→X x y=0) (hz:∀ x y,x∈R→y∈R→X x y=0) (hc:R.length+cnt d 1+cnt d (-1)=n):Inr n A (cnt d (-1)) R.length (cnt d 1):=by
  refine ⟨by omega,L,d,m,hE.done fun x y hx hy hSx hSy=>?_,rfl,by have:=cnt_all d; omega⟩
  rcases (hS x hx).1 hSx with h1 | h1
  · rcases (hS y hy).1 hSy with h2 | h2
    · exact hz x y h1 h2
    · exact hP x y hx hy (Or.inr h2)
  · exact hP x y hx hy (Or.inl h1)
theorem rst_len {R:List Nat} (hnd:R.Nodup) {p q:Nat} (hp:p∈R) (hq:q∈R):(rst R p q).length+(if p=q then 1 else 2)=R.length:=by
  have one:∀ (L:List Nat) (a:Nat),L.Nodup→a∈L→(L.filter fun x=>decide (x≠a)).length+1=L.length:=by
    intro L
    induction L with
    | nil=>intro a _ h; simp at h
    | cons b L ih=>
      intro a hn ha
      obtain ⟨h1,h2⟩:=List.nodup_cons.1 hn
      by_cases e:b=a
      · subst e
        rw [List.filter_cons,if_neg (by simp)]
        have:L.filter (fun x=>decide (x≠b))=L:=List.filter_eq_self.2 fun x hx=>by
          have:x≠b:=fun e=>h1 (e▸hx)
          simpa using this
        rw [this]; rfl
      · rw [List.filter_cons,if_pos (by simpa using e)]
        have:=ih a h2 (by rcases List.mem_cons.1 ha with h | h; exact absurd h.symm e; exact h)
        simp only [List.length_cons]; omega
  by_cases e:p=q
  · subst e
    rw [if_pos rfl,← one R p hnd hp]
    congr 2
    unfold rst
    exact List.filter_congr fun x _=>by rw [Bool.and_self]
  · rw [if_neg e]
    have h1:=one R p hnd hp
    have hq':q∈R.filter fun x=>decide (x≠p):=List.mem_filter.2 ⟨hq,by simpa using fun h=>e h.symm⟩
    have h2:=one _ q (hnd.filter _) hq'
    have h3:(R.filter fun x=>decide (x≠p)).filter (fun x=>decide (x≠q))=rst R p q:=by
      unfold rst
      rw [List.filter_filter]
      exact List.filter_congr fun x _=>by rw [Bool.and_comm]
    rw [h3] at h2
    omega
section
variable {n:Nat} {A:Mx} {F:List (List Fb)}
theorem round_ok {a c:Int} {Rl:List Int} (hn:n≤4) (h:IS n A F a c Rl):Ret (sparseref08_Inertia_l163 (F,a,c,Rl)) (VQ (fun s:List (List Fb)×Int×Int×List Int=>0 < Rl.length∧s.2.2.2.length < Rl.length∧IS n A s.1 s.2.1 s.2.2.1 s.2.2.2) (fun o:Int×Int×List Int=>∃ i j k:Nat,o.1=(i:Int)∧o.2.1=(k:Int)∧o.2.2.length=j∧Inr n A i j k)):=by
  obtain ⟨X,L,d,m,S,R,t,hE,hX,rfl,hnd,hR,hS,hP,hF,ht,bX,bm,rfl,rfl,hc⟩:=h
  have hmp:=hE.pos
  unfold sparseref08_Inertia_l163
  simp only
  rw [nI_len,ret_if]
  refine ⟨fun hlt=>?_,fun hge=>?_⟩
  · have hR4:∀ x,x∈R→x < 4:=fun x hx=>by have:=hR x hx; omega
    have hXs:∀ x y,x∈R→y∈R→X x y=X y x:=fun x y hx hy=>hX x y (hR4 x hx) (hR4 y hy) ((hS x (hR4 x hx)).2 (Or.inl hx)) ((hS y (hR4 y hy)).2 (Or.inl hy))
    rw [ret_bind]
    refine (pivot_ok hmp hF hR hnd (by omega) (bt4 (by omega)) bX bm hXs).mono fun o ho=>?_
    have sw:∀ (p q:Nat) (X':Mx) (m':Int) (a' c':Int),p∈R→q∈R→X p q≠0→
        (p=q→∀ x y,x∈rst R p q→y∈rst R p q→X' x y=X p q*(X x y*X p q - X x p*X q y))→(p=q→m'=X p q*(m*X p q))→
        (p≠q→∀ x y,x∈rst R p q→y∈rst R p q→X' x y=2*X p q*(X x y*X p q - X x p*X q y - X x q*X p y))→(p≠q→m'=2*X p q*(m*X p q))→
        (∀ x y,x∈rst R p q→y∈rst R p q→X' x y=X' y x)→(∀ G,Tq n G (rst R p q) X' (fun _ _=>m')→IS n A G a' c' (nI (rst R p q)))→
        Ret (sparseref08_Inertia_j170 F ((p:Int),(q:Int)) (nI (rst R p q)) a' c') (VQ (fun s:List (List Fb)×Int×Int×List Int=>0 < R.length∧s.2.2.2.length < R.length∧IS n A s.1 s.2.1 s.2.2.1 s.2.2.2) (fun o:Int×Int×List Int=>∃ i j k:Nat,o.1=(i:Int)∧o.2.1=(k:Int)∧o.2.2.length=j∧Inr n A i j k)):=by
      intro p q X' m' a' c' hp hq hW h1 h1m h2 h2m hs hfin
      have hl:=rst_len hnd hp hq
      have hl1:(rst R p q).length < R.length:=by split at hl<;>omega
      unfold sparseref08_Inertia_j170
      obtain ⟨l,w,g1,_,g2,g3⟩:=hF.at hR hp hq
      rw [g1,obs,g2,obs,ret_bind]
      by_cases he:rst R p q=[]
      ·
        rw [he]
        refine (ret_loop (Post:=fun G:List (List Fb)=>G=F) 0 (fun k s=>s=(F,0)) rfl (fun k s hk hs=>?_) (by omega)).mono fun G hG=>?_
        · subst hs
          unfold sparseref08_Inertia_l185
          simp only
          rw [if_neg (by show ¬ ((0:Int) < ((0:Nat):Int)); omega),ret_some]
          rfl
        · subst hG
          refine ⟨_,rfl,by omega,by show 0 < R.length; omega,?_⟩
          have:=hfin G (hF.congr (R':=rst R p q) (fun x hx=>(mem_rst.1 hx).1) fun x y hx _=>by rw [he] at hx; simp at hx)
          rw [he] at this; exact this
      · have h0:0 < (rst R p q).length:=List.length_pos_iff.2 he
        have ht2:t≤2:=by omega
        refine (sweep2_ok hmp hR hnd hp hq hW g3 (K:=48) (by omega) (fun x y hx hy=>(bX x y hx hy).mono (bt2 ht2)) (bm.mono (bt2 ht2)) h1 h1m h2 h2m hs hF (by omega)).mono fun G hG=>?_
        exact ⟨_,rfl,by omega,by show (nI (rst R p q)).length < _; rw [nI_len]; exact hl1,hfin G hG⟩
    rcases ho with ⟨rfl,hz⟩ | ⟨p,hp,rfl,hb⟩ | ⟨p,q,hp,hq,hpq,rfl,hb,hpp,hqq⟩
    · rw [if_pos (by decide),ret_some]
      exact ⟨_,_,_,rfl,rfl,rfl,by rw [nI_len]; exact IS.done hE hS hP hz hc⟩
    ·
      have hp4:=hR4 p hp
      have hSp:=(hS p hp4).2 (Or.inl hp)
      have hE':=hE.one_ hX hp4 hSp hb
      have hdp:=(hE.unit p hp4 hSp).2
      have hsq:0 < X p p*X p p:=sq_pos' hb
      have hcn:∀ v:Int,v≠0→(cnt (fun i=>if i=p then X p p else X p p*X p p*d i) v:Int)=cnt d v+if sgz (X p p)=v then 1 else 0:=fun v hv=>cnt_step hp4 hsq hdp (fun i _=>rfl) hv
      have c1:=hcn 1 (by omega)
      have c2:=hcn (-1) (by omega)
      have hl:=rst_len hnd hp hp
      rw [if_pos rfl] at hl
      have hmem:∀ x,x < 4→((S x && decide (x≠p))=true↔x∈rst R p p∨n≤x):=fun x hx=>by
        rw [mem_rst,Bool.and_eq_true,decide_eq_true_eq,hS x hx]
        have:=hR p hp
        constructor
        · rintro ⟨h1 | h1,h2⟩
          · exact Or.inl ⟨h1,h2,h2⟩
          · exact Or.inr h1
        · rintro (⟨h1,h2,_⟩ | h1)
          · exact ⟨Or.inl h1,h2⟩
          · exact ⟨Or.inr h1,by omega⟩
      have hX':∀ x y,x < 4→y < 4→(S x && decide (x≠p))=true→(S y && decide (y≠p))=true→X p p*(X p p*X x y - X x p*X p y)=X p p*(X p p*X y x - X y p*X p x):=fun x y hx hy h1 h2=>by
        simp only [Bool.and_eq_true,decide_eq_true_eq] at h1 h2
        rw [hX x y hx hy h1.1 h2.1,hX x p hx hp4 h1.1 hSp,hX y p hy hp4 h2.1 hSp]; grind
      have hin:∀ x,x∈rst R p p→x < 4∧(S x && decide (x≠p))=true:=fun x hx=>⟨hR4 x (mem_rst.1 hx).1,(hmem x (hR4 x (mem_rst.1 hx).1)).2 (Or.inl hx)⟩
      have bp:=bX p p hp hp
      have fin:∀ (a' c':Int),a'=((cnt (fun i=>if i=p then X p p else X p p*X p p*d i) (-1):Nat):Int)→c'=((cnt (fun i=>if i=p then X p p else X p p*X p p*d i) 1:Nat):Int)→∀ G,Tq n G (rst R p p) (fun x y=>X p p*(X p p*X x y - X x p*X p y)) (fun _ _=>m*(X p p*X p p))→IS n A G a' c' (nI (rst R p p)):=fun a' c' ha hc' G hG=>by
        refine ⟨_,_,_,_,_,rst R p p,t+1,hE',hX',rfl,hnd.filter _,fun x hx=>hR x (mem_rst.1 hx).1,hmem,fun x y hx hy h=>?_,hG,by omega,fun x y hx hy=>?_,?_,ha,hc',?_⟩
        · rcases h with h | h
          · rw [hP x y hx hy (Or.inl h),hP x p hx hp4 (Or.inl h)]; simp
          · rw [hP x y hx hy (Or.inr h),hP p y hp4 hy (Or.inr h)]; simp
        · have hx':=(mem_rst.1 hx).1
          have hy':=(mem_rst.1 hy).1
          exact (bp.mul ((bp.mul (bX x y hx' hy')).sub ((bX x p hx' hp).mul (bX p y hp hy')))).mono (by show _≤3*bt t+3; omega)
        · exact (bm.mul (bp.mul bp)).mono (by show _≤3*bt t+3; omega)
        · have hs:=sgz_cases (X p p)
          rcases hs with hs | hs | hs
          · rw [hs] at c1 c2
            rw [if_neg (by decide)] at c1
            rw [if_pos rfl] at c2
            omega
          · exact absurd (sgz_zero.1 hs) hb
          · rw [hs] at c1 c2
            rw [if_pos rfl] at c1
            rw [if_neg (by decide)] at c2
            omega
      obtain ⟨l,w,g1,g4,g2,g3⟩:=hF.at hR hp hp
      have lw:=g3.len (by omega) (bX p p hp hp) bm
      have bb:=bt4 (t:=t) (by omega)
      have go:∀ a' c':Int,a'=((cnt (fun i=>if i=p then X p p else X p p*X p p*d i) (-1):Nat):Int)→c'=((cnt (fun i=>if i=p then X p p else X p p*X p p*d i) 1:Nat):Int)→Ret (sparseref08_Inertia_j170 F ((p:Int),(p:Int)) (nI (rst R p p)) a' c') (VQ (fun s:List (List Fb)×Int×Int×List Int=>0 < R.length∧s.2.2.2.length < R.length∧IS n A s.1 s.2.1 s.2.2.1 s.2.2.2) (fun o:Int×Int×List Int=>∃ i j k:Nat,o.1=(i:Int)∧o.2.1=(k:Int)∧o.2.2.length=j∧Inr n A i j k)):=fun a' c' ha hc'=>
        sw p p (fun x y=>X p p*(X p p*X x y - X x p*X p y)) (m*(X p p*X p p)) a' c' hp hp hb (fun _ x y _ _=>by rw [Int.mul_comm (X p p) (X x y)]) (fun _=>by grind) (fun h=>absurd rfl h) (fun h=>absurd rfl h) (fun x y hx hy=>hX' x y (hin x hx).1 (hin y hy).1 (hin x hx).2 (hin y hy).2) (fin a' c' ha hc')
      rw [if_neg (by simp only; omega),ret_bind]
      refine (rest_ok (R:=R) (p:=p) (q:=p) (by omega)).mono fun r hr=>?_
      subst hr
      rw [if_pos rfl,g1,obs,g2,obs,g3.sign hmp (by omega),obs]
      have hk1:=cnt_all d
      rw [ret_if]
      have es:(if X p p < 0 then (-1:Int) else if 0 < X p p then 1 else 0)=sgz (X p p):=rfl
      rw [es]
      refine ⟨fun hneg=>?_,fun hneg=>?_⟩
      · have hs:sgz (X p p)= -1:=by
          have:=sgz_cases (X p p)
          omega
        rw [hs,if_neg (by decide)] at c1
        rw [hs,if_pos rfl] at c2
        exact go _ _ (by rw [wa_i (by omega) (by omega)]; omega) (by omega)
      · have hs:sgz (X p p)=1:=by
          have h1:=sgz_cases (X p p)
          have h2:sgz (X p p)≠0:=fun h=>hb (sgz_zero.1 h)
          omega
        rw [hs,if_pos rfl] at c1
        rw [hs,if_neg (by decide)] at c2
        exact go _ _ (by omega) (by rw [wa_i (by omega) (by omega)]; omega)
    ·
      have hp4:=hR4 p hp
      have hq4:=hR4 q hq
      have hSp:=(hS p hp4).2 (Or.inl hp)
      have hSq:=(hS q hq4).2 (Or.inl hq)
      have hE':=hE.two hX hp4 hq4 hpq hSp hSq hpp hqq hb
      have hdp:=(hE.unit p hp4 hSp).2
      have hdq:=(hE.unit q hq4 hSq).2
      have hsq:0 < 2*(X p q*X p q):=by have:=sq_pos' hb; omega
      have c1:(cnt (fun i=>if i=q then - X p q else if i=p then X p q else 2*(X p q*X p q)*d i) 1:Int)=cnt d 1+1:=cnt_step2 hp4 hq4 hpq hb hsq hdp hdq (fun i _=>rfl) (Or.inl rfl)
      have c2:(cnt (fun i=>if i=q then - X p q else if i=p then X p q else 2*(X p q*X p q)*d i) (-1):Int)=cnt d (-1)+1:=cnt_step2 hp4 hq4 hpq hb hsq hdp hdq (fun i _=>rfl) (Or.inr rfl)
      have hl:=rst_len hnd hp hq
      rw [if_neg hpq] at hl
      have hmem:∀ x,x < 4→((S x && decide (x≠p) && decide (x≠q))=true↔x∈rst R p q∨n≤x):=fun x hx=>by
        rw [mem_rst,Bool.and_eq_true,Bool.and_eq_true,decide_eq_true_eq,decide_eq_true_eq,hS x hx]
        have h3:=hR p hp
        have h4:=hR q hq
        constructor
        · rintro ⟨⟨h1 | h1,h2⟩,h5⟩
          · exact Or.inl ⟨h1,h2,h5⟩
          · exact Or.inr h1
        · rintro (⟨h1,h2,h5⟩ | h1)
          · exact ⟨⟨Or.inl h1,h2⟩,h5⟩
          · exact ⟨⟨Or.inr h1,by omega⟩,by omega⟩
      have hX':∀ x y,x < 4→y < 4→(S x && decide (x≠p) && decide (x≠q))=true→(S y && decide (y≠p) && decide (y≠q))=true→2*X p q*(X p q*X x y - X x p*X q y - X x q*X p y)=2*X p q*(X p q*X y x - X y p*X q x - X y q*X p x):=fun x y hx hy h1 h2=>by
        simp only [Bool.and_eq_true,decide_eq_true_eq] at h1 h2
        rw [hX x y hx hy h1.1.1 h2.1.1,hX x p hx hp4 h1.1.1 hSp,hX y p hy hp4 h2.1.1 hSp,hX x q hx hq4 h1.1.1 hSq,hX y q hy hq4 h2.1.1 hSq]; grind
      have hin:∀ x,x∈rst R p q→x < 4∧(S x && decide (x≠p) && decide (x≠q))=true:=fun x hx=>⟨hR4 x (mem_rst.1 hx).1,(hmem x (hR4 x (mem_rst.1 hx).1)).2 (Or.inl hx)⟩
      have bpq:=bX p q hp hq
      have b2:=bk_two bpq
      have fin:∀ (a' c':Int),a'=((cnt (fun i=>if i=q then - X p q else if i=p then X p q else 2*(X p q*X p q)*d i) (-1):Nat):Int)→c'=((cnt (fun i=>if i=q then - X p q else if i=p then X p q else 2*(X p q*X p q)*d i) 1:Nat):Int)→∀ G,Tq n G (rst R p q) (fun x y=>2*X p q*(X p q*X x y - X x p*X q y - X x q*X p y)) (fun _ _=>m*(2*(X p q*X p q)))→IS n A G a' c' (nI (rst R p q)):=fun a' c' ha hc' G hG=>by
        have hbt:3*bt t+3≤bt (t+2):=bt_mono (s:=t+1) (by omega)
        refine ⟨_,_,_,_,_,rst R p q,t+2,hE',hX',rfl,hnd.filter _,fun x hx=>hR x (mem_rst.1 hx).1,hmem,fun x y hx hy h=>?_,hG,by omega,fun x y hx hy=>?_,?_,ha,hc',by omega⟩
        · rcases h with h | h
          · rw [hP x y hx hy (Or.inl h),hP x p hx hp4 (Or.inl h),hP x q hx hq4 (Or.inl h)]; simp
          · rw [hP x y hx hy (Or.inr h),hP p y hp4 hy (Or.inr h),hP q y hq4 hy (Or.inr h)]; simp
        · have hx':=(mem_rst.1 hx).1
          have hy':=(mem_rst.1 hy).1
          have s1:=((bpq.mul (bX x y hx' hy')).sub ((bX x p hx' hp).mul (bX q y hq hy')))
          have s2:=s1.sub (((bX x q hx' hq).mul (bX p y hp hy')).mono (show bt t+bt t≤bt t+bt t+1 by omega))
          exact (b2.mul s2).mono (by omega)
        · have e:m*(2*(X p q*X p q))=m*(2*X p q*X p q):=by rw [Int.mul_assoc]
          show Bk _ (m*(2*(X p q*X p q)))
          rw [e]
          exact (bm.mul (b2.mul bpq)).mono (by omega)
      rw [if_neg (by simp only; omega),ret_bind]
      refine (rest_ok (R:=R) (p:=p) (q:=q) (by omega)).mono fun r hr=>?_
      subst hr
      have hk1:=cnt_all d
      rw [if_neg (by simp only; omega)]
      exact sw p q (fun x y=>2*X p q*(X p q*X x y - X x p*X q y - X x q*X p y)) (m*(2*(X p q*X p q))) _ _ hp hq hb (fun h=>absurd h hpq) (fun h=>absurd h hpq) (fun _ x y _ _=>by rw [Int.mul_comm (X p q) (X x y)]) (fun _=>by grind) (fun x y hx hy=>hX' x y (hin x hx).1 (hin y hy).1 (hin x hx).2 (hin y hy).2) (fin _ _ (by rw [wa_i (by omega) (by omega)]; omega) (by rw [wa_i (by omega) (by omega)]; omega))
  · have:R=[]:=List.length_eq_zero_iff.1 (by omega)
    refine ⟨_,rfl,_,_,_,rfl,rfl,rfl,?_⟩
    show Inr n A _ (nI R).length _
    rw [nI_len]
    exact IS.done hE hS hP (fun x y hx _=>by rw [this] at hx; simp at hx) hc
theorem rinertia_ok {T:List (List Nb)} (hn:n≤4) (hT:Tr 4 T n n A) (hs:symn n A):Ret (sparseref08_Inertia T) (fun r=>∃ a b c:Nat,r=((a:Int),(b:Int),(c:Int))∧Inr n (pad n A) a b c):=by
  unfold sparseref08_Inertia
  rw [ret_bind]
  refine (fracs_ok hT (by omega) (by omega) (by omega)).mono fun F hF=>?_
  rw [ret_bind]
  have hr:Ret (loop (sparseref08_Inertia_l1 T) ([],0)) (fun o=>o=nI (List.range n)):=by
    refine ret_loop (Post:=fun o=>o=nI (List.range n)) n (fun k (s:List Int×Int)=>s.2=(k:Int)∧s.1=nI (List.range k)) ⟨rfl,rfl⟩ ?_ (by omega)
    rintro k ⟨o,_⟩ hk ⟨rfl,hI⟩
    simp only at hI
    subst hI
    unfold sparseref08_Inertia_l1
    simp only
    rw [hT.1,ret_if]
    refine ⟨fun hlt=>?_,fun hge=>⟨_,rfl,by show nI (List.range k)=_; rw [show k=n by omega]⟩⟩
    rw [ret_bind,ret_app]
    refine ⟨by rw [nI_len,List.length_range]; simp only [List.length_cons,List.length_nil]; omega,_,rfl,by omega,by show wa .i64 (k:Int) 1=_; rw [wa_i (by omega) (by omega)]; rfl,?_⟩
    show nI (List.range k)++[(k:Int)]=_
    rw [List.range_succ]; unfold nI; rw [List.map_append]; rfl
  refine hr.mono fun o ho=>?_
  subst ho
  rw [ret_bind]
  have hsym:∀ i j,i < 4→j < 4→pad n A i j=pad n A j i:=fun i j _ _=>by
    unfold pad
    by_cases h:i < n∧j < n
    · rw [if_pos h,if_pos ⟨h.2,h.1⟩]; exact hs i j h.1 h.2
    · rw [if_neg h,if_neg (fun e=>h ⟨e.2,e.1⟩)]
  have h0:IS n (pad n A) F 0 0 (nI (List.range n)):=by
    refine ⟨_,_,_,_,_,List.range n,0,El.start,fun x y hx hy _ _=>hsym x y hx hy,rfl,List.nodup_range,fun x hx=>List.mem_range.1 hx,fun x hx=>⟨fun _=>?_,fun _=>rfl⟩,fun x y _ _ h=>pad_pd n A x y h,?_,by rw [List.length_range]; omega,fun x y hx hy=>?_,⟨by decide,by decide⟩,by decide,by decide,by rw [List.length_range]; show n+0+0=n; omega⟩
    · rw [List.mem_range]; omega
    · refine ⟨hF.1,fun x hx=>?_⟩
      obtain ⟨l,h1,h2,h3⟩:=hF.2 x hx
      refine ⟨l,h1,h2,fun _ y hy=>?_⟩
      have hy:=List.mem_range.1 hy
      obtain ⟨z,h4,h5⟩:=h3 y hy
      exact ⟨z,h4,by rw [pad_in hx hy]; exact h5⟩
    · have hx:=List.mem_range.1 hx
      have hy:=List.mem_range.1 hy
      rw [pad_in hx hy]
      obtain ⟨l,g1,g2⟩:=hT.2 x hx
      obtain ⟨z,g3,g4⟩:=g2.2 y hy
      have:=bk_sv (s:=z.1) g4.1 g4.2.1
      rw [g4.2.2] at this
      exact this
  refine (ret_loop (Post:=fun o:Int×Int×List Int=>∃ i j k:Nat,o.1=(i:Int)∧o.2.1=(k:Int)∧o.2.2.length=j∧Inr n (pad n A) i j k) n (fun k (s:List (List Fb)×Int×Int×List Int)=>s.2.2.2.length+k≤n∧IS n (pad n A) s.1 s.2.1 s.2.2.1 s.2.2.2) ⟨by show (nI (List.range n)).length+0≤n; rw [nI_len,List.length_range]; omega,h0⟩ ?_ (by omega)).mono fun o ho=>?_
  · rintro k ⟨F,a,c,Rl⟩ hk ⟨h1,h2⟩
    simp only at h1
    obtain ⟨o,e1,e2⟩:=round_ok hn h2
    refine ⟨o,e1,?_⟩
    cases o with
    | inl s=>
      obtain ⟨g1,g2,g3⟩:=e2
      have g1:0 < Rl.length:=g1
      have g2:s.2.2.2.length < Rl.length:=g2
      exact ⟨by omega,by omega,g3⟩
    | inr o=>exact e2
  · obtain ⟨i,j,k,h1,h2,h3,h4⟩:=ho
    obtain ⟨x,y,z⟩:=o
    simp only at h1 h2 h3
    subst h1; subst h2
    exact ⟨_,rfl,i,j,k,by rw [h3],h4⟩
end
end Km
namespace Km
open Sx Go M Vc Lm Dt
theorem awake08i:sparselaw08_awake=some true:=by kernel_rfl
namespace Ki
structure Sm (T:List (List Nb)):Prop where
  n:T.length≤32
  n4:T.length≤4∨16 < T.length
  r:∀ l,l∈T→l.length≤32∧(l.length≤4∨16 < l.length)∧∀ z,z∈l→z.2.length≤4
theorem sm_of {T:List (List Nb)} (h:((decide (T.length≤4) || decide (16 < T.length)) && decide (T.length≤32) && T.all rowP)=true):Sm T:=by
  simp only [Bool.and_eq_true,Bool.or_eq_true,decide_eq_true_eq] at h
  refine ⟨h.1.2,h.1.1,fun l hl=>?_⟩
  have:=List.all_eq_true.1 h.2 l hl
  unfold rowP at this
  simp only [Bool.and_eq_true,Bool.or_eq_true,decide_eq_true_eq] at this
  exact ⟨this.1.2,this.1.1,fun z hz=>by simpa using List.all_eq_true.1 this.2 z hz⟩
theorem err0 {T:List (List Nb)} (h:errT T=0):T.all (fun l=>decide (l.length=cw T))=true∧T.length≤16∧cw T≤16:=by
  unfold errT at h
  by_cases ha:T.all (fun l=>decide (l.length=cw T))=true
  · rw [if_pos ha] at h
    by_cases h2:16 < T.length∨16 < cw T
    · rw [if_pos h2] at h; omega
    · exact ⟨ha,by omega,by omega⟩
  · rw [if_neg ha] at h; omega
theorem Sm.four {T:List (List Nb)} (h:Sm T) (he:errT T=0):T.length≤4∧cw T≤4∧(0 < T.length∨cw T=0):=by
  obtain ⟨h1,h2,h3⟩:=err0 he
  refine ⟨by have:=h.n4; omega,?_,?_⟩
  · cases T with
    | nil=>show 0≤4; omega
    | cons l T=>
      have:=h.r l (by simp)
      show l.length≤4
      have h3:l.length≤16:=h3
      omega
  · cases T with
    | nil=>exact .inr rfl
    | cons l T=>exact .inl (by simp)
theorem wf_u32' {n:Int} (h:Wf .u32 n):0≤n∧n < B:=by
  simp only [Wf,Lit.wf,Bool.and_eq_true,decide_eq_true_eq] at h
  have e:IntKind.max .u32=4294967295:=by decide
  have f:IntKind.min .u32=0:=by decide
  unfold B
  omega
def okB (z:Nb):Prop:=(fun _:Bool=>True) z.1∧okL (Wf .u32) z.2
theorem okB_lw {z:Nb} (h:okB z):LW z.2:=fun x hx=>wf_u32' (h.2.2 x hx)
theorem err_ne {T:List (List Nb)}:errT T=0∨errT T=5∨errT T=6:=by
  unfold errT
  split
  · split<;>omega
  · omega
end Ki
open Ki
theorem Lr.set {K w:Nat} {l:List Nb} {f:Nat→Int} (h:Lr K l w f) {c:Nat} (hc:c < w) {z:Nb} {v:Int} (hz:Rw K v z):Lr K (l.set c z) w (fun j=>if j=c then v else f j):=by
  refine ⟨by rw [List.length_set]; exact h.1,fun j hj=>?_⟩
  by_cases e:j=c
  · subst e
    exact ⟨z,by rw [List.getElem?_set_self]; rw [h.1]; exact hj,by show Rw K (if j=j then v else f j) z; rw [if_pos rfl]; exact hz⟩
  · obtain ⟨y,h1,h2⟩:=h.2 j hj
    exact ⟨y,by rw [List.getElem?_set_ne (fun h=>e h.symm)]; exact h1,by show Rw K (if j=c then v else f j) y; rw [if_neg e]; exact h2⟩
theorem Tr.set {K n w:Nat} {T:List (List Nb)} {A:Mx} (h:Tr K T n w A) {k:Nat} (hk:k < n) {l:List Nb} {g:Nat→Int} (hl:Lr K l w g):Tr K (T.set k l) n w (up A k g):=by
  refine ⟨by rw [List.length_set]; exact h.1,fun r hr=>?_⟩
  by_cases e:r=k
  · subst e
    exact ⟨l,by rw [List.getElem?_set_self]; rw [h.1]; exact hr,by
      refine ⟨hl.1,fun c hc=>?_⟩
      obtain ⟨z,h1,h2⟩:=hl.2 c hc
      exact ⟨z,h1,by rw [up_in]; exact h2⟩⟩
  · obtain ⟨m,h1,h2⟩:=h.2 r hr
    exact ⟨m,by rw [List.getElem?_set_ne (fun h=>e h.symm)]; exact h1,by
      refine ⟨h2.1,fun c hc=>?_⟩
      obtain ⟨z,h3,h4⟩:=h2.2 c hc
      exact ⟨z,h3,by rw [up_out e]; exact h4⟩⟩
section
variable {n:Nat} {T:List (List Nb)} {A:Mx}
theorem rsym_ok {K:Nat} (hT:Tr K T n n A) (hK:K≤400) (hn:n≤900):Ret (sparseref08_Symmetric T) (fun b=>(b=true∧symn n A)∨(b=false∧¬ symn n A)):=by
  unfold sparseref08_Symmetric
  have hloop:Ret (loop (sparseref08_Symmetric_l3 T) 0) (fun o:Unit⊕Unit=>(o=.inl ()∧symn n A)∨(o=.inr ()∧¬ symn n A)):=by
    refine ret_loop (Post:=fun o:Unit⊕Unit=>(o=.inl ()∧symn n A)∨(o=.inr ()∧¬ symn n A)) n (fun k (s:Int)=>s=(k:Int)∧k≤n∧∀ i j,i < k→j < i→A i j=A j i) ⟨rfl,by omega,fun i j hi=>absurd hi (by omega)⟩ ?_ (by omega)
    rintro k _ hk ⟨rfl,hkn,hI⟩
    unfold sparseref08_Symmetric_l3
    rw [hT.1,ret_if]
    refine ⟨fun hlt=>?_,fun hge=>⟨_,rfl,Or.inl ⟨rfl,fun i j hi hj=>?_⟩⟩⟩
    · have hkn1:k < n:=by omega
      obtain ⟨row,h1,h2⟩:=hT.at hkn1 (i:=(k:Int)) rfl
      rw [ret_bind]
      have hin:Ret (loop (sparseref08_Symmetric_l4 (k:Int) T) 0) (fun o:Unit⊕Unit=>(o=.inl ()∧∀ j,j < k→A k j=A j k)∨(o=.inr ()∧∃ j,j < n∧A k j≠A j k)):=by
        refine ret_loop (Post:=fun o:Unit⊕Unit=>(o=.inl ()∧∀ j,j < k→A k j=A j k)∨(o=.inr ()∧∃ j,j < n∧A k j≠A j k)) k (fun j (s:Int)=>s=(j:Int)∧j≤k∧∀ q,q < j→A k q=A q k) ⟨rfl,by omega,fun q hq=>absurd hq (by omega)⟩ ?_ (by omega)
        rintro j _ hj ⟨rfl,hjn,hJ⟩
        unfold sparseref08_Symmetric_l4
        rw [ret_if]
        refine ⟨fun hlt=>?_,fun hge=>⟨_,rfl,Or.inl ⟨rfl,fun q hq=>hJ q (by omega)⟩⟩⟩
        have hjn1:j < n:=by omega
        obtain ⟨x,h3,h4⟩:=h2.at hjn1 (i:=(j:Int)) rfl
        obtain ⟨rj,h5,h6⟩:=hT.at hjn1 (i:=(j:Int)) rfl
        obtain ⟨y,h7,h8⟩:=h6.at hkn1 (i:=(k:Int)) rfl
        rw [h1,obs,h3,obs,h5,obs,h7,obs,cmpR_bg h4.1 h8.1 (by have:=h4.2.1; omega) (by have:=h8.2.1; omega),obs,h4.2.2,h8.2.2,ret_if]
        refine ⟨fun h=>?_,fun h=>?_⟩
        · have e:A k j=A j k:=by
            by_cases h1:A k j < A j k
            · rw [if_pos h1] at h; omega
            · rw [if_neg h1] at h
              by_cases h2:A j k < A k j
              · rw [if_pos h2] at h; omega
              · omega
          refine ⟨_,rfl,by omega,by show wa .i64 (j:Int) 1=_; rw [wa_i (by omega) (by omega)]; rfl,by omega,fun q hq=>?_⟩
          by_cases e2:q=j
          · subst e2; exact e
          · exact hJ q (by omega)
        · refine ⟨_,rfl,Or.inr ⟨rfl,j,hjn1,fun e=>h ?_⟩⟩
          rw [e,if_neg (by omega),if_neg (by omega)]
      refine hin.mono fun o ho=>?_
      rcases ho with ⟨rfl,ho⟩ | ⟨rfl,j,hj,ho⟩
      · refine ⟨_,rfl,hkn1,by show wa .i64 (k:Int) 1=_; rw [wa_i (by omega) (by omega)]; rfl,by omega,fun i j hi hj=>?_⟩
        by_cases e:i=k
        · subst e; exact ho j hj
        · exact hI i j (by omega) hj
      · exact ⟨_,rfl,Or.inr ⟨rfl,fun h=>ho (h k j hkn1 hj)⟩⟩
    · have e:k=n:=by omega
      subst e
      rcases Nat.lt_trichotomy i j with h | h | h
      · exact (hI j i hj h).symm
      · subst h; rfl
      · exact hI i j hi h
  rw [ret_bind]
  refine hloop.mono fun o ho=>?_
  rcases ho with ⟨rfl,h⟩ | ⟨rfl,h⟩
  · exact ⟨_,rfl,Or.inl ⟨rfl,h⟩⟩
  · exact ⟨_,rfl,Or.inr ⟨rfl,h⟩⟩
theorem inertia_err {e:Int} (h:exact_square T=some e) (he:e≠0):exact_Inertia T=some (0,0,0,e):=by
  unfold exact_Inertia
  rw [h,obs,if_neg he]
theorem Tr.errT {K w:Nat} (h:Tr K T n w A) (hn:n≤16) (hw:w≤16) (h0:0 < n∨w=0):Km.errT T=0∧Km.cw T=w:=by
  have hc:Km.cw T=w:=by
    cases T with
    | nil=>
      have:n=0:=h.1.symm
      show 0=w
      omega
    | cons l T=>
      obtain ⟨l',h1,h2⟩:=h.2 0 (by have:=h.1; simp only [List.length_cons] at this; omega)
      have e:l=l':=by simpa using h1
      subst e
      exact h2.1
  refine ⟨?_,hc⟩
  unfold Km.errT
  rw [hc,if_pos,if_neg]
  · rw [h.1]; omega
  · rw [List.all_eq_true]
    intro l hl
    obtain ⟨k,hk,e⟩:=List.mem_iff_getElem.1 hl
    obtain ⟨l',h1,h2⟩:=h.2 k (by rw [← h.1]; exact hk)
    rw [List.getElem?_eq_getElem hk] at h1
    have e2:=sInj h1
    rw [e] at e2
    subst e2
    exact decide_eq_true h2.1
theorem law_sq (hn:n≤4) (hT:Tr 4 T n n A):∀ r122,exact_Inertia T=some r122→sparselaw08_ExactInertia_j11 T r122 0=some true:=by
  intro r122 h
  obtain ⟨o,h1,h2⟩:=xinertia_ok hn hT
  obtain rfl:=sInj (h.symm.trans h1)
  obtain ⟨b,h3,h4⟩:=rsym_ok hT (by omega) (by omega)
  unfold sparselaw08_ExactInertia_j11
  rw [if_pos rfl,h3,obs,obs]
  rcases h2 with ⟨hns,rfl⟩ | ⟨hs,a,z,c,rfl,hI⟩
  · rcases h4 with ⟨_,h4⟩ | ⟨rfl,_⟩
    · exact absurd h4 hns
    · rw [if_pos (by decide)]
      unfold sparselaw08_ExactInertia_j13
      rw [if_neg (by decide),if_pos (by decide),awake08i,obs,obs]
  · rcases h4 with ⟨rfl,_⟩ | ⟨_,h4⟩
    · rw [if_neg (by decide)]
      unfold sparselaw08_ExactInertia_j13
      obtain ⟨o,h5,a',z',c',rfl,hI'⟩:=rinertia_ok hn hT hs
      have hsym:∀ i j,i < 4→j < 4→pad n A i j=pad n A j i:=fun i j _ _=>by
        unfold pad
        by_cases h:i < n∧j < n
        · rw [if_pos h,if_pos ⟨h.2,h.1⟩]; exact hs i j h.1 h.2
        · rw [if_neg h,if_neg (fun e=>h ⟨e.2,e.1⟩)]
      obtain ⟨rfl,rfl,rfl⟩:=hI.uniq hsym hI'
      rw [if_pos rfl,h5,obs,if_pos (by simp),awake08i,obs,obs]
    · exact absurd hs h4
theorem law_any (S:Sm T) (hTr:Km.errT T=0→T.length=Km.cw T→∃ A,Tr 4 T T.length T.length A):((exact_Inertia T).bind fun r122=>
    (sparseref08_Check T).bind fun r123=>
    (if r123=0 then
      (sparseref08_Cols T).bind fun r128=>
      some (!(decide ((T.length:Int)=r128)))
    else
      some false).bind fun r125=>
    if r125=true then
      sparselaw08_ExactInertia_j11 T r122 5
    else
      sparselaw08_ExactInertia_j11 T r122 r123)=some true:=by
  have hSn:=S.n
  have hrchk:=rcheck_eq (T:=T) (by omega) fun l hl=>by have:=(S.r l hl).1; omega
  have hsq:=xsquare_eq (T:=T) (by omega)
  have err:∀ e:Int,e≠0→sparselaw08_ExactInertia_j11 T (0,0,0,e) e=some true:=fun e he=>by
    unfold sparselaw08_ExactInertia_j11
    rw [if_neg he,obs,if_neg (by decide)]
    unfold sparselaw08_ExactInertia_j13
    rw [if_neg he,if_pos (by simp),awake08i,obs,obs]
  rw [hrchk]
  by_cases he:Km.errT T=0
  · rw [if_pos he] at hsq
    by_cases hq:T.length=Km.cw T
    · obtain ⟨A,hA⟩:=hTr he hq
      obtain ⟨o,h1,_⟩:=xinertia_ok (S.four he).1 hA
      have:=law_sq (S.four he).1 hA o h1
      rw [h1,obs,obs,if_pos he,rcols_eq,obs,obs,if_neg (by rw [hq]; simp),he]
      exact this
    · rw [if_neg hq] at hsq
      rw [inertia_err hsq (by decide),obs,obs,if_pos he,rcols_eq,obs,obs,if_pos (by simp; omega)]
      exact err 5 (by decide)
  · rw [if_neg he] at hsq
    rw [inertia_err hsq he,obs,obs,if_neg he,obs,if_neg (by decide)]
    exact err _ he
theorem mirror_ok {x:Bool} (S:Sm T) (hz:∀ l,l∈T→∀ z,z∈l→LW z.2):Ret (loop (sparselaw08_ExactInertia_l9 x T) (T,0)) (fun U=>U=T∨(Km.errT T=0∧T.length=Km.cw T∧∃ A,Tr 4 U T.length T.length A)):=by
  have hSn:=S.n
  have hrchk:=rcheck_eq (T:=T) (by omega) fun l hl=>by have:=(S.r l hl).1; omega
  by_cases hgo:x=true∧Km.errT T=0∧T.length=Km.cw T
  · obtain ⟨rfl,he,hq⟩:=hgo
    obtain ⟨hall,_,_⟩:=err0 he
    have hTr:=tr_of (K:=4) hall fun l hl z hz'=>⟨hz l hl z hz',(S.r l hl).2.2 z hz'⟩
    rw [← hq] at hTr
    rw [he] at hrchk
    refine ret_loop (Post:=fun U=>U=T∨(Km.errT T=0∧T.length=Km.cw T∧∃ A,Tr 4 U T.length T.length A)) T.length (fun k (s:List (List Nb)×Int)=>s.2=(k:Int)∧∃ A,Tr 4 s.1 T.length T.length A) ⟨rfl,_,hTr⟩ ?_ (by omega)
    rintro k ⟨U,_⟩ hk ⟨rfl,A,hA⟩
    simp only at hA
    unfold sparselaw08_ExactInertia_l9
    simp only
    rw [hA.1]
    by_cases hkn:k < T.length
    · rw [if_pos (by simp; omega),hrchk,obs,obs,if_pos (by decide),rcols_eq,obs,obs,if_pos (by simp; omega),ret_bind]
      refine (ret_loop (Post:=fun U=>∃ A,Tr 4 U T.length T.length A) k (fun j (s:List (List Nb)×Int)=>s.2=(j:Int)∧j≤k∧∃ A,Tr 4 s.1 T.length T.length A) ⟨rfl,by omega,_,hA⟩ ?_ (by omega)).mono fun V hV=>⟨_,rfl,hkn,by show wa .i64 (k:Int) 1=_; rw [wa_i (by omega) (by omega)]; rfl,hV⟩
      rintro j ⟨V,_⟩ hj ⟨rfl,hjk,B,hB⟩
      simp only at hB
      unfold sparselaw08_ExactInertia_l25
      simp only
      rw [ret_if]
      refine ⟨fun hlt=>?_,fun hge=>⟨_,rfl,_,hB⟩⟩
      have hj1:j < T.length:=by omega
      obtain ⟨rk,g1,g2⟩:=hB.at hkn (i:=(k:Int)) rfl
      obtain ⟨rj,g3,g4⟩:=hB.at hj1 (i:=(j:Int)) rfl
      obtain ⟨z,g5,g6⟩:=g4.at hkn (i:=(k:Int)) rfl
      rw [g1,obs,g3,obs,g5,obs,set_some (by rw [g2.1]; exact hj1) rfl,obs,set_some (by rw [hB.1]; exact hkn) rfl,obs]
      exact ⟨_,rfl,by omega,by show wa .i64 (j:Int) 1=_; rw [wa_i (by omega) (by omega)]; rfl,by omega,_,hB.set hkn (g2.set hj1 (z:=(z.1,z.2)) g6)⟩
    · rw [if_neg (by simp; omega),obs,if_neg (by decide),obs,if_neg (by decide),ret_some]
      exact Or.inr ⟨he,hq,A,hA⟩
  · refine ret_loop (Post:=fun U=>U=T∨(Km.errT T=0∧T.length=Km.cw T∧∃ A,Tr 4 U T.length T.length A)) 0 (fun k (s:List (List Nb)×Int)=>s=(T,0)) rfl ?_ (by omega)
    rintro k s hk rfl
    unfold sparselaw08_ExactInertia_l9
    simp only
    have fin:Ret (some (.inr T):Option ((List (List Nb)×Int)⊕List (List Nb))) (VQ (fun t'=>k < 0∧t'=(T,0)) (fun U=>U=T∨(Km.errT T=0∧T.length=Km.cw T∧∃ A,Tr 4 U T.length T.length A))):=⟨_,rfl,Or.inl rfl⟩
    cases x with
    | false=>rw [if_neg (by simp),obs,if_neg (by decide),obs,if_neg (by decide)]; exact fin
    | true=>
      by_cases h0:(0:Int) < (T.length:Int)
      · rw [if_pos (by simp; omega),hrchk,obs,obs]
        by_cases he:Km.errT T=0
        · have hq:¬ T.length=Km.cw T:=fun h=>hgo ⟨rfl,he,h⟩
          rw [if_pos (by simp [he]),rcols_eq,obs,obs,if_neg (by simp; omega)]; exact fin
        · rw [if_neg (by simp [he]),obs,if_neg (by decide)]; exact fin
      · rw [if_neg (by rw [decide_eq_false h0]; decide),obs,if_neg (by decide),obs,if_neg (by decide)]; exact fin
end
theorem exactInertia_true (T:List (List Nb)) (x:Bool) (hT:T.length≤maxLen) (hr:∀ l,l∈T→l.length≤maxLen) (hz:∀ l,l∈T→∀ z,z∈l→LW z.2):sparselaw08_ExactInertia T x=some true:=by
  unfold sparselaw08_ExactInertia
  rw [small_eq hT hr,obs]
  by_cases hsm:((decide (T.length≤4) || decide (16 < T.length)) && decide (T.length≤32) && T.all rowP)=true
  · rw [if_pos hsm]
    have S:=sm_of hsm
    have hSn:=S.n
    have hrows:∀ l,l∈T→l.length≤1000∧∀ z,z∈l→z.2.length≤1000:=fun l hl=>⟨by have:=(S.r l hl).1; omega,fun z hz=>by have:=(S.r l hl).2.2 z hz; omega⟩
    rw [twinRows_eq (by omega) hrows,obs]
    obtain ⟨U,h1,h2⟩:=mirror_ok (x:=x) S hz
    rw [h1,obs]
    rcases h2 with h2 | ⟨he,hq,A,hA⟩
    · rw [h2]
      refine law_any S fun he hq=>⟨vT T,?_⟩
      obtain ⟨hall,_,_⟩:=err0 he
      have hTr:=tr_of (K:=4) hall fun l hl z hz'=>⟨hz l hl z hz',(S.r l hl).2.2 z hz'⟩
      rw [← hq] at hTr
      exact hTr
    · obtain ⟨hn4,_,_⟩:=S.four he
      have hUl:=hA.1
      refine law_any ⟨by omega,by omega,fun l hl=>?_⟩ fun _ _=>⟨A,by rw [hUl]; exact hA⟩
      obtain ⟨k,hk,e⟩:=List.mem_iff_getElem.1 hl
      obtain ⟨l',g1,g2⟩:=hA.2 k (by omega)
      rw [List.getElem?_eq_getElem hk] at g1
      have e2:=sInj g1
      rw [e] at e2
      subst e2
      refine ⟨by have:=g2.1; omega,by have:=g2.1; omega,fun z hz=>?_⟩
      obtain ⟨c,hc,e3⟩:=List.mem_iff_getElem.1 hz
      obtain ⟨z',g3,g4⟩:=g2.2 c (by have:=g2.1; omega)
      rw [List.getElem?_eq_getElem hc] at g3
      have e4:=sInj g3
      rw [e3] at e4
      subst e4
      exact g4.2.1
  · rw [if_neg hsm,awake08i,obs]
theorem exactInertia_t (T:List (List Nb)) (x:Bool) (hT:okL (okL okB) T):sparselaw08_ExactInertia T x=some true:=
  exactInertia_true T x hT.1 (fun l hl=>(hT.2 l hl).1) (fun l hl z hz=>okB_lw ((hT.2 l hl).2 z hz))
end Km
