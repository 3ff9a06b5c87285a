/- Tables of numbers; a row minus a multiple of another one, divided exactly. -/
import Derived.Test.YtpfmbaidflhamaaGreatDoorQzA
import Derived.Test.YtpfmbaidflhamaaGreatDoorQzB
import Derived.KernelRfl
import Derived.Test.YtpfmbaidflhamaaGreatDoorSxR
set_option linter.unusedVariables false
set_option linter.unusedSimpArgs false
set_option maxHeartbeats 4000000
namespace Km
open Sx Go M Vc Lm Dt
abbrev Nb:=Bool×List Int
def Lg (l:List Nb) (w:Nat) (f:Nat→Int):Prop:=l.length=w∧∀ c,c < w→∃ z,l[c]?=some z∧Bg (f c) z.1 z.2
def Tg (T:List (List Nb)) (n w:Nat) (A:Mx):Prop:=T.length=n∧∀ r,r < n→∃ l,T[r]?=some l∧Lg l w (A r)
theorem Lg.congr {l:List Nb} {w:Nat} {f g:Nat→Int} (h:Lg l w f) (e:∀ c,c < w→f c=g c):Lg l w g:=⟨h.1,fun c hc=>by obtain ⟨z,h1,h2⟩:=h.2 c hc; exact ⟨z,h1,h2.cast (e c hc)⟩⟩
theorem Tg.congr {T:List (List Nb)} {n w:Nat} {A B:Mx} (h:Tg T n w A) (e:∀ r c,r < n→c < w→A r c=B r c):Tg T n w B:=⟨h.1,fun r hr=>by obtain ⟨l,h1,h2⟩:=h.2 r hr; exact ⟨l,h1,h2.congr fun c hc=>e r c hr hc⟩⟩
theorem Lg.set {l:List Nb} {w:Nat} {f:Nat→Int} (h:Lg l w f) {c:Nat} (hc:c < w) {z:Nb} {v:Int} (hz:Bg v z.1 z.2):Lg (l.set c z) w (fun j=>if j=c then v else f j):=by
  refine ⟨by rw [List.length_set]; exact h.1,fun j hj=>?_⟩
  by_cases e:j=c
  · subst e
    exact ⟨z,by rw [List.getElem?_set_self]; rw [h.1]; exact hc,hz.cast (show v=(if j=j then v else f j) from (if_pos rfl).symm)⟩
  · obtain ⟨y,h1,h2⟩:=h.2 j hj
    exact ⟨y,by rw [List.getElem?_set_ne (fun h=>e h.symm)]; exact h1,h2.cast (show f j=(if j=c then v else f j) from (if_neg e).symm)⟩
theorem Tg.set {T:List (List Nb)} {n w:Nat} {A:Mx} (h:Tg T n w A) {k:Nat} (hk:k < n) {l:List Nb} {g:Nat→Int} (hl:Lg l w g):Tg (T.set k l) n w (up A k g):=by
  refine ⟨by rw [List.length_set]; exact h.1,fun r hr=>?_⟩
  by_cases e:r=k
  · subst e
    exact ⟨l,by rw [List.getElem?_set_self]; rw [h.1]; exact hk,hl.congr fun c _=>up_in.symm⟩
  · obtain ⟨m,h1,h2⟩:=h.2 r hr
    exact ⟨m,by rw [List.getElem?_set_ne (fun h=>e h.symm)]; exact h1,h2.congr fun c _=>(up_out e).symm⟩
theorem at_some {α:Type} {l:List α} {k:Nat} {x:α} (hx:l[k]?=some x) {i:Int} (hi:i=(k:Int)):getI l i=some x:=by
  subst hi
  have:=(List.getElem?_eq_some_iff.1 hx).1
  exact Ret.eq (by rw [ret_get]; exact ⟨by omega,by omega,fun y hy=>by rw [Int.toNat_natCast] at hy; exact Option.some.inj (hy.symm.trans hx)⟩)
theorem set_some {α:Type} {l:List α} {k:Nat} {x:α} (hk:k < l.length) {i:Int} (hi:i=(k:Int)):setI l i x=some (l.set k x):=by
  subst hi
  exact Ret.eq (by rw [ret_set,Int.toNat_natCast]; exact ⟨by omega,by omega,rfl⟩)
theorem Lg.at {l:List Nb} {w:Nat} {f:Nat→Int} (h:Lg l w f) {c:Nat} (hc:c < w) {i:Int} (hi:i=(c:Int)):∃ z,getI l i=some z∧Bg (f c) z.1 z.2:=by
  obtain ⟨z,h1,h2⟩:=h.2 c hc
  exact ⟨z,at_some h1 hi,h2⟩
theorem Tg.at {T:List (List Nb)} {n w:Nat} {A:Mx} (h:Tg T n w A) {r:Nat} (hr:r < n) {i:Int} (hi:i=(r:Int)):∃ l,getI T i=some l∧Lg l w (A r):=by
  obtain ⟨l,h1,h2⟩:=h.2 r hr
  exact ⟨l,at_some h1 hi,h2⟩
theorem negP_bg {s:Bool} {a:List Int} (ha:LW a) (hn:a.length≤1000000):Ret (integer_Neg s a) (fun r=>Bg (- sv s a) r.1 r.2):=by
  unfold integer_Neg
  rw [clone_ok hn,obs,ret_bind]
  exact (big_bg (!s) ha hn).mono fun r hr=>⟨_,rfl,hr.cast (sv_not s a)⟩
theorem absP_bg {s:Bool} {a:List Int} (ha:LW a) (hn:a.length≤1000000):Ret (integer_Abs s a) (fun r=>Bg (lv a) r.1 r.2):=by
  unfold integer_Abs
  rw [clone_ok hn,obs,ret_bind]
  exact (big_bg false ha hn).mono fun r hr=>⟨_,rfl,hr⟩
theorem quoP_bg {s t:Bool} {a b:List Int} (ha:LW a) (hb:LW b) (hn:a.length≤800) (hm:b.length≤800) {h:Int} (hne:sv t b≠0) (he:sv s a=sv t b*h):Ret (integer_Quo s a t b) (fun r=>Bg h r.1 r.2.1∧r.2.2=0):=by
  unfold integer_Quo
  rw [ret_bind]
  refine (divmod_bg (s:=s) (t:=t) ha hb hn hm hne).mono ?_
  rintro ⟨a,b,c,d,e⟩ ⟨hq,hr,h0⟩
  simp only at hq hr h0 ⊢
  subst h0
  rw [he,Int.mul_emod_right] at hr
  rw [he,Int.mul_ediv_cancel_left _ hne] at hq
  have hd:d=[]:=(lv_zero hr.1 hr.2.1).1 (by rw [hr.abs]; simp)
  subst hd
  rw [if_neg (by simp)]
  exact ⟨_,rfl,hq,rfl⟩
theorem Bg.lenB {v:Int} {s:Bool} {l:List Int} (h:Bg v s l) {M:Int} {m:Nat} (hb:Bd M v) (hM:M < pw m):l.length≤m:=h.len (by have:=hb.1; omega) (by have:=hb.2; omega)
theorem sweep_ok {row top:List Nb} {w:Nat} {f g h:Nat→Int} {M a p d:Int} (hM:M < pw 60) (hrow:Lg row w f) (htop:Lg top w g) {za zp zd:Nb} (ha:Bg a za.1 za.2) (hp:Bg p zp.1 zp.2) (hd:Bg d zd.1 zd.2) (hd0:d≠0)
    (bf:∀ j,j < w→Bd M (f j)) (bg:∀ j,j < w→Bd M (g j)) (ba:Bd M a) (bp:Bd M p) (bd:Bd M d) (he:∀ j,j < w→p*f j - a*g j=d*h j) (hw:w≤1000):
    Ret (exact_sweep row top za.1 za.2 zp.1 zp.2 zd.1 zd.2) (fun r=>Lg r w h):=by
  unfold exact_sweep
  rw [ret_bind]
  have hM0:=ba.nn
  have la:=ha.lenB ba hM
  have lp:=hp.lenB bp hM
  have ld:=hd.lenB bd hM
  have hMM:M*M < pw 120:=by
    have h1:M*M≤M*pw 60:=Int.mul_le_mul_of_nonneg_left (by omega) hM0
    have h2:M*pw 60 < pw 60*pw 60:=Int.mul_lt_mul_of_pos_right hM (pw_pos 60)
    have h3:pw 120=pw 60*pw 60:=pw_add 60 60
    omega
  refine (ret_loop (Post:=fun r:List Nb=>Lg r w h) w (fun k (s:List Nb×Int)=>s.2=(k:Int)∧Lg s.1 w (fun j=>if j < k then h j else f j)) ⟨rfl,hrow.congr fun c _=>by rw [if_neg (by omega)]⟩ ?_ (by omega)).mono fun r hr=>⟨_,rfl,hr⟩
  rintro k ⟨r,_⟩ hk ⟨rfl,hI⟩
  simp only at hI
  unfold exact_sweep_l1
  simp only
  rw [htop.1,ret_if]
  refine ⟨fun hlt=>?_,fun hge=>⟨_,rfl,hI.congr fun c hc=>by rw [if_pos (by omega)]⟩⟩
  have hkw:k < w:=by omega
  obtain ⟨y,hy,hyB⟩:=htop.at hkw rfl
  obtain ⟨x,hx,hxB⟩:=hI.at hkw rfl
  have hxB:Bg (f k) x.1 x.2:=hxB.cast (show (if k < k then h k else f k)=f k from if_neg (by omega))
  have lx:=hxB.lenB (bf k hkw) hM
  have ly:=hyB.lenB (bg k hkw) hM
  rw [hy,obs,hx,obs,ret_bind]
  refine (mul_bg (s:=zp.1) (t:=x.1) hp.1 hxB.1 (by omega) (by omega)).mono fun u hu=>?_
  rw [hp.sv,hxB.sv] at hu
  have lu:=hu.lenB (bp.mul (bf k hkw)) hMM
  rw [ret_bind]
  refine (mul_bg (s:=za.1) (t:=y.1) ha.1 hyB.1 (by omega) (by omega)).mono fun v hv=>?_
  rw [ha.sv,hyB.sv] at hv
  have lv':=hv.lenB (ba.mul (bg k hkw)) hMM
  rw [ret_bind]
  refine (sub_bg (s:=u.1) (t:=v.1) hu.1 hv.1 (by omega) (by omega)).mono fun q hq=>?_
  rw [hu.sv,hv.sv] at hq
  have h2M:M*M+M*M < pw 121:=by
    have:=pw_pos 120
    have e:pw 121=B*pw 120:=rfl
    have e2:B=4294967296:=rfl
    rw [e,e2]; omega
  have lq:=hq.lenB ((bp.mul (bf k hkw)).sub (ba.mul (bg k hkw))) h2M
  rw [ret_bind]
  refine (quoP_bg (s:=q.1) (t:=zd.1) (h:=h k) hq.1 hd.1 (by omega) (by omega) (by rw [hd.sv]; exact hd0) (by rw [hq.sv,hd.sv]; exact he k hkw)).mono ?_
  rintro ⟨t1,t2,t3⟩ ⟨ht,_⟩
  simp only at ht ⊢
  rw [set_some (by rw [hI.1]; exact hkw) rfl,obs]
  refine ⟨_,rfl,hkw,by show wa .i64 (k:Int) 1=_; rw [wa_i (by omega) (by omega)]; rfl,?_⟩
  refine (hI.set hkw (z:=(t1,t2)) ht).congr fun c hc=>?_
  by_cases e:c=k
  · subst e; rw [if_pos rfl,if_pos (by omega)]
  · rw [if_neg e]
    by_cases hck:c < k
    · rw [if_pos hck,if_pos (by omega)]
    · rw [if_neg hck,if_neg (by omega)]
end Km
namespace Km
open Sx Go M Vc Lm Dt
def Okb (n w:Nat) (A:Mx) (M:Int):Prop:=∀ (A':Mx) (cl:Nat→Nat) (q i j:Nat),(∀ i,i < n→∃ i',i' < n∧∀ j,A' i j=A i' j)→q≤n→(∀ s,s < q→cl s < w)→i < n→j < w→Bd M (Rk A' cl q i j)∧Bd M (det q (Pm_ A' cl))
theorem pow_mono {X:Int} (hX:1≤X) {m n:Nat} (h:m≤n):X ^ m≤X ^ n:=by
  obtain ⟨d,rfl⟩:=Nat.exists_eq_add_of_le h
  induction d with
  | zero=>exact Int.le_refl _
  | succ d ih=>
    have h1:=ih (by omega)
    have h2:=Dt.pow_nn (show 0≤X by omega) (m+d)
    have h3:X ^ (m+d)*1≤X ^ (m+d)*X:=Int.mul_le_mul_of_nonneg_left hX h2
    rw [show m+(d+1)=(m+d)+1 by omega,Int.pow_succ]
    omega
theorem okb_of {n w K:Nat} {M:Int} {A:Mx} (hM:1≤M) (hK:1≤K) (hnK:n≤K) (hA:∀ i j,i < n→j < w→Bd M (A i j)):Okb n w A (2*(K*M) ^ (n+2)):=by
  intro A' cl q i j hp hq hc hi hj
  have hKM:1≤(K:Int)*M:=by
    have:(1:Int)*1≤K*M:=Int.mul_le_mul (by omega) hM (by omega) (by omega)
    omega
  have hA':∀ i j,i < n→j < w→Bd M (A' i j):=by
    intro i j hi hj
    obtain ⟨i',h1,h2⟩:=hp i hi
    rw [h2]; exact hA i' j h1 hj
  obtain ⟨h1,h2⟩:=Rk_bd (K:=K) (n:=n) (w:=w) (A:=A') (col:=cl) (k:=q) (i:=i) (j:=j) hM hK hA' hq (by omega) hc hi hj
  have h3:=pow_mono hKM (show q+2≤n+2 by omega)
  exact ⟨h1.mono (by omega),h2.mono (by omega)⟩
section
variable {n w cw:Nat} {A A':Mx} {col:Nat→Nat} {k c:Nat} {sn M:Int}
theorem bar_rows (h:Bar n cw A A' col k c sn):∀ i,i < n→∃ i',i' < n∧∀ j,A' i j=A i' j:=by
  obtain ⟨x,xi,hx,hA⟩:=h.perm
  exact fun i hi=>⟨x i,(hx i hi).1,fun j=>hA i j hi⟩
theorem sw_rows (h:∀ i,i < n→∃ i',i' < n∧∀ j,A' i j=A i' j) {a b:Nat} (ha:a < n) (hb:b < n):∀ i,i < n→∃ i',i' < n∧∀ j,sw A' a b i j=A i' j:=by
  intro i hi
  by_cases e1:i=a
  · obtain ⟨i',h1,h2⟩:=h b hb
    exact ⟨i',h1,fun j=>by unfold sw; rw [if_pos e1]; exact h2 j⟩
  · by_cases e2:i=b
    · obtain ⟨i',h1,h2⟩:=h a ha
      exact ⟨i',h1,fun j=>by unfold sw; rw [if_neg e1,if_pos e2]; exact h2 j⟩
    · obtain ⟨i',h1,h2⟩:=h i hi
      exact ⟨i',h1,fun j=>by unfold sw; rw [if_neg e1,if_neg e2]; exact h2 j⟩
theorem j1_ok (hM:M < pw 60) (hR:Okb n w A M) (h:Bar n cw A A' col k c sn) (hcw:cw≤w) (hw:w≤1000) (hn:n≤1000) (hc:c < cw) {a:Nat} (hka:k≤a) (han:a < n) (hne:Rk A' col k a c≠0)
    {T:List (List Nb)} (hT:Tg T n w (Rk (sw A' k a) col k)) {pv:List Int} (hpv:pv.length≤1000) {zd:Nb} (hd:Bg (det k (Pm_ A' col)) zd.1 zd.2) {s':Int}:
    Ret (exact_reduced_step_j1 (k:Int) (c:Int) zd.1 zd.2 pv T s') (fun r=>Tg r.1 n w (Rk (sw A' k a) (setC col k c) (k+1))∧r.2.1=pv++[(c:Int)]∧Bg (det (k+1) (Pm_ (sw A' k a) (setC col k c))) r.2.2.1 r.2.2.2.1∧r.2.2.2.2=s'):=by
  obtain ⟨hB',hdet,htop,hstep⟩:=h.pivot hc hka han hne
  have hkn:k < n:=by omega
  have hrows:=bar_rows h
  have hrows':=sw_rows hrows hkn han
  have hlt:∀ s,s < k→col s < w:=fun s hs=>by have:=h.lt s hs; have:=h.cw; omega
  have hlt':∀ s,s < k+1→setC col k c s < w:=fun s hs=>by have:=hB'.lt s hs; have:=hB'.cw; omega
  have bR:∀ i j,i < n→j < w→Bd M (Rk (sw A' k a) col k i j):=fun i j hi hj=>(hR _ _ _ _ _ hrows' h.kn hlt hi hj).1
  have bd:Bd M (det k (Pm_ A' col)):=(hR _ col k 0 c hrows h.kn hlt (by omega) (by omega)).2
  have hk:∀ j,Rk (sw A' k a) col k k j=Rk A' col k a j:=fun j=>by rw [Rk_sw hka,if_pos rfl]
  unfold exact_reduced_step_j1
  obtain ⟨lk,h1,h2⟩:=hT.at hkn (i:=(k:Int)) rfl
  obtain ⟨nx,h3,h4⟩:=h2.at (show c < w by omega) (i:=(c:Int)) rfl
  rw [hk] at h4
  rw [h1,obs,h3,obs,ret_bind]
  refine (ret_loop (Post:=fun r:List (List Nb)=>Tg r n w (Rk (sw A' k a) (setC col k c) (k+1))) n (fun i (s:List (List Nb)×Int)=>s.2=(i:Int)∧Tg s.1 n w (fun r j=>if r < i∧r≠k then Rk (sw A' k a) (setC col k c) (k+1) r j else Rk (sw A' k a) col k r j)) ⟨rfl,hT.congr fun r j _ _=>by rw [if_neg (by omega)]⟩ ?_ (by omega)).mono ?_
  · rintro i ⟨T',_⟩ hi ⟨rfl,hI⟩
    simp only at hI
    unfold exact_reduced_step_l4
    simp only
    rw [hT.1,ret_if]
    refine ⟨fun hlt2=>?_,fun hge=>⟨_,rfl,hI.congr fun r j hr hj=>?_⟩⟩
    · have hin:i < n:=by omega
      obtain ⟨row,hr1,hr2⟩:=hI.at hin (i:=(i:Int)) rfl
      have hr2:Lg row w (Rk (sw A' k a) col k i):=hr2.congr fun j _=>if_neg (by omega)
      have hwa:wa .i64 (i:Int) 1=((i+1:Nat):Int):=by rw [wa_i (by omega) (by omega)]; rfl
      rw [hr1,obs,ret_if]
      unfold exact_reduced_step_j5
      rw [hwa]
      refine ⟨fun he=>⟨_,rfl,hin,rfl,hI.congr fun r j _ _=>?_⟩,fun he=>?_⟩
      · have hik:i=k:=by omega
        by_cases hc2:r < i∧r≠k
        · rw [if_pos hc2,if_pos ⟨by omega,hc2.2⟩]
        · rw [if_neg hc2,if_neg (by omega)]
      · have hik:i≠k:=by omega
        obtain ⟨top,ht1,ht2⟩:=hI.at hkn (i:=(k:Int)) rfl
        have ht2:Lg top w (Rk A' col k a):=ht2.congr fun j _=>(if_neg (by omega)).trans (hk j)
        obtain ⟨fz,hf1,hf2⟩:=hr2.at (show c < w by omega) (i:=(c:Int)) rfl
        have hne2:neI (i:Int) (k:Int)=some ():=by unfold neI; rw [if_neg he]
        rw [ht1,obs,hf1,obs,hne2,obs,ret_bind]
        have bA:∀ j,j < w→Bd M (Rk A' col k a j):=fun j hj=>by rw [← hk]; exact bR k j hkn hj
        refine (sweep_ok (h:=Rk (sw A' k a) (setC col k c) (k+1) i) hM hr2 ht2 hf2 h4 hd h.d (fun j hj=>bR i j hin hj) bA (bR i c hin (by omega)) (bA c (by omega)) bd (fun j hj=>hstep i j hik) hw).mono fun row' hrow'=>?_
        rw [set_some (by rw [hI.1]; exact hin) rfl,obs]
        refine ⟨_,rfl,hin,rfl,(hI.set hin hrow').congr fun r j hr hj=>?_⟩
        by_cases e:r=i
        · subst e
          rw [up_in,if_pos ⟨by omega,hik⟩]
        · rw [up_out e]
          by_cases hc2:r < i∧r≠k
          · rw [if_pos hc2,if_pos ⟨by omega,hc2.2⟩]
          · rw [if_neg hc2,if_neg (by omega)]
    · by_cases e:r=k
      · subst e
        rw [if_neg (by omega),hk]; exact (htop j).symm
      · rw [if_pos ⟨by omega,e⟩]
  · intro T' hT'
    rw [ret_bind,ret_app]
    refine ⟨by simp only [List.length_cons,List.length_nil]; omega,_,rfl,hT',rfl,?_,rfl⟩
    rw [hdet]; exact h4
theorem step_ok (hM:M < pw 60) (hR:Okb n w A M) (h:Bar n cw A A' col k c sn) (hcw:cw≤w) (hw:w≤1000) (hn:n≤1000) (hc:c < cw) {a:Nat} (hka:k≤a) (han:a < n) (hne:Rk A' col k a c≠0)
    {T:List (List Nb)} (hT:Tg T n w (Rk A' col k)) {pv:List Int} (hpv:pv.length≤1000) {zd:Nb} (hd:Bg (det k (Pm_ A' col)) zd.1 zd.2):
    Ret (exact_reduced_step T pv zd.1 zd.2 sn (c:Int) (k:Int) (a:Int)) (fun r=>Tg r.1 n w (Rk (sw A' k a) (setC col k c) (k+1))∧r.2.1=pv++[(c:Int)]∧Bg (det (k+1) (Pm_ (sw A' k a) (setC col k c))) r.2.2.1 r.2.2.2.1∧r.2.2.2.2=(if a=k then sn else -sn)):=by
  have hkn:k < n:=by omega
  unfold exact_reduced_step
  rw [ret_if]
  refine ⟨fun hlt=>?_,fun hge=>?_⟩
  · obtain ⟨la,h1,h2⟩:=hT.at han (i:=(a:Int)) rfl
    obtain ⟨lk,h3,h4⟩:=hT.at hkn (i:=(k:Int)) rfl
    rw [h1,obs,h3,obs,set_some (by rw [hT.1]; exact hkn) rfl,obs,set_some (by rw [List.length_set,hT.1]; exact han) rfl,obs]
    have hT':Tg ((T.set k la).set a lk) n w (Rk (sw A' k a) col k):=by
      refine ((hT.set hkn h2).set han h4).congr fun r j hr hj=>?_
      rw [Rk_sw hka]
      by_cases e1:r=k
      · subst e1; rw [if_pos rfl,up_out (by omega),up_in]
      · rw [if_neg e1]
        by_cases e2:r=a
        · subst e2; rw [if_pos rfl,up_in]
        · rw [if_neg e2,up_out e2,up_out e1]
    have hs:wneg .i64 sn= -sn:=by
      rcases h.sg.1 with rfl | rfl
      · exact IntWalk.i64_in _ ⟨by omega,by omega⟩
      · exact IntWalk.i64_in _ ⟨by omega,by omega⟩
    rw [hs,if_neg (by omega)]
    exact j1_ok hM hR h hcw hw hn hc hka han hne hT' hpv hd
  · have e:a=k:=by omega
    subst e
    rw [if_pos rfl]
    refine j1_ok hM hR h hcw hw hn hc hka han hne ?_ hpv hd
    refine hT.congr fun r j _ _=>?_
    rw [Rk_sw (Nat.le_refl _)]
    by_cases e1:r=a
    · subst e1; rw [if_pos rfl]
    · rw [if_neg e1,if_neg e1]
def EI (n w cw:Nat) (A:Mx) (c:Nat) (T:List (List Nb)) (pv:List Int) (zs:Bool) (zl:List Int) (sn:Int):Prop:=
  ∃ A' col k,Bar n cw A A' col k c sn∧Tg T n w (Rk A' col k)∧pv=(List.range k).map (fun s=>(col s:Int))∧Bg (det k (Pm_ A' col)) zs zl
theorem eliminate_ok (hM:M < pw 60) (hR:Okb n w A M) (hcw:cw≤w) (hw:w≤900) (hn:n≤900) {T:List (List Nb)} (hT:Tg T n w A):
    Ret (exact_eliminate T (cw:Int)) (fun r=>EI n w cw A cw r.1 r.2.1 r.2.2.1 r.2.2.2.1 r.2.2.2.2):=by
  unfold exact_eliminate
  rw [ret_bind]
  refine (from_bg (n:=1) (by omega) (by omega)).mono fun one hone=>?_
  rw [ret_bind]
  refine (ret_loop (Post:=fun r:List (List Nb)×List Int×Bool×List Int×Int=>EI n w cw A cw r.1 r.2.1 r.2.2.1 r.2.2.2.1 r.2.2.2.2) cw (fun c (s:List (List Nb)×List Int×Bool×List Int×Int×Int)=>s.2.2.2.2.2=(c:Int)∧c≤cw∧EI n w cw A c s.1 s.2.1 s.2.2.1 s.2.2.2.1 s.2.2.2.2.1) ⟨rfl,by omega,A,id,0,Bar.start,hT.congr fun r j _ _=>Rk_zero.symm,rfl,hone.cast (show (1:Int)=det 0 (Pm_ A id) from rfl)⟩ ?_ (by omega)).mono fun r hr=>⟨_,rfl,hr⟩
  rintro c ⟨T,pv,zs,zl,sn,_⟩ hc ⟨rfl,hcc,A',col,k,hB,hT,hpv,hd⟩
  simp only at hB hT hpv hd
  unfold exact_eliminate_l9
  simp only
  rw [ret_if]
  refine ⟨fun hlt=>?_,fun hge=>⟨_,rfl,by have e:c=cw:=(by omega); subst e; exact ⟨A',col,k,hB,hT,hpv,hd⟩⟩⟩
  have hccw:c < cw:=by omega
  have hpl:pv.length=k:=by rw [hpv,List.length_map,List.length_range]
  have hkn:=hB.kn
  have hrows:=bar_rows hB
  have hlt':∀ s,s < k→col s < w:=fun s hs=>by have:=hB.lt s hs; have:=hB.cw; omega
  have hwa:wa .i64 (c:Int) 1=((c+1:Nat):Int):=by rw [wa_i (by omega) (by omega)]; rfl
  rw [ret_bind]
  refine (ret_loop (Post:=fun o=>(o=.inr ()∧∀ i,k≤i→i < n→Rk A' col k i c=0)∨∃ r,o=.inl r∧EI n w cw A (c+1) r.1 r.2.1 r.2.2.1 r.2.2.2.1 r.2.2.2.2) (n - k) (fun i (s:Int)=>s=((k+i:Nat):Int)∧k+i≤n∧∀ j,k≤j→j < k+i→Rk A' col k j c=0) ⟨by rw [hpl]; rfl,by omega,fun j h1 h2=>absurd h2 (by omega)⟩ ?_ (by omega)).mono ?_
  · rintro i _ hi ⟨rfl,hin,hz⟩
    unfold exact_eliminate_l13
    rw [hT.1,ret_if]
    refine ⟨fun hl2=>?_,fun hge=>⟨_,rfl,.inl ⟨rfl,fun j h1 h2=>hz j h1 (by omega)⟩⟩⟩
    have han:k+i < n:=by omega
    obtain ⟨row,h1,h2⟩:=hT.at han (i:=((k+i:Nat):Int)) rfl
    obtain ⟨x,h3,h4⟩:=h2.at (show c < w by omega) (i:=(c:Int)) rfl
    have bx:=(hR _ _ _ _ _ hrows hkn hlt' han (show c < w by omega)).1
    have lx:=h4.lenB bx hM
    rw [h1,obs,h3,obs,sign_bg h4.1 (by omega),obs,h4.sv,ret_if]
    refine ⟨fun h0=>⟨_,rfl,by omega,?_,by omega,fun j hj1 hj2=>?_⟩,fun h0=>?_⟩
    · rw [wa_i (by omega) (by omega)]; omega
    · by_cases e:j=k+i
      · subst e
        revert h0; split
        · omega
        · split
          · omega
          · intro _; omega
      · exact hz j hj1 (by omega)
    · have hne:Rk A' col k (k+i) c≠0:=fun h=>h0 (by rw [h]; rfl)
      have hpl':(pv.length:Int)=(k:Int):=by rw [hpl]
      rw [hpl',ret_bind]
      refine (step_ok (zd:=(zs,zl)) hM hR hB hcw (by omega) (by omega) hccw (by omega) han hne hT (by omega) hd).mono ?_
      rintro ⟨T',pv',zs',zl',sn'⟩ ⟨g1,g2,g3,g4⟩
      simp only at g1 g2 g3 g4 ⊢
      refine ⟨_,rfl,.inr ⟨_,rfl,sw A' k (k+i),setC col k c,k+1,?_,g1,?_,g3⟩⟩
      · have:=(hB.pivot hccw (by omega) han hne).1
        show Bar n cw A (sw A' k (k+i)) (setC col k c) (k+1) (c+1) sn'
        rw [g4]; exact this
      · show pv'=_
        rw [g2,hpv,List.range_succ,List.map_append]
        congr 1
        · refine List.map_congr_left fun s hs=>?_
          rw [setC_lt (List.mem_range.1 hs)]
        · show [(c:Int)]=[((setC col k c k:Nat):Int)]
          rw [setC_at]
  · rintro _ (⟨rfl,hz⟩ | ⟨⟨T',pv',zs',zl',sn'⟩,rfl,hE⟩)
    · show Ret (exact_eliminate_j12 _ _ _ _ _ _) _
      unfold exact_eliminate_j12
      exact ⟨_,rfl,hccw,hwa,by omega,A',col,k,hB.none hccw hz,hT,hpv,hd⟩
    · show Ret (exact_eliminate_j12 _ _ _ _ _ _) _
      unfold exact_eliminate_j12
      exact ⟨_,rfl,hccw,hwa,by omega,hE⟩
end
end Km
namespace Km
open Sx Go M Vc Lm Dt
theorem Lg.snoc {l:List Nb} {k:Nat} {f:Nat→Int} (h:Lg l k f) {z:Nb} (hz:Bg (f k) z.1 z.2):Lg (l++[z]) (k+1) f:=by
  refine ⟨by rw [List.length_append,h.1]; rfl,fun c hc=>?_⟩
  by_cases e:c < k
  · obtain ⟨y,h1,h2⟩:=h.2 c e
    exact ⟨y,by rw [List.getElem?_append_left (by rw [h.1]; exact e)]; exact h1,h2⟩
  · obtain rfl:c=k:=by omega
    exact ⟨z,by rw [List.getElem?_append_right (by rw [h.1]; omega),h.1,Nat.sub_self]; rfl,hz⟩
theorem Tg.snoc {T:List (List Nb)} {k w:Nat} {A:Mx} (h:Tg T k w A) {l:List Nb} (hl:Lg l w (A k)):Tg (T++[l]) (k+1) w A:=by
  refine ⟨by rw [List.length_append,h.1]; rfl,fun c hc=>?_⟩
  by_cases e:c < k
  · obtain ⟨y,h1,h2⟩:=h.2 c e
    exact ⟨y,by rw [List.getElem?_append_left (by rw [h.1]; exact e)]; exact h1,h2⟩
  · obtain rfl:c=k:=by omega
    exact ⟨l,by rw [List.getElem?_append_right (by rw [h.1]; omega),h.1,Nat.sub_self]; rfl,hl⟩
section
variable {n w:Nat} {A:Mx} {T:List (List Nb)}
theorem xcolumns_ok (hT:Tg T n w A):exact_columns T=some (if n=0 then 0 else (w:Int)):=by
  unfold exact_columns
  by_cases h0:n=0
  · rw [if_pos (by rw [hT.1]; omega),if_pos h0]
  · rw [if_neg (by rw [hT.1]; omega),if_neg h0]
    obtain ⟨l,h1,h2⟩:=hT.at (r:=0) (by omega) (i:=0) rfl
    rw [h1,obs,h2.1]
theorem xcheck_ok (hT:Tg T n w A) (hn:n≤16) (hw:w≤16):exact_check T=some 0:=by
  have hc:slices_ContainsFunc_apiBig T (if n=0 then 0 else (w:Int))=some false:=by
    refine Ret.eq ?_
    unfold slices_ContainsFunc_apiBig slices_IndexFunc_apiBig
    rw [ret_bind,ret_bind]
    refine (ret_loop (Post:=fun o=>o=.inl ()) n (fun k (i:Int)=>i=(k:Int)) rfl ?_ (by omega)).mono ?_
    · rintro k _ hk rfl
      unfold slices_IndexFunc_apiBig_l1
      rw [hT.1,ret_if]
      refine ⟨fun hlt=>?_,fun _=>⟨_,rfl,rfl⟩⟩
      obtain ⟨l,h1,h2⟩:=hT.at (r:=k) (by omega) (i:=(k:Int)) rfl
      unfold exact_check_1
      rw [h1,obs,obs,h2.1,if_neg (show ¬ n=0 by omega)]
      simp only [decide_true,Bool.not_true,Bool.false_eq_true,if_false]
      exact ⟨_,rfl,by omega,by show wa .i64 (k:Int) 1=_; rw [wa_i (by omega) (by omega)]; rfl⟩
    · rintro _ rfl
      exact ⟨_,rfl,_,rfl,rfl⟩
  unfold exact_check
  rw [xcolumns_ok hT,obs,hc,obs,if_neg (by simp),hT.1,if_neg]
  simp only [Bool.or_eq_true,decide_eq_true_eq,not_or]
  split<;>omega
theorem xsquare_ok (hT:Tg T n n A) (hn:n≤16):exact_square T=some 0:=by
  unfold exact_square
  rw [xcheck_ok hT hn hn,obs,if_pos rfl,xcolumns_ok hT,obs,hT.1]
  have:(!(decide ((n:Int)=if n=0 then 0 else (n:Int))))=false:=by split<;>simp<;>omega
  rw [this,obs,if_neg (by simp)]
theorem normZ_ok {v:Int} {z:Nb} (hz:Bg v z.1 z.2) (hl:z.2.length≤1000000):Ret (integer_Norm z.1 z.2) (fun r=>Bg v r.1 r.2):=(normP_bg (s:=z.1) hz.1 hl).mono fun r hr=>by rw [hz.sv] at hr; exact hr
theorem rowtwin_ok {row:List Nb} {f:Nat→Int} {M:Int} (hM:M < pw 60) (hrow:Lg row w f) (bf:∀ j,j < w→Bd M (f j)) (hw:w≤1000):Ret (loop (exact_twin_l6 row) ([],0)) (fun o=>Lg o w f):=by
  refine ret_loop (Post:=fun o:List Nb=>Lg o w f) w (fun k (s:List Nb×Int)=>s.2=(k:Int)∧Lg s.1 k f) ⟨rfl,rfl,fun c hc=>absurd hc (by omega)⟩ ?_ (by omega)
  rintro k ⟨o,_⟩ hk ⟨rfl,hI⟩
  simp only at hI
  unfold exact_twin_l6
  simp only
  rw [hrow.1,ret_if]
  refine ⟨fun hlt=>?_,fun hge=>⟨_,rfl,by have e:k=w:=(by omega); subst e; exact hI⟩⟩
  have hkw:k < w:=by omega
  obtain ⟨z,h1,h2⟩:=hrow.at hkw (i:=(k:Int)) rfl
  have lz:=h2.lenB (bf k hkw) hM
  rw [h1,obs,ret_bind]
  refine (normZ_ok h2 (by omega)).mono fun r hr=>?_
  rw [ret_bind,ret_app]
  refine ⟨by rw [hI.1]; simp only [List.length_cons,List.length_nil]; omega,_,rfl,hkw,by show wa .i64 (k:Int) 1=_; rw [wa_i (by omega) (by omega)]; rfl,hI.snoc (z:=(r.1,r.2)) hr⟩
theorem twin0_ok {M:Int} (hM:M < pw 60) (hT:Tg T n w A) (bA:∀ i j,i < n→j < w→Bd M (A i j)) (hn:n≤1000) (hw:w≤1000):Ret (exact_twin T []) (fun o=>Tg o n w A):=by
  unfold exact_twin
  rw [ret_bind]
  refine (ret_loop (Post:=fun o:List (List Nb)=>Tg o n w A) n (fun k (s:List (List Nb)×Int)=>s.2=(k:Int)∧Tg s.1 k w A) ⟨rfl,rfl,fun c hc=>absurd hc (by omega)⟩ ?_ (by omega)).mono fun r hr=>⟨_,rfl,hr⟩
  rintro k ⟨o,_⟩ hk ⟨rfl,hI⟩
  simp only at hI
  unfold exact_twin_l5
  simp only
  rw [hT.1,ret_if]
  refine ⟨fun hlt=>?_,fun hge=>⟨_,rfl,by have e:k=n:=(by omega); subst e; exact hI⟩⟩
  have hkn:k < n:=by omega
  obtain ⟨row,h1,h2⟩:=hT.at hkn (i:=(k:Int)) rfl
  rw [h1,obs,ret_bind]
  refine (rowtwin_ok hM h2 (fun j hj=>bA k j hkn hj) hw).mono fun r hr=>?_
  rw [if_neg (by simp)]
  unfold exact_twin_j7
  rw [ret_bind,ret_app]
  exact ⟨by rw [hI.1]; simp only [List.length_cons,List.length_nil]; omega,_,rfl,hkn,by show wa .i64 (k:Int) 1=_; rw [wa_i (by omega) (by omega)]; rfl,hI.snoc hr⟩
def aug (A:Mx) (w:Nat) (g:Nat→Int):Mx:=fun r c=>if c=w then g r else A r c
theorem twin1_ok {M:Int} (hM:M < pw 60) (hT:Tg T n w A) (bA:∀ i j,i < n→j < w→Bd M (A i j)) {b:List Nb} {g:Nat→Int} (hb:Lg b n g) (bg:∀ j,j < n→Bd M (g j)) (hn:n≤1000) (hw:w≤1000):Ret (exact_twin T b) (fun o=>Tg o n (w+1) (aug A w g)):=by
  unfold exact_twin
  rw [ret_bind]
  refine (ret_loop (Post:=fun o:List (List Nb)=>Tg o n (w+1) (aug A w g)) n (fun k (s:List (List Nb)×Int)=>s.2=(k:Int)∧Tg s.1 k (w+1) (aug A w g)) ⟨rfl,rfl,fun c hc=>absurd hc (by omega)⟩ ?_ (by omega)).mono fun r hr=>⟨_,rfl,hr⟩
  rintro k ⟨o,_⟩ hk ⟨rfl,hI⟩
  simp only at hI
  unfold exact_twin_l5
  simp only
  rw [hT.1,ret_if]
  refine ⟨fun hlt=>?_,fun hge=>⟨_,rfl,by have e:k=n:=(by omega); subst e; exact hI⟩⟩
  have hkn:k < n:=by omega
  obtain ⟨row,h1,h2⟩:=hT.at hkn (i:=(k:Int)) rfl
  obtain ⟨z,h3,h4⟩:=hb.at hkn (i:=(k:Int)) rfl
  have lz:=h4.lenB (bg k hkn) hM
  rw [h1,obs,ret_bind]
  refine (rowtwin_ok hM h2 (fun j hj=>bA k j hkn hj) hw).mono fun r hr=>?_
  rw [if_pos (by rw [hb.1]; omega),h3,obs,ret_bind]
  refine (normZ_ok h4 (by omega)).mono fun y hy=>?_
  rw [ret_bind,ret_app]
  refine ⟨by rw [hr.1]; simp only [List.length_cons,List.length_nil]; omega,?_⟩
  unfold exact_twin_j7
  rw [ret_bind,ret_app]
  have hr':Lg r w (aug A w g k):=hr.congr fun c hc=>by unfold aug; rw [if_neg (by omega)]
  have hrow:Lg (r++[(y.1,y.2)]) (w+1) (aug A w g k):=hr'.snoc (z:=(y.1,y.2)) (hy.cast (by unfold aug; rw [if_pos rfl]))
  exact ⟨by rw [hI.1]; simp only [List.length_cons,List.length_nil]; omega,_,rfl,hkn,by show wa .i64 (k:Int) 1=_; rw [wa_i (by omega) (by omega)]; rfl,hI.snoc hrow⟩
theorem turned_ok {R:List (List Nb)} {pv:List Int} {zs:Bool} {zl:List Int} {sg' D v:Int} {z:Nb} (hD:Bg D zs zl) (hz:Bg v z.1 z.2) (l1:zl.length≤1000) (l2:z.2.length≤1000):Ret (exact_reduced_turned R pv zs zl sg' z.1 z.2) (fun r=>Bg (if D < 0 then -v else v) r.1 r.2):=by
  unfold exact_reduced_turned
  rw [sign_bg hD.1 (by omega),obs,hD.sv,ret_if]
  refine ⟨fun hc=>?_,fun hc=>?_⟩
  · have hneg:D < 0:=by revert hc; split<;>(try split)<;>omega
    rw [ret_bind]
    refine (negP_bg (s:=z.1) hz.1 (by omega)).mono fun r hr=>⟨_,rfl,hr.cast ?_⟩
    rw [hz.sv,if_pos hneg]
  · have hneg:¬ D < 0:=fun h=>hc (by rw [if_pos h]; omega)
    rw [ret_bind]
    refine (normP_bg (s:=z.1) hz.1 (by omega)).mono fun r hr=>⟨_,rfl,hr.cast ?_⟩
    rw [hz.sv,if_neg hneg]
theorem xsolve_ok {M:Int} (hM:M < pw 60) (hT:Tg T n n A) (bA:∀ i j,i < n→j < n→Bd M (A i j)) {b:List Nb} {g:Nat→Int} (hb:Lg b n g) (bg:∀ j,j < n→Bd M (g j)) (hR:Okb n (n+1) (aug A n g) M) (hn:n≤16) (hn0:0 < n):
    Ret (exact_Solve T b) (fun r=>(r.2.2.2=9∧det n A=0)∨(r.2.2.2=0∧det n A≠0∧∃ x,Lg r.1 n x∧Bg (if det n A < 0 then - det n A else det n A) r.2.1 r.2.2.1∧(∀ i,i < n→Bd M (x i))∧∀ i,i < n→sm n (fun j=>A i j*x j)=(if det n A < 0 then - det n A else det n A)*g i)):=by
  have hda:det n (aug A n g)=det n A:=det_congr fun i j hi hj=>by unfold aug; rw [if_neg (by omega)]
  unfold exact_Solve
  rw [xsquare_ok hT hn,obs,if_pos rfl,hb.1,hT.1,if_pos rfl,ret_bind]
  refine (twin1_ok hM hT bA hb bg (by omega) (by omega)).mono fun T' hT'=>?_
  rw [ret_bind]
  refine (eliminate_ok (cw:=n) hM hR (by omega) (by omega) (by omega) hT').mono ?_
  rintro ⟨R,pv,zs,zl,sn⟩ ⟨A',col,k,hB,hTR,hpv,hd⟩
  simp only at hB hTR hpv hd ⊢
  have hpl:pv.length=k:=by rw [hpv,List.length_map,List.length_range]
  rw [hpl,ret_if]
  refine ⟨fun hlt=>⟨_,rfl,.inl ⟨rfl,?_⟩⟩,fun hge=>?_⟩
  · rw [← hda]; exact hB.det0 (by omega)
  · have hkn:=hB.kn
    obtain rfl:k=n:=by omega
    have hdet:=hB.det_ok
    rw [hda] at hdet
    have hsol:=hB.solve
    have hdn:=hB.d
    have hcols:∀ s,s < k→col s < k+1:=fun s hs=>by have:=hB.lt s hs; omega
    have bd:=(hR A' col k 0 0 (bar_rows hB) (Nat.le_refl k) hcols hn0 (by omega)).2
    have bX:∀ i,i < k→Bd M (Rk A' col k i k):=fun i hi=>(hR A' col k i k (bar_rows hB) (Nat.le_refl k) hcols hi (by omega)).1
    have ld:=hd.lenB bd hM
    generalize hD:det k (Pm_ A' col)=D at*
    have habs:(if det k A < 0 then - det k A else det k A)=if D < 0 then -D else D:=by
      rcases hB.sg.1 with h | h
      · rw [h,Int.one_mul] at hdet; rw [hdet]
      · rw [h] at hdet
        have:D= - det k A:=by omega
        rw [this]; split<;>split<;>omega
    have hne:det k A≠0:=by
      intro h; rw [h,Int.mul_zero] at hdet; exact hdn hdet
    rw [ret_bind]
    refine (ret_loop (Post:=fun o:List Nb=>Lg o k (fun i=>if D < 0 then - Rk A' col k i k else Rk A' col k i k)) k (fun i (s:List Nb×Int)=>s.2=(i:Int)∧Lg s.1 i (fun i=>if D < 0 then - Rk A' col k i k else Rk A' col k i k)) ⟨rfl,rfl,fun c hc=>absurd hc (by omega)⟩ ?_ (by omega)).mono ?_
    · rintro i ⟨o,_⟩ hi ⟨rfl,hI⟩
      simp only at hI
      unfold exact_Solve_l1
      simp only
      rw [hTR.1,hT.1,ret_if]
      refine ⟨fun hlt=>?_,fun hge2=>⟨_,rfl,by have e:i=k:=(by omega); subst e; exact hI⟩⟩
      have hik:i < k:=by omega
      obtain ⟨row,h1,h2⟩:=hTR.at hik (i:=(i:Int)) rfl
      obtain ⟨z,h3,h4⟩:=h2.at (show k < k+1 by omega) (i:=(k:Int)) rfl
      have lz:=h4.lenB (bX i hik) hM
      rw [h1,obs,h3,obs,ret_bind]
      refine (turned_ok hd h4 (by omega) (by omega)).mono fun r hr=>?_
      rw [ret_bind,ret_app]
      exact ⟨by rw [hI.1]; simp only [List.length_cons,List.length_nil]; omega,_,rfl,hik,by show wa .i64 (i:Int) 1=_; rw [wa_i (by omega) (by omega)]; rfl,hI.snoc (z:=(r.1,r.2)) hr⟩
    · intro xs hxs
      rw [ret_bind]
      refine (absP_bg (s:=zs) hd.1 (by omega)).mono fun r hr=>⟨_,rfl,.inr ⟨rfl,hne,_,hxs,?_,?_,?_⟩⟩
      · rw [hd.abs] at hr
        rw [habs]; exact hr
      · intro i hi
        have:=bX i hi
        split
        · exact this.neg
        · exact this
      · intro i hi
        rw [habs]
        have h1:=hsol i hi
        have e1:sm k (fun j=>aug A k g i j*Rk A' col k j k)=sm k (fun j=>A i j*Rk A' col k j k):=sm_congr fun j hj=>by unfold aug; rw [if_neg (by omega)]
        have e2:aug A k g i k=g i:=by unfold aug; rw [if_pos rfl]
        rw [e1,e2] at h1
        by_cases hn2:D < 0
        · rw [if_pos hn2]
          have e3:sm k (fun j=>A i j*(if D < 0 then - Rk A' col k j k else Rk A' col k j k))= -1*sm k (fun j=>A i j*Rk A' col k j k):=by
            rw [← sm_mul]; exact sm_congr fun j hj=>by rw [if_pos hn2]; grind
          rw [e3,h1]; grind
        · rw [if_neg hn2]
          have e3:sm k (fun j=>A i j*(if D < 0 then - Rk A' col k j k else Rk A' col k j k))=sm k (fun j=>A i j*Rk A' col k j k):=sm_congr fun j hj=>by rw [if_neg hn2]
          rw [e3,h1]
end
end Km
namespace Km
open Sx Go M Vc Lm Dt
section
variable {n w:Nat} {A:Mx} {T:List (List Nb)} {M:Int}
end
def mb (n:Nat):Int:=2*(((4:Nat):Int)*100) ^ (n+2)
theorem mb_ok {n:Nat} (hn:n≤4):mb n < pw 60∧100≤mb n:=by
  have e:(((4:Nat):Int)*100)=400:=by decide
  have h1:=pow_mono (X:=400) (by omega) (show n+2≤6 by omega)
  have h2:=pow_mono (X:=400) (by omega) (show 1≤n+2 by omega)
  have h3:pw 2≤pw 60:=pw_mono (by omega)
  have h4:(2:Int)*400 ^ 6 < pw 2:=by decide
  have h5:(400:Int) ^ 1=400:=by decide
  unfold mb
  rw [e]
  exact ⟨by omega,by omega⟩
end Km
namespace Km
open Sx Go M Vc Lm Dt
section
variable {n w:Nat} {A:Mx} {T:List (List Nb)} {M:Int}
theorem rcols_ok (hT:Tg T n w A):sparseref08_Cols T=some (if n=0 then 0 else (w:Int)):=by
  unfold sparseref08_Cols
  by_cases h0:n=0
  · rw [if_pos (by rw [hT.1]; omega),if_pos h0]
  · rw [if_neg (by rw [hT.1]; omega),if_neg h0]
    obtain ⟨l,h1,h2⟩:=hT.at (r:=0) (by omega) (i:=0) rfl
    rw [h1,obs,h2.1]
theorem transp_ok (hT:Tg T n w A) (hn:n≤900) (hw:w≤900) (hn0:0 < n∨w=0):Ret (sparseref08_Transpose T) (fun r=>Tg r w n (tp A)):=by
  unfold sparseref08_Transpose
  rw [ret_bind]
  refine (ret_loop (Post:=fun r:List (List Nb)=>Tg r w n (tp A)) w (fun j (s:List (List Nb)×Int)=>s.2=(j:Int)∧Tg s.1 j n (tp A)) ⟨rfl,rfl,fun c hc=>absurd hc (by omega)⟩ ?_ (by omega)).mono fun r hr=>⟨_,rfl,hr⟩
  rintro j ⟨o,_⟩ hj ⟨rfl,hI⟩
  simp only at hI
  unfold sparseref08_Transpose_l3
  simp only
  rw [rcols_ok hT,obs,ret_if]
  refine ⟨fun hlt=>?_,fun hge=>⟨_,rfl,by
    have e:j=w:=by
      by_cases h0:n=0
      · omega
      · rw [if_neg h0] at hge; omega
    subst e; exact hI⟩⟩
  have hjw:j < w:=by
    by_cases h0:n=0
    · rw [if_pos h0] at hlt; omega
    · rw [if_neg h0] at hlt; omega
  rw [ret_bind]
  refine (ret_loop (Post:=fun r:List Nb=>Lg r n (tp A j)) n (fun i (s:List Nb×Int)=>s.2=(i:Int)∧Lg s.1 i (tp A j)) ⟨rfl,rfl,fun c hc=>absurd hc (by omega)⟩ ?_ (by omega)).mono ?_
  · rintro i ⟨r,_⟩ hi ⟨rfl,hJ⟩
    simp only at hJ
    unfold sparseref08_Transpose_l4
    simp only
    rw [hT.1,ret_if]
    refine ⟨fun hlt2=>?_,fun hge=>⟨_,rfl,by have e:i=n:=(by omega); subst e; exact hJ⟩⟩
    have hin:i < n:=by omega
    obtain ⟨row,h1,h2⟩:=hT.at hin (i:=(i:Int)) rfl
    obtain ⟨z,h3,h4⟩:=h2.at hjw (i:=(j:Int)) rfl
    rw [h1,obs,h3,obs,ret_bind,ret_app]
    exact ⟨by rw [hJ.1]; simp only [List.length_cons,List.length_nil]; omega,_,rfl,hin,by show wa .i64 (i:Int) 1=_; rw [wa_i (by omega) (by omega)]; rfl,hJ.snoc (z:=(z.1,z.2)) h4⟩
  · intro r hr
    rw [ret_bind,ret_app]
    exact ⟨by rw [hI.1]; simp only [List.length_cons,List.length_nil]; omega,_,rfl,hjw,by show wa .i64 (j:Int) 1=_; rw [wa_i (by omega) (by omega)]; rfl,hI.snoc hr⟩
end
end Km
namespace Km
open Sx Go M Vc Lm Dt
def Rw (K:Nat) (v:Int) (z:Nb):Prop:=LW z.2∧z.2.length≤K∧sv z.1 z.2=v
def Lr (K:Nat) (l:List Nb) (w:Nat) (f:Nat→Int):Prop:=l.length=w∧∀ c,c < w→∃ z,l[c]?=some z∧Rw K (f c) z
def Tr (K:Nat) (T:List (List Nb)) (n w:Nat) (A:Mx):Prop:=T.length=n∧∀ r,r < n→∃ l,T[r]?=some l∧Lr K l w (A r)
theorem Rw.bd {K:Nat} {v:Int} {z:Nb} (h:Rw K v z):Bd (pw K) v:=by
  obtain ⟨h1,h2,h3⟩:=h
  have a1:=lv_nn h1
  have a2:=lv_lt h1
  have a3:=pw_mono h2
  unfold sv at h3
  split at h3
  · exact ⟨by omega,by omega⟩
  · exact ⟨by omega,by omega⟩
theorem Bg.rw {K:Nat} {v:Int} {z:Nb} (h:Bg v z.1 z.2) (hl:z.2.length≤K):Rw K v z:=⟨h.1,hl,h.sv⟩
theorem Lg.lr {K:Nat} {l:List Nb} {w:Nat} {f:Nat→Int} {M:Int} (h:Lg l w f) (hb:∀ j,j < w→Bd M (f j)) (hM:M < pw K):Lr K l w f:=⟨h.1,fun c hc=>by
  obtain ⟨z,h1,h2⟩:=h.2 c hc
  exact ⟨z,h1,h2.rw (h2.lenB (hb c hc) hM)⟩⟩
theorem Tg.tr {K:Nat} {T:List (List Nb)} {n w:Nat} {A:Mx} {M:Int} (h:Tg T n w A) (hb:∀ i j,i < n→j < w→Bd M (A i j)) (hM:M < pw K):Tr K T n w A:=⟨h.1,fun r hr=>by
  obtain ⟨l,h1,h2⟩:=h.2 r hr
  exact ⟨l,h1,h2.lr (fun j hj=>hb r j hr hj) hM⟩⟩
theorem Lr.at {K:Nat} {l:List Nb} {w:Nat} {f:Nat→Int} (h:Lr K l w f) {c:Nat} (hc:c < w) {i:Int} (hi:i=(c:Int)):∃ z,getI l i=some z∧Rw K (f c) z:=by
  obtain ⟨z,h1,h2⟩:=h.2 c hc
  exact ⟨z,at_some h1 hi,h2⟩
theorem Tr.at {K:Nat} {T:List (List Nb)} {n w:Nat} {A:Mx} (h:Tr K T n w A) {r:Nat} (hr:r < n) {i:Int} (hi:i=(r:Int)):∃ l,getI T i=some l∧Lr K l w (A r):=by
  obtain ⟨l,h1,h2⟩:=h.2 r hr
  exact ⟨l,at_some h1 hi,h2⟩
def Sh (T:List (List Nb)) (n w:Nat):Prop:=T.length=n∧∀ r,r < n→∃ l,T[r]?=some l∧l.length=w
theorem Tr.sh {K:Nat} {T:List (List Nb)} {n w:Nat} {A:Mx} (h:Tr K T n w A):Sh T n w:=⟨h.1,fun r hr=>by
  obtain ⟨l,h1,h2⟩:=h.2 r hr
  exact ⟨l,h1,h2.1⟩⟩
theorem Sh.at {T:List (List Nb)} {n w:Nat} (h:Sh T n w) {r:Nat} (hr:r < n) {i:Int} (hi:i=(r:Int)):∃ l,getI T i=some l∧l.length=w:=by
  obtain ⟨l,h1,h2⟩:=h.2 r hr
  exact ⟨l,at_some h1 hi,h2⟩
section
variable {n w K:Nat} {A:Mx} {T:List (List Nb)}
theorem ycolumns_ok (hT:Sh T n w):exact_columns T=some (if n=0 then 0 else (w:Int)):=by
  unfold exact_columns
  by_cases h0:n=0
  · rw [if_pos (by rw [hT.1]; omega),if_pos h0]
  · rw [if_neg (by rw [hT.1]; omega),if_neg h0]
    obtain ⟨l,h1,h2⟩:=hT.at (r:=0) (by omega) (i:=0) rfl
    rw [h1,obs,h2]
theorem yrcols_ok (hT:Sh T n w):sparseref08_Cols T=some (if n=0 then 0 else (w:Int)):=by
  unfold sparseref08_Cols
  by_cases h0:n=0
  · rw [if_pos (by rw [hT.1]; omega),if_pos h0]
  · rw [if_neg (by rw [hT.1]; omega),if_neg h0]
    obtain ⟨l,h1,h2⟩:=hT.at (r:=0) (by omega) (i:=0) rfl
    rw [h1,obs,h2]
theorem ycheck_ok (hT:Sh T n w) (hn:n≤16) (hw:w≤16):exact_check T=some 0:=by
  have hc:slices_ContainsFunc_apiBig T (if n=0 then 0 else (w:Int))=some false:=by
    refine Ret.eq ?_
    unfold slices_ContainsFunc_apiBig slices_IndexFunc_apiBig
    rw [ret_bind,ret_bind]
    refine (ret_loop (Post:=fun o=>o=.inl ()) n (fun k (i:Int)=>i=(k:Int)) rfl ?_ (by omega)).mono ?_
    · rintro k _ hk rfl
      unfold slices_IndexFunc_apiBig_l1
      rw [hT.1,ret_if]
      refine ⟨fun hlt=>?_,fun _=>⟨_,rfl,rfl⟩⟩
      obtain ⟨l,h1,h2⟩:=hT.at (r:=k) (by omega) (i:=(k:Int)) rfl
      unfold exact_check_1
      rw [h1,obs,obs,h2,if_neg (show ¬ n=0 by omega)]
      simp only [decide_true,Bool.not_true,Bool.false_eq_true,if_false]
      exact ⟨_,rfl,by omega,by show wa .i64 (k:Int) 1=_; rw [wa_i (by omega) (by omega)]; rfl⟩
    · rintro _ rfl
      exact ⟨_,rfl,_,rfl,rfl⟩
  unfold exact_check
  rw [ycolumns_ok hT,obs,hc,obs,if_neg (by simp),hT.1,if_neg]
  simp only [Bool.or_eq_true,decide_eq_true_eq,not_or]
  split<;>omega
theorem ysquare_ok (hT:Sh T n n) (hn:n≤16):exact_square T=some 0:=by
  unfold exact_square
  rw [ycheck_ok hT hn hn,obs,if_pos rfl,ycolumns_ok hT,obs,hT.1]
  have:(!(decide ((n:Int)=if n=0 then 0 else (n:Int))))=false:=by split<;>simp<;>omega
  rw [this,obs,if_neg (by simp)]
theorem normR_ok {v:Int} {z:Nb} (hz:Rw K v z) (hK:K≤400):Ret (integer_Norm z.1 z.2) (fun r=>Bg v r.1 r.2):=(normP_bg (s:=z.1) hz.1 (by have:=hz.2.1; omega)).mono fun r hr=>by rw [hz.2.2] at hr; exact hr
theorem yrowtwin_ok {row:List Nb} {f:Nat→Int} (hrow:Lr K row w f) (hK:K≤400) (hw:w≤1000):Ret (loop (exact_twin_l6 row) ([],0)) (fun o=>Lg o w f):=by
  refine ret_loop (Post:=fun o:List Nb=>Lg o w f) w (fun k (s:List Nb×Int)=>s.2=(k:Int)∧Lg s.1 k f) ⟨rfl,rfl,fun c hc=>absurd hc (by omega)⟩ ?_ (by omega)
  rintro k ⟨o,_⟩ hk ⟨rfl,hI⟩
  simp only at hI
  unfold exact_twin_l6
  simp only
  rw [hrow.1,ret_if]
  refine ⟨fun hlt=>?_,fun hge=>⟨_,rfl,by have e:k=w:=(by omega); subst e; exact hI⟩⟩
  have hkw:k < w:=by omega
  obtain ⟨z,h1,h2⟩:=hrow.at hkw (i:=(k:Int)) rfl
  rw [h1,obs,ret_bind]
  refine (normR_ok h2 hK).mono fun r hr=>?_
  rw [ret_bind,ret_app]
  refine ⟨by rw [hI.1]; simp only [List.length_cons,List.length_nil]; omega,_,rfl,hkw,by show wa .i64 (k:Int) 1=_; rw [wa_i (by omega) (by omega)]; rfl,hI.snoc (z:=(r.1,r.2)) hr⟩
theorem ytwin0_ok (hT:Tr K T n w A) (hK:K≤400) (hn:n≤1000) (hw:w≤1000):Ret (exact_twin T []) (fun o=>Tg o n w A):=by
  unfold exact_twin
  rw [ret_bind]
  refine (ret_loop (Post:=fun o:List (List Nb)=>Tg o n w A) n (fun k (s:List (List Nb)×Int)=>s.2=(k:Int)∧Tg s.1 k w A) ⟨rfl,rfl,fun c hc=>absurd hc (by omega)⟩ ?_ (by omega)).mono fun r hr=>⟨_,rfl,hr⟩
  rintro k ⟨o,_⟩ hk ⟨rfl,hI⟩
  simp only at hI
  unfold exact_twin_l5
  simp only
  rw [hT.1,ret_if]
  refine ⟨fun hlt=>?_,fun hge=>⟨_,rfl,by have e:k=n:=(by omega); subst e; exact hI⟩⟩
  have hkn:k < n:=by omega
  obtain ⟨row,h1,h2⟩:=hT.at hkn (i:=(k:Int)) rfl
  rw [h1,obs,ret_bind]
  refine (yrowtwin_ok h2 hK hw).mono fun r hr=>?_
  rw [if_neg (by simp)]
  unfold exact_twin_j7
  rw [ret_bind,ret_app]
  exact ⟨by rw [hI.1]; simp only [List.length_cons,List.length_nil]; omega,_,rfl,hkn,by show wa .i64 (k:Int) 1=_; rw [wa_i (by omega) (by omega)]; rfl,hI.snoc hr⟩
theorem ytwin1_ok (hT:Tr K T n w A) {b:List Nb} {g:Nat→Int} (hb:Lr K b n g) (hK:K≤400) (hn:n≤1000) (hw:w≤1000):Ret (exact_twin T b) (fun o=>Tg o n (w+1) (aug A w g)):=by
  unfold exact_twin
  rw [ret_bind]
  refine (ret_loop (Post:=fun o:List (List Nb)=>Tg o n (w+1) (aug A w g)) n (fun k (s:List (List Nb)×Int)=>s.2=(k:Int)∧Tg s.1 k (w+1) (aug A w g)) ⟨rfl,rfl,fun c hc=>absurd hc (by omega)⟩ ?_ (by omega)).mono fun r hr=>⟨_,rfl,hr⟩
  rintro k ⟨o,_⟩ hk ⟨rfl,hI⟩
  simp only at hI
  unfold exact_twin_l5
  simp only
  rw [hT.1,ret_if]
  refine ⟨fun hlt=>?_,fun hge=>⟨_,rfl,by have e:k=n:=(by omega); subst e; exact hI⟩⟩
  have hkn:k < n:=by omega
  obtain ⟨row,h1,h2⟩:=hT.at hkn (i:=(k:Int)) rfl
  obtain ⟨z,h3,h4⟩:=hb.at hkn (i:=(k:Int)) rfl
  rw [h1,obs,ret_bind]
  refine (yrowtwin_ok h2 hK hw).mono fun r hr=>?_
  rw [if_pos (by rw [hb.1]; omega),h3,obs,ret_bind]
  refine (normR_ok h4 hK).mono fun y hy=>?_
  rw [ret_bind,ret_app]
  refine ⟨by rw [hr.1]; simp only [List.length_cons,List.length_nil]; omega,?_⟩
  unfold exact_twin_j7
  rw [ret_bind,ret_app]
  have hr':Lg r w (aug A w g k):=hr.congr fun c hc=>by unfold aug; rw [if_neg (by omega)]
  have hrow:Lg (r++[(y.1,y.2)]) (w+1) (aug A w g k):=hr'.snoc (z:=(y.1,y.2)) (hy.cast (by unfold aug; rw [if_pos rfl]))
  exact ⟨by rw [hI.1]; simp only [List.length_cons,List.length_nil]; omega,_,rfl,hkn,by show wa .i64 (k:Int) 1=_; rw [wa_i (by omega) (by omega)]; rfl,hI.snoc hrow⟩
theorem ysolve_ok {M:Int} (hM:M < pw 60) (hT:Tr K T n n A) {b:List Nb} {g:Nat→Int} (hb:Lr K b n g) (hK:K≤400) (hR:Okb n (n+1) (aug A n g) M) (hn:n≤16) (hn0:0 < n):
    Ret (exact_Solve T b) (fun r=>(r.2.2.2=9∧det n A=0∧r.1=[]∧r.2.1=false∧r.2.2.1=[])∨(r.2.2.2=0∧det n A≠0∧∃ x,Lg r.1 n x∧Bg (if det n A < 0 then - det n A else det n A) r.2.1 r.2.2.1∧(∀ i,i < n→Bd M (x i))∧∀ i,i < n→sm n (fun j=>A i j*x j)=(if det n A < 0 then - det n A else det n A)*g i)):=by
  have hda:det n (aug A n g)=det n A:=det_congr fun i j hi hj=>by unfold aug; rw [if_neg (by omega)]
  unfold exact_Solve
  rw [ysquare_ok hT.sh hn,obs,if_pos rfl,hb.1,hT.1,if_pos rfl,ret_bind]
  refine (ytwin1_ok hT hb hK (by omega) (by omega)).mono fun T' hT'=>?_
  rw [ret_bind]
  refine (eliminate_ok (cw:=n) hM hR (by omega) (by omega) (by omega) hT').mono ?_
  rintro ⟨R,pv,zs,zl,sn⟩ ⟨A',col,k,hB,hTR,hpv,hd⟩
  simp only at hB hTR hpv hd ⊢
  have hpl:pv.length=k:=by rw [hpv,List.length_map,List.length_range]
  rw [hpl,ret_if]
  refine ⟨fun hlt=>⟨_,rfl,.inl ⟨rfl,?_,rfl,rfl,rfl⟩⟩,fun hge=>?_⟩
  · rw [← hda]; exact hB.det0 (by omega)
  · have hkn:=hB.kn
    obtain rfl:k=n:=by omega
    have hdet:=hB.det_ok
    rw [hda] at hdet
    have hsol:=hB.solve
    have hdn:=hB.d
    have hcols:∀ s,s < k→col s < k+1:=fun s hs=>by have:=hB.lt s hs; omega
    have bd:=(hR A' col k 0 0 (bar_rows hB) (Nat.le_refl k) hcols hn0 (by omega)).2
    have bX:∀ i,i < k→Bd M (Rk A' col k i k):=fun i hi=>(hR A' col k i k (bar_rows hB) (Nat.le_refl k) hcols hi (by omega)).1
    have ld:=hd.lenB bd hM
    generalize hD:det k (Pm_ A' col)=D at*
    have habs:(if det k A < 0 then - det k A else det k A)=if D < 0 then -D else D:=by
      rcases hB.sg.1 with h | h
      · rw [h,Int.one_mul] at hdet; rw [hdet]
      · rw [h] at hdet
        have:D= - det k A:=by omega
        rw [this]; split<;>split<;>omega
    have hne:det k A≠0:=by
      intro h; rw [h,Int.mul_zero] at hdet; exact hdn hdet
    rw [ret_bind]
    refine (ret_loop (Post:=fun o:List Nb=>Lg o k (fun i=>if D < 0 then - Rk A' col k i k else Rk A' col k i k)) k (fun i (s:List Nb×Int)=>s.2=(i:Int)∧Lg s.1 i (fun i=>if D < 0 then - Rk A' col k i k else Rk A' col k i k)) ⟨rfl,rfl,fun c hc=>absurd hc (by omega)⟩ ?_ (by omega)).mono ?_
    · rintro i ⟨o,_⟩ hi ⟨rfl,hI⟩
      simp only at hI
      unfold exact_Solve_l1
      simp only
      rw [hTR.1,hT.1,ret_if]
      refine ⟨fun hlt=>?_,fun hge2=>⟨_,rfl,by have e:i=k:=(by omega); subst e; exact hI⟩⟩
      have hik:i < k:=by omega
      obtain ⟨row,h1,h2⟩:=hTR.at hik (i:=(i:Int)) rfl
      obtain ⟨z,h3,h4⟩:=h2.at (show k < k+1 by omega) (i:=(k:Int)) rfl
      have lz:=h4.lenB (bX i hik) hM
      rw [h1,obs,h3,obs,ret_bind]
      refine (turned_ok hd h4 (by omega) (by omega)).mono fun r hr=>?_
      rw [ret_bind,ret_app]
      exact ⟨by rw [hI.1]; simp only [List.length_cons,List.length_nil]; omega,_,rfl,hik,by show wa .i64 (i:Int) 1=_; rw [wa_i (by omega) (by omega)]; rfl,hI.snoc (z:=(r.1,r.2)) hr⟩
    · intro xs hxs
      rw [ret_bind]
      refine (absP_bg (s:=zs) hd.1 (by omega)).mono fun r hr=>⟨_,rfl,.inr ⟨rfl,hne,_,hxs,?_,?_,?_⟩⟩
      · rw [hd.abs] at hr
        rw [habs]; exact hr
      · intro i hi
        have:=bX i hi
        split
        · exact this.neg
        · exact this
      · intro i hi
        rw [habs]
        have h1:=hsol i hi
        have e1:sm k (fun j=>aug A k g i j*Rk A' col k j k)=sm k (fun j=>A i j*Rk A' col k j k):=sm_congr fun j hj=>by unfold aug; rw [if_neg (by omega)]
        have e2:aug A k g i k=g i:=by unfold aug; rw [if_pos rfl]
        rw [e1,e2] at h1
        by_cases hn2:D < 0
        · rw [if_pos hn2]
          have e3:sm k (fun j=>A i j*(if D < 0 then - Rk A' col k j k else Rk A' col k j k))= -1*sm k (fun j=>A i j*Rk A' col k j k):=by
            rw [← sm_mul]; exact sm_congr fun j hj=>by rw [if_pos hn2]; grind
          rw [e3,h1]; grind
        · rw [if_neg hn2]
          have e3:sm k (fun j=>A i j*(if D < 0 then - Rk A' col k j k else Rk A' col k j k))=sm k (fun j=>A i j*Rk A' col k j k):=sm_congr fun j hj=>by rw [if_neg hn2]
          rw [e3,h1]
theorem Lg.zeros' (w:Nat):Lg (List.replicate w ((false,[]):Nb)) w (fun _=>0):=⟨List.length_replicate ..,fun c hc=>⟨(false,[]),by rw [List.getElem?_replicate,if_pos hc],bg_zero⟩⟩
theorem solve_nil:exact_Solve [] []=some ([],false,[1],0):=by kernel_rfl
theorem iprod {K:Nat} {v u s:Int} {m:Nat} {y z q:Nb} (hK:K≤60) (hy:Rw K v y) (hz:Rw K u z) (hq:Bg s q.1 q.2) (hs:q.2.length≤500):Ret ((integer_Mul y.1 y.2 z.1 z.2).bind fun r=>integer_Add q.1 q.2 r.1 r.2) (fun r=>Bg (s+v*u) r.1 r.2):=by
  have l1:=hy.2.1
  have l2:=hz.2.1
  rw [ret_bind]
  refine (mul_bg (s:=y.1) (t:=z.1) hy.1 hz.1 (by omega) (by omega)).mono fun r hr=>?_
  rw [hy.2.2,hz.2.2] at hr
  have lr:r.2.length≤2*K+1:=hr.lenB (hy.bd.mul hz.bd) (by
    have h1:pw (K+K)=pw K*pw K:=pw_add K K
    have h2:pw (K+K+1)=B*pw (K+K):=rfl
    have h3:=pw_pos (K+K)
    have e2:B=4294967296:=rfl
    have:2*K+1=K+K+1:=by omega
    rw [this,h2,← h1,e2]; omega)
  refine (add_bg (s:=q.1) (t:=r.1) hq.1 hr.1 (by omega) (by omega)).mono fun t ht=>?_
  rw [hq.sv,hr.sv] at ht
  exact ht
end
end Km
namespace Km
open Sx Go M Vc Lm Dt
section
variable {n w K:Nat} {A:Mx} {T:List (List Nb)}
theorem inner_ok {b:List Nb} {g:Nat→Int} {i:Nat} (hT:Tr K T n w A) (hb:Lr K b n g) (hK:K≤60) (hi:i < w) (hn:n≤900):Ret (exact_inner T (i:Int) b) (fun r=>Bg (sm n fun k=>A k i*g k) r.1 r.2):=by
  unfold exact_inner
  rw [ret_bind]
  refine (ret_loop (Post:=fun r:Bool×List Int=>Bg (sm n fun k=>A k i*g k) r.1 r.2) n (fun k (s:Bool×List Int×Int)=>s.2.2=(k:Int)∧Bg (sm k fun k=>A k i*g k) s.1 s.2.1) ⟨rfl,bg_zero.cast (show (0:Int)=sm 0 (fun k=>A k i*g k) from rfl)⟩ ?_ (by omega)).mono fun r hr=>⟨_,rfl,hr⟩
  rintro k ⟨zs,zl,_⟩ hk ⟨rfl,hI⟩
  simp only at hI
  unfold exact_inner_l1
  simp only
  rw [hT.1,ret_if]
  refine ⟨fun hlt=>?_,fun hge=>⟨_,rfl,by have e:k=n:=(by omega); subst e; exact hI⟩⟩
  have hkn:k < n:=by omega
  obtain ⟨row,h1,h2⟩:=hT.at hkn (i:=(k:Int)) rfl
  obtain ⟨y,h3,h4⟩:=h2.at hi (i:=(i:Int)) rfl
  obtain ⟨z,h5,h6⟩:=hb.at hkn (i:=(k:Int)) rfl
  have hp:=pw_pos K
  have ls:zl.length≤2*K+2:=by
    have hb1:=sm_bd (n:=k) (M:=pw K*pw K) (Int.mul_nonneg (by omega) (by omega)) fun x hx=>by
      obtain ⟨rx,r1,r2⟩:=hT.2 x (by omega)
      obtain ⟨zx,r3,r4⟩:=r2.2 i hi
      obtain ⟨bx,r5,r6⟩:=hb.2 x (by omega)
      exact r4.bd.mul r6.bd
    refine hI.lenB hb1 ?_
    have e1:pw (K+K)=pw K*pw K:=pw_add K K
    have e2:pw (K+K+1)=B*pw (K+K):=rfl
    have e3:pw (K+K+2)=B*pw (K+K+1):=rfl
    have e4:B=4294967296:=rfl
    have h3:=pw_pos (K+K)
    have e5:(k:Int)*(pw K*pw K)≤1000*(pw K*pw K):=Int.mul_le_mul_of_nonneg_right (by omega) (by omega)
    have:2*K+2=K+K+2:=by omega
    rw [this,e3,e2,e4]
    omega
  unfold exact_Least_1
  rw [h1,obs,h3,obs,h5,obs,obs]
  have:=iprod (s:=sm k fun k=>A k i*g k) (m:=0) (q:=(zs,zl)) hK h4 h6 hI (by simp only; omega)
  simp only at this
  rw [ret_bind] at this
  rw [ret_bind]
  refine this.mono fun r hr=>?_
  rw [ret_bind]
  refine hr.mono fun t ht=>?_
  exact ⟨_,rfl,hkn,by show wa .i64 (k:Int) 1=_; rw [wa_i (by omega) (by omega)]; rfl,ht⟩
theorem inner2_ok {i j:Nat} (hT:Tr K T n w A) (hK:K≤60) (hi:i < w) (hj:j < w) (hn:n≤900):Ret (exact_inner_v2 T (i:Int) T (j:Int)) (fun r=>Bg (gram n A i j) r.1 r.2):=by
  unfold exact_inner_v2
  rw [ret_bind]
  refine (ret_loop (Post:=fun r:Bool×List Int=>Bg (gram n A i j) r.1 r.2) n (fun k (s:Bool×List Int×Int)=>s.2.2=(k:Int)∧Bg (sm k fun k=>A k i*A k j) s.1 s.2.1) ⟨rfl,bg_zero.cast (show (0:Int)=sm 0 (fun k=>A k i*A k j) from rfl)⟩ ?_ (by omega)).mono fun r hr=>⟨_,rfl,hr⟩
  rintro k ⟨zs,zl,_⟩ hk ⟨rfl,hI⟩
  simp only at hI
  unfold exact_inner_v2_l1
  simp only
  rw [hT.1,ret_if]
  refine ⟨fun hlt=>?_,fun hge=>⟨_,rfl,by have e:k=n:=(by omega); subst e; exact hI⟩⟩
  have hkn:k < n:=by omega
  obtain ⟨row,h1,h2⟩:=hT.at hkn (i:=(k:Int)) rfl
  obtain ⟨y,h3,h4⟩:=h2.at hi (i:=(i:Int)) rfl
  obtain ⟨z,h5,h6⟩:=h2.at hj (i:=(j:Int)) rfl
  have hp:=pw_pos K
  have ls:zl.length≤2*K+2:=by
    have hb1:=sm_bd (n:=k) (M:=pw K*pw K) (Int.mul_nonneg (by omega) (by omega)) fun x hx=>by
      obtain ⟨rx,r1,r2⟩:=hT.2 x (by omega)
      obtain ⟨zx,r3,r4⟩:=r2.2 i hi
      obtain ⟨bx,r5,r6⟩:=r2.2 j hj
      exact r4.bd.mul r6.bd
    refine hI.lenB hb1 ?_
    have e1:pw (K+K)=pw K*pw K:=pw_add K K
    have e2:pw (K+K+1)=B*pw (K+K):=rfl
    have e3:pw (K+K+2)=B*pw (K+K+1):=rfl
    have e4:B=4294967296:=rfl
    have h3:=pw_pos (K+K)
    have e5:(k:Int)*(pw K*pw K)≤1000*(pw K*pw K):=Int.mul_le_mul_of_nonneg_right (by omega) (by omega)
    have:2*K+2=K+K+2:=by omega
    rw [this,e3,e2,e4]
    omega
  unfold exact_Least_2
  rw [h1,obs,h3,obs,obs,h5,obs,obs]
  have:=iprod (s:=sm k fun k=>A k i*A k j) (m:=0) (q:=(zs,zl)) hK h4 h6 hI (by simp only; omega)
  simp only at this
  rw [ret_bind] at this
  rw [ret_bind]
  refine this.mono fun r hr=>?_
  rw [ret_bind]
  refine hr.mono fun t ht=>?_
  exact ⟨_,rfl,hkn,by show wa .i64 (k:Int) 1=_; rw [wa_i (by omega) (by omega)]; rfl,ht⟩
def Pn_ (n w:Nat) (A:Mx) (i j:Nat) (S:List (List Nb)):Prop:=S.length=w∧∀ r,r < w→∃ l,S[r]?=some l∧Lg l (if r < i then w else if r=i then j else 0) (gram n A r)
theorem yleast_ok {M G:Int} (hM:M < pw 60) (hT:Tr K T n w A) {b:List Nb} {g:Nat→Int} (hb:Lr K b n g) (hK:K≤60) (hR:Okb w (w+1) (aug (gram n A) w fun i=>sm n fun k=>A k i*g k) M) (hG:G < pw 200) (hG1:∀ i j,i < w→j < w→Bd G (gram n A i j)) (hG2:∀ i,i < w→Bd G (sm n fun k=>A k i*g k)) (hn:n≤16) (hw:w≤16) (hw0:0 < w) (hn0:0 < n):
    Ret (exact_Least T b) (fun r=>(r.2.2.2=9∧det w (gram n A)=0∧r.1=[]∧r.2.1=false∧r.2.2.1=[])∨(r.2.2.2=0∧det w (gram n A)≠0∧∃ x,Lg r.1 w x∧Bg (if det w (gram n A) < 0 then - det w (gram n A) else det w (gram n A)) r.2.1 r.2.2.1∧(∀ i,i < w→Bd M (x i))∧∀ i,i < w→sm w (fun j=>gram n A i j*x j)=(if det w (gram n A) < 0 then - det w (gram n A) else det w (gram n A))*sm n fun k=>A k i*g k)):=by
  have hcol:exact_columns T=some (w:Int):=by rw [ycolumns_ok hT.sh,if_neg (by omega)]
  unfold exact_Least
  rw [ycheck_ok hT.sh hn hw,obs,if_pos rfl,hb.1,hT.1,if_pos rfl,hcol,obs,ret_bind,ret_mkL]
  refine ⟨by omega,by omega,?_⟩
  rw [ret_bind,ret_mkL]
  refine ⟨by omega,by omega,?_⟩
  rw [Int.toNat_natCast,ret_bind]
  refine (ret_loop (Post:=fun r:List (List Nb)×List Nb=>Tg r.1 w w (gram n A)∧Lg r.2 w (fun i=>sm n fun k=>A k i*g k)) w (fun i (s:List (List Nb)×List Nb×Int)=>s.2.2=(i:Int)∧Pn_ n w A i 0 s.1∧Lg s.2.1 w (fun r=>if r < i then sm n fun k=>A k r*g k else 0)) ⟨rfl,⟨List.length_replicate ..,fun r hr=>⟨[],by rw [List.getElem?_replicate,if_pos hr],by
    rw [if_neg (by omega)]
    split<;>exact ⟨rfl,fun c hc=>absurd hc (by omega)⟩⟩⟩,(Lg.zeros' w).congr fun c _=>by rw [if_neg (by omega)]⟩ ?_ (by omega)).mono ?_
  · rintro i ⟨S,rt,_⟩ hi ⟨rfl,hS,hr⟩
    simp only at hS hr
    unfold exact_Least_l4
    simp only
    rw [ret_if]
    refine ⟨fun hlt=>?_,fun hge=>⟨_,rfl,?_⟩⟩
    · have hiw:i < w:=by omega
      rw [ret_bind]
      refine (inner_ok hT hb hK hiw (by omega)).mono fun y hy=>?_
      rw [set_some (by rw [hr.1]; exact hiw) rfl,obs,ret_bind]
      have hr':Lg (rt.set i (y.1,y.2)) w (fun r=>if r < i+1 then sm n fun k=>A k r*g k else 0):=(hr.set hiw (z:=(y.1,y.2)) hy).congr fun c hc=>by
        by_cases e:c=i
        · subst e; rw [if_pos rfl,if_pos (by omega)]
        · rw [if_neg e]
          by_cases hci:c < i
          · rw [if_pos hci,if_pos (by omega)]
          · rw [if_neg hci,if_neg (by omega)]
      refine (ret_loop (Post:=fun S':List (List Nb)=>Pn_ n w A (i+1) 0 S') w (fun j (s:List (List Nb)×Int)=>s.2=(j:Int)∧Pn_ n w A i j s.1) ⟨rfl,hS⟩ ?_ (by omega)).mono fun S' hS'=>⟨_,rfl,hiw,by show wa .i64 (i:Int) 1=_; rw [wa_i (by omega) (by omega)]; rfl,hS',hr'⟩
      rintro j ⟨S',_⟩ hj ⟨rfl,hJ⟩
      simp only at hJ
      unfold exact_Least_l5
      simp only
      rw [ret_if]
      refine ⟨fun hlt2=>?_,fun hge=>⟨_,rfl,?_⟩⟩
      · have hjw:j < w:=by omega
        obtain ⟨l,h1,h2⟩:=hJ.2 i hiw
        rw [if_neg (Nat.lt_irrefl i),if_pos rfl] at h2
        rw [at_some h1 rfl,obs,ret_bind]
        refine (inner2_ok hT hK hiw hjw (by omega)).mono fun y hy=>?_
        rw [ret_bind,ret_app]
        refine ⟨by rw [h2.1]; simp only [List.length_cons,List.length_nil]; omega,?_⟩
        rw [set_some (by rw [hJ.1]; exact hiw) rfl,obs]
        refine ⟨_,rfl,hjw,by show wa .i64 (j:Int) 1=_; rw [wa_i (by omega) (by omega)]; rfl,by rw [List.length_set]; exact hJ.1,fun r hrw=>?_⟩
        by_cases e:r=i
        · subst e
          exact ⟨_,by rw [List.getElem?_set_self]; rw [hJ.1]; exact hrw,by rw [if_neg (Nat.lt_irrefl r),if_pos rfl]; exact h2.snoc (z:=(y.1,y.2)) hy⟩
        · obtain ⟨m,g1,g2⟩:=hJ.2 r hrw
          refine ⟨m,by rw [List.getElem?_set_ne (fun h=>e h.symm)]; exact g1,?_⟩
          rw [if_neg e] at g2 ⊢; exact g2
      · have e:j=w:=by omega
        subst e
        refine ⟨hJ.1,fun r hrw=>?_⟩
        obtain ⟨m,g1,g2⟩:=hJ.2 r hrw
        refine ⟨m,g1,?_⟩
        by_cases e1:r < i
        · rw [if_pos e1] at g2; rw [if_pos (by omega)]; exact g2
        · by_cases e2:r=i
          · subst e2
            rw [if_neg e1,if_pos rfl] at g2
            rw [if_pos (by omega)]; exact g2
          · rw [if_neg e1,if_neg e2] at g2
            rw [if_neg (by omega)]
            split<;>exact g2
    · have e:i=w:=by omega
      subst e
      refine ⟨⟨hS.1,fun r hrw=>?_⟩,hr.congr fun c hc=>by rw [if_pos hc]⟩
      obtain ⟨m,g1,g2⟩:=hS.2 r hrw
      rw [if_pos hrw] at g2
      exact ⟨m,g1,g2⟩
  · rintro ⟨S,rt⟩ ⟨hS,hr⟩
    simp only at hS hr ⊢
    rw [ret_bind]
    exact (ysolve_ok (K:=200) hM (hS.tr hG1 hG) (hr.lr hG2 hG) (by omega) hR hw hw0).mono fun r hr=>⟨_,rfl,hr⟩
end
end Km
namespace Km
open Sx Go M Vc Lm Dt
abbrev Fb:=Bool×List Int×Bool×List Int
def Bk (K:Nat) (v:Int):Prop:=- pw K < v∧v < pw K
theorem bk_sv {s:Bool} {l:List Int} {K:Nat} (h:LW l) (hl:l.length≤K):Bk K (sv s l):=by
  have a1:=lv_nn h
  have a2:=lv_lt h
  have a3:=pw_mono hl
  unfold sv
  split
  · exact ⟨by omega,by omega⟩
  · exact ⟨by omega,by omega⟩
theorem Bk.len {K:Nat} {v:Int} {s:Bool} {l:List Int} (h:Bk K v) (hb:Bg v s l):l.length≤K:=hb.len h.1 h.2
theorem Bk.mul {K L:Nat} {u v:Int} (h:Bk K u) (h':Bk L v):Bk (K+L) (u*v):=by
  have e:pw (K+L)=pw K*pw L:=pw_add K L
  have p1:=pw_pos K
  have p2:=pw_pos L
  have b:=(show Bd (pw K - 1) u from ⟨by have:=h.1; omega,by have:=h.2; omega⟩).mul (show Bd (pw L - 1) v from ⟨by have:=h'.1; omega,by have:=h'.2; omega⟩)
  have e2:(pw K - 1)*(pw L - 1)=pw K*pw L - pw K - pw L+1:=by grind
  rw [e2] at b
  exact ⟨by have:=b.1; omega,by have:=b.2; omega⟩
theorem Bk.mono {K L:Nat} {v:Int} (h:Bk K v) (hKL:K≤L):Bk L v:=by
  have:=pw_mono hKL
  exact ⟨by have:=h.1; omega,by have:=h.2; omega⟩
theorem Bk.of {K:Nat} {v M:Int} (h:Bd M v) (hM:M < pw K):Bk K v:=⟨by have:=h.1; omega,by have:=h.2; omega⟩
theorem Bk.sub {K:Nat} {u v:Int} (h:Bk K u) (h':Bk K v):Bk (K+1) (u - v):=by
  have e:pw (K+1)=B*pw K:=rfl
  have e2:B=4294967296:=rfl
  have p1:=pw_pos K
  have:=h.1; have:=h.2; have:=h'.1; have:=h'.2
  exact ⟨by rw [e,e2]; omega,by rw [e,e2]; omega⟩
theorem quoR_ok {s t:Bool} {a b:List Int} (ha:LW a) (hb:LW b) (hn:a.length≤800) (hm:b.length≤800) (hne:sv t b≠0) (hd:sv t b ∣ sv s a):Ret (sparseref01_Quo s a t b) (fun r=>Bg (sv s a / sv t b) r.1 r.2.1):=by
  unfold sparseref01_Quo
  rw [ret_bind]
  refine (divmodR_bg (s:=s) (t:=t) ha hb hn hm hne).mono ?_
  rintro ⟨q1,q2,q3,q4⟩ ⟨h1,h2⟩
  simp only at h1 h2 ⊢
  rw [Int.emod_eq_zero_of_dvd hd] at h2
  have l2:=h2.lenB (M:=0) (m:=1) ⟨by omega,by omega⟩ (by decide)
  have hs:=signR_bg h2 (by omega)
  rw [if_neg (by omega),if_neg (by omega)] at hs
  rw [hs,obs,if_pos rfl]
  exact ⟨_,rfl,h1⟩
def Fr (z:Fb) (n d:Int):Prop:=Bg n z.1 z.2.1∧Bg d z.2.2.1 z.2.2.2
theorem frac_ok {s t:Bool} {a b:List Int} {u v:Int} (ha:LW a) (hb:LW b) (hu:sv s a=u) (hv:sv t b=v) (hn:a.length≤400) (hm:b.length≤400) (hne:v≠0) (htb:Bg v t b):Ret (sparseref08_frac s a t b) (fun r=>Fr r (nrm u v).1 (nrm u v).2):=by
  unfold sparseref08_frac
  rw [ret_bind]
  refine (gcdR_ok (s:=s) (t:=t) ha hb hn hm).mono ?_
  rintro ⟨gs,gl⟩ hg
  simp only at hg ⊢
  rw [hu,hv] at hg
  have hgv:(Int.gcd u v:Int) ∣ v:=Int.gcd_dvd_right ..
  have hgu:(Int.gcd u v:Int) ∣ u:=Int.gcd_dvd_left ..
  have hg0:Int.gcd u v≠0:=fun h=>hne (Int.eq_zero_of_gcd_eq_zero_right h)
  have hgle:(Int.gcd u v:Nat)≤v.natAbs:=Nat.le_of_dvd (by omega) (by have:=Int.natAbs_dvd_natAbs.2 hgv; simpa using this)
  have hbv:=bk_sv (s:=t) hb hm
  rw [hv] at hbv
  have hgb:Bk 400 (Int.gcd u v:Int):=⟨by have:=pw_pos 400; omega,by have:=hbv.1; have:=hbv.2; omega⟩
  have lg:=hgb.len hg
  rw [signR_bg htb (by omega),obs]
  have key:∀ (xs:Bool) (xl:List Int) (g:Int),Bg g xs xl→g=sgcd u v→xl.length≤400→Ret (sparseref08_frac_j1 s a t b xs xl) (fun r=>Fr r (nrm u v).1 (nrm u v).2):=by
    rintro xs xl g hx rfl hl
    unfold sparseref08_frac_j1
    have hs0:=sgcd_ne (a:=u) hne
    rw [ret_bind]
    refine (quoR_ok (s:=s) (t:=xs) ha hx.1 (by omega) (by omega) (by rw [hx.sv]; exact hs0) (by rw [hx.sv,hu]; exact sgcd_l u v)).mono fun r hr=>?_
    rw [hx.sv,hu] at hr
    rw [ret_bind]
    refine (quoR_ok (s:=t) (t:=xs) hb hx.1 (by omega) (by omega) (by rw [hx.sv]; exact hs0) (by rw [hx.sv,hv]; exact sgcd_r u v)).mono fun q hq=>?_
    rw [hx.sv,hv] at hq
    exact ⟨_,rfl,hr,hq⟩
  rw [ret_if]
  refine ⟨fun hneg=>?_,fun hpos=>?_⟩
  · have hv0:v < 0:=by revert hneg; split<;>(try split)<;>omega
    rw [ret_bind]
    refine (negR_bg (s:=gs) hg.1 (by omega)).mono fun r hr=>?_
    obtain ⟨hr,hl⟩:=hr
    rw [hg.sv] at hr
    exact key r.1 r.2 _ hr (by unfold sgcd; rw [if_pos hv0]) (by omega)
  · have hv0:¬ v < 0:=fun h=>hpos (by rw [if_pos h]; omega)
    exact key gs gl _ hg (by unfold sgcd; rw [if_neg hv0]) lg
def Fq (z:Fb) (v D:Int):Prop:=∃ n d,Fr z n d∧Lo n d∧Vq n d v D
theorem Fq.cancel {z:Fb} {v D c:Int} (hc:c≠0) (h:Fq z (c*v) (c*D)):Fq z v D:=by
  obtain ⟨n,d,h1,h2,h3⟩:=h
  refine ⟨n,d,h1,h2,?_⟩
  unfold Vq at*
  have:c*(n*D - v*d)=0:=by grind
  rcases Int.mul_eq_zero.1 this with h | h
  · exact absurd h hc
  · omega
theorem Fq.scale {z:Fb} {v D:Int} (c:Int) (h:Fq z v D):Fq z (c*v) (c*D):=by
  obtain ⟨n,d,h1,h2,h3⟩:=h
  refine ⟨n,d,h1,h2,?_⟩
  unfold Vq at*
  have:n*(c*D)=c*(n*D):=by grind
  rw [this,h3]; grind
theorem Fq.zero {z:Fb} {D D':Int} (hD:D≠0) (h:Fq z 0 D):Fq z 0 D':=by
  obtain ⟨n,d,h1,h2,h3⟩:=h
  refine ⟨n,d,h1,h2,?_⟩
  unfold Vq at*
  rw [Int.zero_mul] at h3 ⊢
  rcases Int.mul_eq_zero.1 h3 with h | h
  · rw [h,Int.zero_mul]
  · exact absurd h hD
theorem Fq.num {z:Fb} {v D:Int} (hD:D≠0) (h:Fq z v D):∃ n d,Fr z n d∧Lo n d∧Vq n d v D∧(n=0↔v=0):=by
  obtain ⟨n,d,h1,h2,h3⟩:=h
  refine ⟨n,d,h1,h2,h3,?_,?_⟩
  · rintro rfl
    unfold Vq at h3
    rw [Int.zero_mul] at h3
    rcases Int.mul_eq_zero.1 h3.symm with h | h
    · exact h
    · have:=h2.1; omega
  · rintro rfl
    unfold Vq at h3
    rw [Int.zero_mul] at h3
    rcases Int.mul_eq_zero.1 h3 with h | h
    · exact h
    · exact absurd h hD
theorem Fq.len {z:Fb} {v D:Int} {K:Nat} (hD:D≠0) (hv:Bk K v) (hd:Bk K D) (h:Fq z v D):z.2.1.length≤K∧z.2.2.2.length≤K:=by
  obtain ⟨n,d,h1,h2,h3,h4⟩:=h.num hD
  unfold Vq at h3
  have hdp:=h2.1
  have d1:d ∣ D:=by
    have:d ∣ n*D:=⟨v,by rw [h3,Int.mul_comm]⟩
    exact idvd h2.2 this
  have n1:n ∣ v:=by
    have:n ∣ d*v:=⟨D,by rw [Int.mul_comm d v]; exact h3.symm⟩
    exact idvd (by rw [Int.gcd_comm]; exact h2.2) this
  have d2:d.natAbs≤D.natAbs:=Nat.le_of_dvd (by omega) (Int.natAbs_dvd_natAbs.2 d1)
  have n2:n.natAbs≤v.natAbs:=by
    by_cases h0:v=0
    · rw [h4.2 h0]; omega
    · exact Nat.le_of_dvd (by omega) (Int.natAbs_dvd_natAbs.2 n1)
  have bn:Bk K n:=⟨by have:=hv.1; have:=hv.2; omega,by have:=hv.1; have:=hv.2; omega⟩
  have bd:Bk K d:=⟨by have:=hd.1; have:=hd.2; omega,by have:=hd.1; have:=hd.2; omega⟩
  exact ⟨bn.len h1.1,bd.len h1.2⟩
theorem nrm_le {a b:Int} {K L:Nat} (hb:b≠0) (ha:Bk K a) (hB:Bk L b):Bk K (nrm a b).1∧Bk L (nrm a b).2:=by
  have h0:=sgcd_ne (a:=a) hb
  have key:∀ {x:Int} {K:Nat},sgcd a b ∣ x→Bk K x→Bk K (x / sgcd a b):=by
    rintro x K ⟨y,rfl⟩ hx
    rw [Int.mul_ediv_cancel_left _ h0]
    have h1:y.natAbs≤(sgcd a b*y).natAbs:=by
      rw [Int.natAbs_mul]
      have:1*y.natAbs≤(sgcd a b).natAbs*y.natAbs:=Nat.mul_le_mul_right _ (by omega)
      omega
    exact ⟨by have:=hx.1; have:=hx.2; omega,by have:=hx.1; have:=hx.2; omega⟩
  exact ⟨key (sgcd_l a b) ha,key (sgcd_r a b) hB⟩
theorem fminus_ok {x y z w:Fb} {X Y Z W D:Int} {K L:Nat} (hD:D≠0) (hW:W≠0) (hx:Fq x X D) (hy:Fq y Y D) (hz:Fq z Z D) (hw:Fq w W D) (lx:x.2.1.length≤L∧x.2.2.2.length≤L) (ly:y.2.1.length≤K∧y.2.2.2.length≤K) (lz:z.2.1.length≤K∧z.2.2.2.length≤K) (lw:w.2.1.length≤K∧w.2.2.2.length≤K) (hK:L+3*K≤380):
    Ret (sparseref08_minus x.1 x.2.1 x.2.2.1 x.2.2.2 y.1 y.2.1 y.2.2.1 y.2.2.2 z.1 z.2.1 z.2.2.1 z.2.2.2 w.1 w.2.1 w.2.2.1 w.2.2.2) (fun r=>Fq r (X*W - Y*Z) (D*W)):=by
  obtain ⟨xn,xd,fx,ox,vx⟩:=hx
  obtain ⟨yn,yd,fy,oy,vy⟩:=hy
  obtain ⟨zn,zd,fz,oz,vz⟩:=hz
  obtain ⟨wn,wd,fw,ow,vw⟩:=hw
  obtain ⟨hw0,hV⟩:=Dt.minus_ok hD hW ox oy oz ow vx vy vz vw
  have bxn:=bk_sv (s:=x.1) fx.1.1 lx.1
  have bxd:=bk_sv (s:=x.2.2.1) fx.2.1 lx.2
  have byn:=bk_sv (s:=y.1) fy.1.1 ly.1
  have byd:=bk_sv (s:=y.2.2.1) fy.2.1 ly.2
  have bzn:=bk_sv (s:=z.1) fz.1.1 lz.1
  have bzd:=bk_sv (s:=z.2.2.1) fz.2.1 lz.2
  have bwn:=bk_sv (s:=w.1) fw.1.1 lw.1
  have bwd:=bk_sv (s:=w.2.2.1) fw.2.1 lw.2
  rw [fx.1.sv] at bxn
  rw [fx.2.sv] at bxd
  rw [fy.1.sv] at byn
  rw [fy.2.sv] at byd
  rw [fz.1.sv] at bzn
  rw [fz.2.sv] at bzd
  rw [fw.1.sv] at bwn
  rw [fw.2.sv] at bwd
  have hyd:=oy.1
  have hzd:=oz.1
  have hxd:=ox.1
  have hden:yd*zd*wn≠0:=Int.mul_ne_zero (Int.mul_ne_zero (by omega) (by omega)) hw0
  unfold sparseref08_minus
  rw [ret_bind]
  refine (mulR_bg (s:=y.1) (t:=z.1) fy.1.1 fz.1.1 (by omega) (by omega)).mono fun r1 h1=>?_
  rw [fy.1.sv,fz.1.sv] at h1
  have l1:=(byn.mul bzn).len h1
  rw [ret_bind]
  refine (mulR_bg (s:=r1.1) (t:=w.2.2.1) h1.1 fw.2.1 (by omega) (by omega)).mono fun r2 h2=>?_
  rw [h1.sv,fw.2.sv] at h2
  have b2:=(byn.mul bzn).mul bwd
  have l2:=b2.len h2
  rw [ret_bind]
  refine (mulR_bg (s:=y.2.2.1) (t:=z.2.2.1) fy.2.1 fz.2.1 (by omega) (by omega)).mono fun r3 h3=>?_
  rw [fy.2.sv,fz.2.sv] at h3
  have l3:=(byd.mul bzd).len h3
  rw [ret_bind]
  refine (mulR_bg (s:=r3.1) (t:=w.1) h3.1 fw.1.1 (by omega) (by omega)).mono fun r4 h4=>?_
  rw [h3.sv,fw.1.sv] at h4
  have b4:=(byd.mul bzd).mul bwn
  have l4:=b4.len h4
  rw [ret_bind]
  refine (frac_ok (s:=r2.1) (t:=r4.1) h2.1 h4.1 h2.sv h4.sv (by omega) (by omega) hden h4).mono fun p hp=>?_
  obtain ⟨p1,p2⟩:=nrm_ok (a:=yn*zn*wd) hden
  obtain ⟨bp1,bp2⟩:=nrm_le (a:=yn*zn*wd) hden b2 b4
  generalize nrm (yn*zn*wd) (yd*zd*wn)=P at*
  have lp1:=bp1.len hp.1
  have lp2:=bp2.len hp.2
  have hpd:=p1.1
  have hden2:xd*P.2≠0:=Int.mul_ne_zero (by omega) (by omega)
  rw [ret_bind]
  refine (mulR_bg (s:=x.1) (t:=p.2.2.1) fx.1.1 hp.2.1 (by omega) (by omega)).mono fun r5 h5=>?_
  rw [fx.1.sv,hp.2.sv] at h5
  have b5:=bxn.mul bp2
  have l5:=b5.len h5
  rw [ret_bind]
  refine (mulR_bg (s:=p.1) (t:=x.2.2.1) hp.1.1 fx.2.1 (by omega) (by omega)).mono fun r6 h6=>?_
  rw [hp.1.sv,fx.2.sv] at h6
  have b6:=bp1.mul bxd
  have l6:=b6.len h6
  rw [ret_bind]
  refine (subR_bg (s:=r5.1) (t:=r6.1) h5.1 h6.1 (by omega) (by omega)).mono fun r7 h7=>?_
  rw [h5.sv,h6.sv] at h7
  have b7:=(b5.mono (show L+(K+K+K)≤L+3*K by omega)).sub (b6.mono (show (K+K+K)+L≤L+3*K by omega))
  have l7:=b7.len h7
  rw [ret_bind]
  refine (mulR_bg (s:=x.2.2.1) (t:=p.2.2.1) fx.2.1 hp.2.1 (by omega) (by omega)).mono fun r8 h8=>?_
  rw [fx.2.sv,hp.2.sv] at h8
  have b8:=bxd.mul bp2
  have l8:=b8.len h8
  rw [ret_bind]
  refine (frac_ok (s:=r7.1) (t:=r8.1) h7.1 h8.1 h7.sv h8.sv (by omega) (by omega) hden2 h8).mono fun q hq=>?_
  obtain ⟨q1,q2⟩:=nrm_ok (a:=xn*P.2 - P.1*xd) hden2
  exact ⟨_,rfl,_,_,hq,q1,hV⟩
def Lf (l:List Fb) (w:Nat) (f:Nat→Int) (D:Int):Prop:=l.length=w∧∀ c,c < w→∃ z,l[c]?=some z∧Fq z (f c) D
def Tf (F:List (List Fb)) (n w:Nat) (V:Mx) (D:Nat→Int):Prop:=F.length=n∧∀ r,r < n→∃ l,F[r]?=some l∧Lf l w (V r) (D r)
theorem Lf.at {l:List Fb} {w:Nat} {f:Nat→Int} {D:Int} (h:Lf l w f D) {c:Nat} (hc:c < w) {i:Int} (hi:i=(c:Int)):∃ z,getI l i=some z∧Fq z (f c) D:=by
  obtain ⟨z,h1,h2⟩:=h.2 c hc
  exact ⟨z,at_some h1 hi,h2⟩
theorem Tf.at {F:List (List Fb)} {n w:Nat} {V:Mx} {D:Nat→Int} (h:Tf F n w V D) {r:Nat} (hr:r < n) {i:Int} (hi:i=(r:Int)):∃ l,getI F i=some l∧Lf l w (V r) (D r):=by
  obtain ⟨l,h1,h2⟩:=h.2 r hr
  exact ⟨l,at_some h1 hi,h2⟩
theorem Lf.congr {l:List Fb} {w:Nat} {f g:Nat→Int} {D E:Int} (h:Lf l w f D) (e:∀ c,c < w→f c=g c) (e2:D=E):Lf l w g E:=⟨h.1,fun c hc=>by
  obtain ⟨z,h1,h2⟩:=h.2 c hc
  exact ⟨z,h1,by rw [← e c hc,← e2]; exact h2⟩⟩
theorem Tf.congr {F:List (List Fb)} {n w:Nat} {V V':Mx} {D D':Nat→Int} (h:Tf F n w V D) (e:∀ r c,r < n→c < w→V r c=V' r c) (e2:∀ r,r < n→D r=D' r):Tf F n w V' D':=⟨h.1,fun r hr=>by
  obtain ⟨l,h1,h2⟩:=h.2 r hr
  exact ⟨l,h1,h2.congr (fun c hc=>e r c hr hc) (e2 r hr)⟩⟩
theorem Lf.snoc {l:List Fb} {k:Nat} {f:Nat→Int} {D:Int} (h:Lf l k f D) {z:Fb} (hz:Fq z (f k) D):Lf (l++[z]) (k+1) f D:=by
  refine ⟨by rw [List.length_append,h.1]; rfl,fun c hc=>?_⟩
  by_cases e:c < k
  · obtain ⟨y,h1,h2⟩:=h.2 c e
    exact ⟨y,by rw [List.getElem?_append_left (by rw [h.1]; exact e)]; exact h1,h2⟩
  · obtain rfl:c=k:=by omega
    exact ⟨z,by rw [List.getElem?_append_right (by rw [h.1]; omega),h.1,Nat.sub_self]; rfl,hz⟩
theorem Tf.snoc {F:List (List Fb)} {k w:Nat} {V:Mx} {D:Nat→Int} (h:Tf F k w V D) {l:List Fb} (hl:Lf l w (V k) (D k)):Tf (F++[l]) (k+1) w V D:=by
  refine ⟨by rw [List.length_append,h.1]; rfl,fun c hc=>?_⟩
  by_cases e:c < k
  · obtain ⟨y,h1,h2⟩:=h.2 c e
    exact ⟨y,by rw [List.getElem?_append_left (by rw [h.1]; exact e)]; exact h1,h2⟩
  · obtain rfl:c=k:=by omega
    exact ⟨l,by rw [List.getElem?_append_right (by rw [h.1]; omega),h.1,Nat.sub_self]; rfl,hl⟩
theorem lo_one (v:Int):Lo v 1:=⟨by omega,by rw [Int.gcd_one]⟩
theorem fracs_ok {K n w:Nat} {A:Mx} {T:List (List Nb)} (hT:Tr K T n w A) (hK:K≤400) (hn:n≤1000) (hw:w≤1000):Ret (sparseref08_fracs T) (fun F=>Tf F n w A (fun _=>1)):=by
  unfold sparseref08_fracs
  rw [ret_bind]
  refine (ret_loop (Post:=fun F:List (List Fb)=>Tf F n w A (fun _=>1)) n (fun r (s:List (List Fb)×Int)=>s.2=(r:Int)∧Tf s.1 r w A (fun _=>1)) ⟨rfl,rfl,fun c hc=>absurd hc (by omega)⟩ ?_ (by omega)).mono fun r hr=>⟨_,rfl,hr⟩
  rintro r ⟨F,_⟩ hr ⟨rfl,hI⟩
  simp only at hI
  unfold sparseref08_fracs_l3
  simp only
  rw [hT.1,ret_if]
  refine ⟨fun hlt=>?_,fun hge=>⟨_,rfl,by have e:r=n:=(by omega); subst e; exact hI⟩⟩
  have hrn:r < n:=by omega
  obtain ⟨row,h1,h2⟩:=hT.at hrn (i:=(r:Int)) rfl
  rw [ret_bind]
  refine (ret_loop (Post:=fun l:List Fb=>Lf l w (A r) 1) w (fun c (s:List Fb×Int)=>s.2=(c:Int)∧Lf s.1 c (A r) 1) ⟨rfl,rfl,fun c hc=>absurd hc (by omega)⟩ ?_ (by omega)).mono fun l hl=>?_
  · rintro c ⟨l,_⟩ hc ⟨rfl,hJ⟩
    simp only at hJ
    unfold sparseref08_fracs_l4
    simp only
    rw [h1,obs,h2.1,ret_if]
    refine ⟨fun hlt2=>?_,fun hge=>⟨_,rfl,by have e:c=w:=(by omega); subst e; exact hJ⟩⟩
    have hcw:c < w:=by omega
    obtain ⟨z,h3,h4⟩:=h2.at hcw (i:=(c:Int)) rfl
    rw [obs,h3,obs,ret_bind]
    refine (normR_bg (s:=z.1) h4.1 (by have:=h4.2.1; omega)).mono fun y hy=>?_
    obtain ⟨hy,_⟩:=hy
    rw [h4.2.2] at hy
    rw [ret_bind]
    refine (fromR_bg (n:=1) (by omega) (by omega)).mono fun one hone=>?_
    rw [ret_bind,ret_app]
    exact ⟨by rw [hJ.1]; simp only [List.length_cons,List.length_nil]; omega,_,rfl,hcw,by show wa .i64 (c:Int) 1=_; rw [wa_i (by omega) (by omega)]; rfl,hJ.snoc (z:=(y.1,y.2,one.1,one.2)) ⟨A r c,1,⟨hy,hone⟩,lo_one _,by unfold Vq; rfl⟩⟩
  · rw [ret_bind,ret_app]
    exact ⟨by rw [hI.1]; simp only [List.length_cons,List.length_nil]; omega,_,rfl,hrn,by show wa .i64 (r:Int) 1=_; rw [wa_i (by omega) (by omega)]; rfl,hI.snoc hl⟩
end Km
namespace Km
open Sx Go M Vc Lm Dt
theorem if_cg {α:Type} {p q:Prop} [Decidable p] [Decidable q] {x y:α} (h:p↔q):(if p then x else y)=if q then x else y:=by
  by_cases hp:p
  · rw [if_pos hp,if_pos (h.1 hp)]
  · rw [if_neg hp,if_neg (fun e=>hp (h.2 e))]
def VT (A':Mx) (col:Nat→Nat) (k:Nat):Mx:=fun r j=>if r < k then Rk A' col r r j else Rk A' col k r j
def DT (A':Mx) (col:Nat→Nat) (k:Nat):Nat→Int:=fun r=>if r < k then det r (Pm_ A' col) else det k (Pm_ A' col)
def EJ (n w:Nat) (A:Mx) (c:Nat) (F:List (List Fb)) (pv:List Int) (ds:Bool) (dl:List Int) (es:Bool) (el:List Int):Prop:=
  ∃ A' col k sn,Bar n w A A' col k c sn∧Tf F n w (VT A' col k) (DT A' col k)∧pv=(List.range k).map (fun s=>(col s:Int))∧Bg (sn*det k (Pm_ A' col)) ds dl∧Bg 1 es el∧∀ s,s≤k→det s (Pm_ A' col)≠0
theorem Tf.set {F:List (List Fb)} {n w:Nat} {V:Mx} {D:Nat→Int} (h:Tf F n w V D) {k:Nat} (hk:k < n) {l:List Fb} {g:Nat→Int} {E:Int} (hl:Lf l w g E):Tf (F.set k l) n w (up V k g) (fun r=>if r=k then E else D r):=by
  refine ⟨by rw [List.length_set]; exact h.1,fun r hr=>?_⟩
  by_cases e:r=k
  · subst e
    exact ⟨l,by rw [List.getElem?_set_self]; rw [h.1]; exact hk,hl.congr (fun c _=>up_in.symm) (if_pos rfl).symm⟩
  · obtain ⟨m,h1,h2⟩:=h.2 r hr
    exact ⟨m,by rw [List.getElem?_set_ne (fun h=>e h.symm)]; exact h1,h2.congr (fun c _=>(up_out e).symm) (if_neg e).symm⟩
section
variable {n w:Nat} {A A':Mx} {col:Nat→Nat} {k c a:Nat} {sn M:Int}
def Mid (n w k c i X:Nat) (V V1 R':Mx) (D:Nat→Int) (D' dk:Int) (F:List (List Fb)):Prop:=
  F.length=n∧(∀ r,r < n→r≠i→∃ l,F[r]?=some l∧Lf l w (V r) (D r))∧∃ l,F[i]?=some l∧l.length=w∧∀ x,x < w→∃ z,l[x]?=some z∧Fq z (if c≤x∧x < X then R' i x else V1 i x) (if c≤x∧x < X then D' else dk)
theorem rrow_ok (hM:M < pw 60) {pv:List Int} (hpl:pv.length=k) {i:Nat} (hin:i < n) (hik:k < i) (hcw:c < w) (hw:w≤1000) (hn:n≤1000) {V V1 R':Mx} {D:Nat→Int} {dk D':Int} (hdk:dk≠0) (hD':D'≠0)
    (bV:∀ r j,r < n→k≤r→j < w→Bd M (V1 r j)) (bd:Bd M dk) (hVk:∀ j,V k j=V1 k j) (hDk:D k=dk) (hpiv:V1 k c=D')
    (hstep:∀ x,V1 i x*V1 k c - V1 i c*V1 k x=dk*R' i x) {f:Fb} (hf:Fq f (V1 i c) dk) {F:List (List Fb)} (hF:Mid n w k c i c V V1 R' D D' dk F):
    Ret (loop (sparseref08_echelon_l84 (w:Int) (i:Int) pv (c:Int) f) (F,(c:Int))) (fun G=>Mid n w k c i w V V1 R' D D' dk G):=by
  refine ret_loop (Post:=fun G:List (List Fb)=>Mid n w k c i w V V1 R' D D' dk G) (w - c) (fun t (s:List (List Fb)×Int)=>s.2=((c+t:Nat):Int)∧c+t≤w∧Mid n w k c i (c+t) V V1 R' D D' dk s.1) ⟨rfl,by omega,hF⟩ ?_ (by omega)
  rintro t ⟨F,_⟩ ht ⟨rfl,htw,hI⟩
  simp only at hI
  unfold sparseref08_echelon_l84
  simp only
  rw [ret_if]
  refine ⟨fun hlt=>?_,fun hge=>⟨_,rfl,by have e:c+t=w:=(by omega); rw [e] at hI; exact hI⟩⟩
  have hxw:c+t < w:=by omega
  obtain ⟨hl,hrows,li,h1,h2,h3⟩:=hI
  obtain ⟨lk,k1,k2⟩:=hrows k (by omega) (by omega)
  obtain ⟨zi,h4,h5⟩:=h3 (c+t) hxw
  rw [if_neg (by omega),if_neg (by omega)] at h5
  obtain ⟨zx,k3,k4⟩:=k2.2 (c+t) hxw
  obtain ⟨zc,k5,k6⟩:=k2.2 c hcw
  rw [hVk,hDk] at k4 k6
  have gi:=at_some h1 (i:=(i:Int)) rfl
  have gk:=at_some k1 (i:=(k:Int)) rfl
  have hpl':(pv.length:Int)=(k:Int):=by rw [hpl]
  rw [hpl',gi,obs,obs,at_some h4 rfl,obs,gk,obs,at_some k3 rfl,obs,obs,at_some k5 rfl,obs,ret_bind]
  have b0:Bk 60 dk:=Bk.of bd hM
  have bi:∀ j,j < w→Bk 60 (V1 i j):=fun j hj=>Bk.of (bV i j hin (by omega) hj) hM
  have bk:∀ j,j < w→Bk 60 (V1 k j):=fun j hj=>Bk.of (bV k j (by omega) (Nat.le_refl k) hj) hM
  refine (fminus_ok (K:=60) (L:=60) (x:=zi) (y:=f) (z:=zx) (w:=zc) hdk (by rw [hpiv]; exact hD') h5 hf k4 k6 (h5.len hdk (bi _ hxw) b0) (hf.len hdk (bi _ hcw) b0) (k4.len hdk (bk _ hxw) b0) (k6.len hdk (bk _ hcw) b0) (by omega)).mono fun r hr=>?_
  rw [hstep,hpiv] at hr
  have hr:=hr.cancel hdk
  rw [set_some (by rw [h2]; exact hxw) rfl,obs,set_some (by rw [hl]; exact hin) rfl,obs]
  refine ⟨_,rfl,by omega,by show wa .i64 ((c+t:Nat):Int) 1=_; rw [wa_i (by omega) (by omega)]; rfl,by omega,by rw [List.length_set]; exact hl,fun r hr hri=>?_,_,by rw [List.getElem?_set_self]; rw [hl]; exact hin,by rw [List.length_set]; exact h2,fun x hx=>?_⟩
  · obtain ⟨m,g1,g2⟩:=hrows r hr hri
    exact ⟨m,by rw [List.getElem?_set_ne (fun h=>hri h.symm)]; exact g1,g2⟩
  · by_cases e:x=c+t
    · subst e
      exact ⟨_,by rw [List.getElem?_set_self]; rw [h2]; exact hx,by rw [if_pos (by omega),if_pos (by omega)]; exact hr⟩
    · obtain ⟨z,g1,g2⟩:=h3 x hx
      refine ⟨z,by rw [List.getElem?_set_ne (fun h=>e h.symm)]; exact g1,?_⟩
      by_cases e2:c≤x∧x < c+t
      · rw [if_pos e2,if_pos e2] at g2
        rw [if_pos (by omega),if_pos (by omega)]; exact g2
      · rw [if_neg e2,if_neg e2] at g2
        rw [if_neg (by omega),if_neg (by omega)]; exact g2
theorem rpiv_ok (hM:M < pw 60) (hR:Okb n w A M) (h:Bar n w A A' col k c sn) (hw:w≤900) (hn:n≤900) (hc:c < w) (hka:k≤a) (han:a < n) (hne:Rk A' col k a c≠0) (hnz:∀ s,s≤k→det s (Pm_ A' col)≠0)
    {F:List (List Fb)} (hF:Tf F n w (fun r j=>if r < k then Rk A' col r r j else Rk (sw A' k a) col k r j) (DT A' col k)) {pv:List Int} (hpv:pv=(List.range k).map (fun s=>(col s:Int))) {ds es:Bool} {dl el:List Int} (hd:Bg ((if a=k then sn else -sn)*det k (Pm_ A' col)) ds dl) (he:Bg 1 es el):
    Ret (sparseref08_echelon_j80 pv (c:Int) es el (w:Int) F ds dl) (fun o=>∃ F' pv' ds' dl' es' el',o=.inl (F',ds',dl',es',el',pv',((c+1:Nat):Int))∧EJ n w A (c+1) F' pv' ds' dl' es' el'):=by
  obtain ⟨hB',hdet,htop,hstep⟩:=h.pivot hc hka han hne
  have hpl:pv.length=k:=by rw [hpv,List.length_map,List.length_range]
  have hkn:k < n:=by omega
  have hrows:=bar_rows h
  have hrows':=sw_rows hrows hkn han
  have hlt:∀ s,s < k→col s < w:=fun s hs=>by have:=h.lt s hs; have:=h.cw; omega
  have hlt':∀ s,s < k+1→setC col k c s < w:=fun s hs=>by have:=hB'.lt s hs; have:=hB'.cw; omega
  have bR:∀ i j,i < n→j < w→Bd M (Rk (sw A' k a) col k i j):=fun i j hi hj=>(hR _ _ _ _ _ hrows' h.kn hlt hi hj).1
  have bd:Bd M (det k (Pm_ A' col)):=(hR _ col k 0 c hrows h.kn hlt (by omega) hc).2
  have hk:∀ j,Rk (sw A' k a) col k k j=Rk A' col k a j:=fun j=>by rw [Rk_sw hka,if_pos rfl]
  have hdk:=h.d
  generalize hS:sw A' k a=S at*
  generalize hC:setC col k c=C at*
  generalize hsn:(if a=k then sn else -sn)=sn' at*
  have hsn1:sn'=1∨sn'= -1:=hB'.sg.1
  let V1:Mx:=fun r j=>if r < k then Rk A' col r r j else Rk S col k r j
  let R':Mx:=Rk S C (k+1)
  have hV1:∀ r j,k≤r→V1 r j=Rk S col k r j:=fun r j hr=>if_neg (by omega)
  have hzero:∀ r j,k < r→r < n→j < c→Rk S col k r j=0:=by
    intro r j hkr hr hj
    rw [← hS,Rk_sw hka,if_neg (by omega)]
    split
    · exact h.zero k j (Nat.le_refl k) hkn hj
    · exact h.zero r j (by omega) hr hj
  unfold sparseref08_echelon_j80
  have hpl':(pv.length:Int)=(k:Int):=by rw [hpl]
  obtain ⟨lk,g1,g2⟩:=hF.2 k hkn
  obtain ⟨z,g3,g4⟩:=g2.2 c hc
  have gk:=at_some g1 (i:=(k:Int)) rfl
  have gc:=at_some g3 (i:=(c:Int)) rfl
  rw [hpl',gk,obs,gc,obs,ret_bind]
  have hDk:DT A' col k k=det k (Pm_ A' col):=if_neg (Nat.lt_irrefl k)
  have g4:Fq z (Rk A' col k a c) (det k (Pm_ A' col)):=by
    have h1:V1 k c=Rk A' col k a c:=by rw [hV1 k c (Nat.le_refl k),hk]
    have h2:Fq z (V1 k c) (DT A' col k k):=g4
    rw [h1,hDk] at h2; exact h2
  have b0:Bk 60 (det k (Pm_ A' col)):=Bk.of bd hM
  have b1:Bk 60 (Rk A' col k a c):=Bk.of (by rw [← hk]; exact bR k c hkn hc) hM
  have lz:=g4.len hdk b1 b0
  obtain ⟨nn,dd,f1,f2,f3⟩:=g4
  have bs:Bk 60 (sn'*det k (Pm_ A' col)):=by
    rcases hsn1 with e | e
    · rw [e,Int.one_mul]; exact b0
    · rw [e]; exact ⟨by have:=b0.2; omega,by have:=b0.1; omega⟩
  have ld:=bs.len hd
  have le':=he.lenB (M:=1) (m:=1) ⟨by omega,by omega⟩ (by decide)
  refine (mulR_bg (s:=ds) (t:=z.1) hd.1 f1.1.1 (by omega) (by omega)).mono fun r1 h1=>?_
  rw [hd.sv,f1.1.sv] at h1
  have bz1:=bk_sv (s:=z.1) f1.1.1 lz.1
  have bz2:=bk_sv (s:=z.2.2.1) f1.2.1 lz.2
  rw [f1.1.sv] at bz1
  rw [f1.2.sv] at bz2
  have l1:=(bs.mul bz1).len h1
  rw [obs,gc,obs,ret_bind]
  refine (mulR_bg (s:=es) (t:=z.2.2.1) he.1 f1.2.1 (by omega) (by omega)).mono fun r2 h2=>?_
  rw [he.sv,f1.2.sv,Int.one_mul] at h2
  have l2:=bz2.len h2
  have hdd:=f2.1
  rw [ret_bind]
  refine (frac_ok (s:=r1.1) (t:=r2.1) h1.1 h2.1 h1.sv h2.sv (by omega) (by omega) (by omega) h2).mono fun q hq=>?_
  have hnrm:nrm (sn'*det k (Pm_ A' col)*nn) dd=(sn'*Rk A' col k a c,1):=nrm_of (by omega) (lo_one _) (by
    unfold Vq at f3
    have e:sn'*det k (Pm_ A' col)*nn=sn'*(nn*det k (Pm_ A' col)):=by grind
    rw [e,f3]; grind)
  rw [hnrm] at hq
  obtain ⟨hq1,hq2⟩:=hq
  simp only at hq1 hq2
  rw [ret_bind]
  have hD':det (k+1) (Pm_ S C)≠0:=hB'.d
  refine (ret_loop (Post:=fun G:List (List Fb)=>Tf G n w (fun r j=>if k < r then R' r j else V1 r j) (fun r=>if k < r then det (k+1) (Pm_ S C) else DT A' col k r)) (n - (k+1)) (fun t (s:List (List Fb)×Int)=>s.2=((k+1+t:Nat):Int)∧k+1+t≤n∧Tf s.1 n w (fun r j=>if k < r∧r < k+1+t then R' r j else V1 r j) (fun r=>if k < r∧r < k+1+t then det (k+1) (Pm_ S C) else DT A' col k r)) ⟨by show wa .i64 (k:Int) 1=_; rw [wa_i (by omega) (by omega)]; rfl,by omega,hF.congr (fun r j _ _=>(if_neg (show ¬ (k < r∧r < k+1+0) by omega)).symm) fun r _=>(if_neg (show ¬ (k < r∧r < k+1+0) by omega)).symm⟩ ?_ (by omega)).mono ?_
  · rintro t ⟨G,_⟩ ht ⟨rfl,htn,hI⟩
    simp only at hI
    unfold sparseref08_echelon_l83
    simp only
    rw [hI.1,ret_if]
    refine ⟨fun hlt2=>?_,fun hge=>⟨_,rfl,hI.congr (fun r j hr _=>?_) fun r hr=>?_⟩⟩
    · have hin:k+1+t < n:=by omega
      obtain ⟨li,e1,e2⟩:=hI.2 (k+1+t) hin
      have hDi:DT A' col k (k+1+t)=det k (Pm_ A' col):=if_neg (by omega)
      have e2:Lf li w (V1 (k+1+t)) (det k (Pm_ A' col)):=e2.congr (fun x _=>if_neg (show ¬ (k < k+1+t∧k+1+t < k+1+t) by omega)) ((if_neg (show ¬ (k < k+1+t∧k+1+t < k+1+t) by omega)).trans hDi)
      obtain ⟨f,e3,e4⟩:=e2.2 c hc
      rw [at_some e1 rfl,obs,at_some e3 rfl,obs,ret_bind]
      have hMid:Mid n w k c (k+1+t) c (fun r j=>if k < r∧r < k+1+t then R' r j else V1 r j) V1 R' (fun r=>if k < r∧r < k+1+t then det (k+1) (Pm_ S C) else DT A' col k r) (det (k+1) (Pm_ S C)) (det k (Pm_ A' col)) G:=by
        refine ⟨hI.1,fun r hr _=>hI.2 r hr,li,e1,e2.1,fun x hx=>?_⟩
        obtain ⟨y,y1,y2⟩:=e2.2 x hx
        refine ⟨y,y1,?_⟩
        rw [if_neg (show ¬ (c≤x∧x < c) by omega),if_neg (show ¬ (c≤x∧x < c) by omega)]
        exact y2
      refine (rrow_ok (V:=fun r j=>if k < r∧r < k+1+t then R' r j else V1 r j) (V1:=V1) (R':=R') hM hpl hin (by omega) hc (by omega) (by omega) hdk hD' (fun r j hr hkr hj=>by rw [hV1 r j hkr]; exact bR r j hr hj) bd (fun j=>if_neg (show ¬ (k < k∧k < k+1+t) by omega)) ((if_neg (show ¬ (k < k∧k < k+1+t) by omega)).trans hDk) (by rw [hV1 k c (Nat.le_refl k),hk,hdet]) (fun x=>?_) e4 hMid).mono fun G' hG'=>?_
      · rw [hV1 _ _ (show k≤k+1+t by omega),hV1 _ _ (show k≤k+1+t by omega),hV1 k c (Nat.le_refl k),hV1 k x (Nat.le_refl k),hk,hk,Int.mul_comm (Rk S col k (k+1+t) x)]
        exact hstep (k+1+t) x (by omega)
      · obtain ⟨m1,m2,l',m3,m4,m5⟩:=hG'
        refine ⟨_,rfl,by omega,by show wa .i64 ((k+1+t:Nat):Int) 1=_; rw [wa_i (by omega) (by omega)]; rfl,by omega,m1,fun r hr=>?_⟩
        by_cases e:r=k+1+t
        · subst e
          refine ⟨l',m3,m4,fun x hx=>?_⟩
          obtain ⟨y,y1,y2⟩:=m5 x hx
          refine ⟨y,y1,?_⟩
          have fin:Fq y (R' (k+1+t) x) (det (k+1) (Pm_ S C))→Fq y ((fun r j=>if k < r∧r < k+1+(t+1) then R' r j else V1 r j) (k+1+t) x) ((fun r=>if k < r∧r < k+1+(t+1) then det (k+1) (Pm_ S C) else DT A' col k r) (k+1+t)):=fun h=>by
            have i1:k < k+1+t∧k+1+t < k+1+(t+1):=by omega
            show Fq y (if k < k+1+t∧k+1+t < k+1+(t+1) then R' (k+1+t) x else V1 (k+1+t) x) (if k < k+1+t∧k+1+t < k+1+(t+1) then det (k+1) (Pm_ S C) else DT A' col k (k+1+t))
            rw [if_pos i1,if_pos i1]; exact h
          refine fin ?_
          by_cases hxc:c≤x
          · rw [if_pos ⟨hxc,hx⟩,if_pos ⟨hxc,hx⟩] at y2; exact y2
          · rw [if_neg (by omega),if_neg (by omega),hV1 _ _ (show k≤k+1+t by omega),hzero _ _ (by omega) hin (by omega)] at y2
            have:R' (k+1+t) x=0:=hB'.zero (k+1+t) x (by omega) hin (by omega)
            rw [this]
            exact y2.zero hdk
        · obtain ⟨l2,n1,n2⟩:=m2 r hr e
          have hi:(k < r∧r < k+1+t)↔(k < r∧r < k+1+(t+1)):=by omega
          exact ⟨l2,n1,n2.congr (fun x _=>if_cg hi) (if_cg hi)⟩
    · exact if_cg (show (k < r∧r < k+1+t)↔k < r by omega)
    · exact if_cg (show (k < r∧r < k+1+t)↔k < r by omega)
  · intro G hG
    rw [ret_bind,ret_app]
    refine ⟨by rw [hpl]; simp only [List.length_cons,List.length_nil]; omega,?_⟩
    unfold sparseref08_echelon_j76
    have hr1:wa .i64 (c:Int) 1=((c+1:Nat):Int):=by rw [wa_i (by omega) (by omega)]; rfl
    rw [hr1]
    have hRl:∀ r j,r < k→Rk S C r r j=Rk A' col r r j:=fun r j hr=>Rk_congr (fun s hs=>by rw [← hC,setC_lt (by omega)]) (fun t j ht=>by rw [← hS]; unfold sw; rw [if_neg (by omega),if_neg (by omega)]) (fun j=>by rw [← hS]; unfold sw; rw [if_neg (by omega),if_neg (by omega)])
    have hRk:∀ j,Rk S C k k j=Rk S col k k j:=fun j=>by rw [← hC]; exact Rk_setC
    have hDl:∀ r,r≤k→det r (Pm_ S C)=det r (Pm_ A' col):=fun r hr=>det_congr fun i j hi hj=>by
      unfold Pm_
      rw [← hC,setC_lt (by omega),← hS]
      unfold sw; rw [if_neg (by omega),if_neg (by omega)]
    refine ⟨_,rfl,_,_,_,_,_,_,rfl,S,C,k+1,sn',hB',hG.congr (fun r j hr _=>?_) (fun r hr=>?_),?_,?_,hq2,fun s hs=>?_⟩
    · unfold VT
      by_cases e:k < r
      · rw [if_pos e,if_neg (by omega)]
      · rw [if_neg e,if_pos (by omega)]
        by_cases e2:r < k
        · show (if r < k then Rk A' col r r j else Rk S col k r j)=_
          rw [if_pos e2,hRl r j e2]
        · obtain rfl:r=k:=by omega
          rw [hV1 r j (Nat.le_refl r),hRk]
    · unfold DT
      by_cases e:k < r
      · rw [if_pos e,if_neg (by omega)]
      · rw [if_neg e,if_pos (show r < k+1 by omega),hDl r (by omega)]
        by_cases e2:r < k
        · rw [if_pos e2]
        · rw [if_neg e2]
          obtain rfl:r=k:=by omega
          rfl
    · rw [hpv,List.range_succ,List.map_append]
      congr 1
      · refine List.map_congr_left fun s hs=>?_
        rw [← hC,setC_lt (List.mem_range.1 hs)]
      · show [(c:Int)]=[((C k:Nat):Int)]
        rw [← hC,setC_at]
    · rw [hdet]; exact hq1
    · by_cases e:s=k+1
      · subst e; exact hD'
      · rw [hDl s (by omega)]; exact hnz s (by omega)
theorem echelon08_ok (hM:M < pw 60) (hR:Okb n w A M) (hw:w≤900) (hn:n≤900) {F:List (List Fb)} (hF:Tf F n w A (fun _=>1)):
    Ret (sparseref08_echelon F (w:Int)) (fun r=>EJ n w A w r.1 r.2.1 r.2.2.1 r.2.2.2.1 r.2.2.2.2.1 r.2.2.2.2.2):=by
  unfold sparseref08_echelon
  rw [ret_bind]
  refine (fromR_bg (n:=1) (by omega) (by omega)).mono fun o1 ho1=>?_
  rw [ret_bind]
  refine (fromR_bg (n:=1) (by omega) (by omega)).mono fun o2 ho2=>?_
  rw [ret_bind]
  refine (ret_loop (Post:=fun r:List (List Fb)×Bool×List Int×Bool×List Int×List Int=>EJ n w A w r.1 r.2.2.2.2.2 r.2.1 r.2.2.1 r.2.2.2.1 r.2.2.2.2.1) w (fun c (s:List (List Fb)×Bool×List Int×Bool×List Int×List Int×Int)=>s.2.2.2.2.2.2=(c:Int)∧c≤w∧EJ n w A c s.1 s.2.2.2.2.2.1 s.2.1 s.2.2.1 s.2.2.2.1 s.2.2.2.2.1) ⟨rfl,by omega,A,id,0,1,Bar.start,hF.congr (fun r j _ _=>by unfold VT; rw [if_neg (by omega),Rk_zero]) (fun r _=>by unfold DT; rw [if_neg (by omega)]; rfl),rfl,ho1.cast (show (1:Int)=1*det 0 (Pm_ A id) from rfl),ho2,fun s hs=>by
    obtain rfl:s=0:=by omega
    show (1:Int)≠0; omega⟩ ?_ (by omega)).mono fun r hr=>⟨_,rfl,hr⟩
  rintro c ⟨F,ds,dl,es,el,pv,_⟩ hc ⟨rfl,hcc,A',col,k,sn,hB,hT,hpv,hd,he,hnz⟩
  simp only at hT hpv hd he
  unfold sparseref08_echelon_l57
  simp only
  rw [ret_if]
  refine ⟨fun hlt=>?_,fun hge=>⟨_,rfl,by have e:c=w:=(by omega); subst e; exact ⟨A',col,k,sn,hB,hT,hpv,hd,he,hnz⟩⟩⟩
  have hcw:c < w:=by omega
  have hpl:pv.length=k:=by rw [hpv,List.length_map,List.length_range]
  have hkn:=hB.kn
  have hrows:=bar_rows hB
  have hlt':∀ s,s < k→col s < w:=fun s hs=>by have:=hB.lt s hs; have:=hB.cw; omega
  have hwa:wa .i64 (c:Int) 1=((c+1:Nat):Int):=by rw [wa_i (by omega) (by omega)]; rfl
  have hVge:∀ r j,k≤r→VT A' col k r j=Rk A' col k r j:=fun r j hr=>if_neg (by omega)
  have hDge:∀ r,k≤r→DT A' col k r=det k (Pm_ A' col):=fun r hr=>if_neg (by omega)
  rw [ret_bind]
  refine (ret_loop (Post:=fun o:Int=>∃ i:Nat,o=(i:Int)∧k≤i∧i≤n∧(∀ j,k≤j→j < i→Rk A' col k j c=0)∧(i < n→Rk A' col k i c≠0)) (n - k) (fun t (s:Int)=>s=((k+t:Nat):Int)∧k+t≤n∧∀ j,k≤j→j < k+t→Rk A' col k j c=0) ⟨by rw [hpl]; rfl,by omega,fun j h1 h2=>absurd h2 (by omega)⟩ ?_ (by omega)).mono ?_
  · rintro t _ ht ⟨rfl,htn,hz⟩
    unfold sparseref08_echelon_l79
    rw [hT.1]
    by_cases hl2:k+t < n
    · obtain ⟨row,h1,h2⟩:=hT.2 (k+t) hl2
      obtain ⟨x,h3,h4⟩:=h2.2 c hcw
      rw [hVge _ _ (by omega),hDge _ (by omega)] at h4
      have bx:=hR _ _ _ _ _ hrows hkn hlt' hl2 hcw
      have lx:=h4.len hB.d (Bk.of bx.1 hM) (Bk.of bx.2 hM)
      obtain ⟨nn,dd,f1,f2,f3,f4⟩:=h4.num hB.d
      rw [if_pos (by omega),at_some h1 rfl,obs,at_some h3 rfl,obs]
      unfold sparseref08_zero
      rw [signR_bg f1.1 (by omega),obs,obs,obs,ret_if]
      refine ⟨fun h0=>⟨_,rfl,by omega,by rw [wa_i (by omega) (by omega)]; rfl,by omega,fun j hj1 hj2=>?_⟩,fun h0=>⟨_,rfl,k+t,rfl,by omega,by omega,hz,fun _ h=>?_⟩⟩
      · by_cases e:j=k+t
        · subst e
          refine f4.1 ?_
          have h0:(if nn < 0 then (-1:Int) else if 0 < nn then 1 else 0)=0:=by simpa using h0
          revert h0; split
          · omega
          · split
            · omega
            · intro _; omega
        · exact hz j hj1 (by omega)
      · have:nn=0:=f4.2 h
        subst this
        simp at h0
    · rw [if_neg (by omega),obs,if_neg (by simp)]
      exact ⟨_,rfl,k+t,rfl,by omega,by omega,hz,fun h=>absurd h hl2⟩
  · rintro _ ⟨i,rfl,hki,hin,hz,hne⟩
    rw [hT.1,ret_if]
    refine ⟨fun h0=>?_,fun h0=>?_⟩
    · have:i=n:=by omega
      subst this
      unfold sparseref08_echelon_j76
      rw [hwa]
      exact ⟨_,rfl,hcw,rfl,by omega,A',col,k,sn,hB.none hcw fun j h1 h2=>hz j h1 h2,hT,hpv,hd,he,hnz⟩
    · have hin2:i < n:=by omega
      rw [hpl,ret_if]
      have fin:∀ {m:Option _},Ret m (fun o=>∃ F' pv' ds' dl' es' el',o=.inl (F',ds',dl',es',el',pv',((c+1:Nat):Int))∧EJ n w A (c+1) F' pv' ds' dl' es' el')→Ret m (VQ (fun s:List (List Fb)×Bool×List Int×Bool×List Int×List Int×Int=>c < w∧s.2.2.2.2.2.2=((c+1:Nat):Int)∧c+1≤w∧EJ n w A (c+1) s.1 s.2.2.2.2.2.1 s.2.1 s.2.2.1 s.2.2.2.1 s.2.2.2.2.1) (fun r:List (List Fb)×Bool×List Int×Bool×List Int×List Int=>EJ n w A w r.1 r.2.2.2.2.2 r.2.1 r.2.2.1 r.2.2.2.1 r.2.2.2.2.1)):=fun h=>h.mono fun o ho=>by
        obtain ⟨F',pv',ds',dl',es',el',rfl,hE⟩:=ho
        exact ⟨hcw,rfl,by omega,hE⟩
      refine ⟨fun hik=>?_,fun hik=>?_⟩
      · obtain rfl:i=k:=by omega
        refine fin (rpiv_ok (a:=i) hM hR hB hw hn hcw (Nat.le_refl i) hin2 (hne hin2) hnz (hT.congr (fun r j hr _=>?_) fun _ _=>rfl) hpv (by rw [if_pos rfl]; exact hd) he)
        unfold VT
        by_cases e:r < i
        · rw [if_pos e,if_pos e]
        · rw [if_neg e,if_neg e,Rk_sw (Nat.le_refl _)]
          by_cases e2:r=i
          · subst e2; rw [if_pos rfl]
          · rw [if_neg e2,if_neg e2]
      · have hkn2:k < n:=by omega
        obtain ⟨la,h1,h2⟩:=hT.2 i hin2
        obtain ⟨lk,h3,h4⟩:=hT.2 k hkn2
        rw [at_some h3 rfl,obs,at_some h1 rfl,obs,set_some (by rw [hT.1]; exact hin2) rfl,obs,set_some (by rw [List.length_set,hT.1]; exact hkn2) rfl,obs,ret_bind]
        have bd:=hR _ _ _ 0 c hrows hkn hlt' (by omega) hcw
        have ld:dl.length≤60:=by
          have b0:Bk 60 (det k (Pm_ A' col)):=Bk.of bd.2 hM
          have:Bk 60 (sn*det k (Pm_ A' col)):=by
            rcases hB.sg.1 with e | e
            · rw [e,Int.one_mul]; exact b0
            · rw [e]; exact ⟨by have:=b0.2; omega,by have:=b0.1; omega⟩
          exact this.len hd
        refine (negR_bg (s:=ds) hd.1 (by omega)).mono fun r hr=>?_
        obtain ⟨hr,_⟩:=hr
        rw [hd.sv] at hr
        refine fin (rpiv_ok (a:=i) hM hR hB hw hn hcw hki hin2 (hne hin2) hnz ?_ hpv (hr.cast ?_) he)
        · refine ((hT.set hin2 h4).set hkn2 h2).congr (fun r j hr _=>?_) fun r hr=>?_
          · by_cases e1:r=k
            · subst e1
              rw [up_in,if_neg (Nat.lt_irrefl r),Rk_sw hki,if_pos rfl,hVge _ _ hki]
            · rw [up_out e1]
              by_cases e2:r=i
              · subst e2
                rw [up_in,if_neg (by omega),Rk_sw hki,if_neg e1,if_pos rfl,hVge _ _ (Nat.le_refl k)]
              · rw [up_out e2]
                unfold VT
                by_cases e3:r < k
                · rw [if_pos e3,if_pos e3]
                · rw [if_neg e3,if_neg e3,Rk_sw hki,if_neg e1,if_neg e2]
          · by_cases e1:r=k
            · subst e1; rw [if_pos rfl,hDge _ hki,hDge _ (Nat.le_refl r)]
            · rw [if_neg e1]
              by_cases e2:r=i
              · subst e2; rw [if_pos rfl,hDge _ (Nat.le_refl k),hDge _ hki]
              · rw [if_neg e2]
        · rw [if_neg (by omega)]; grind
end
end Km
namespace Km
open Sx Go M Vc Lm Dt
theorem getI_at {α:Type} {l:List α} {k:Nat} (h:k < l.length):getI l (k:Int)=some l[k]:=at_some (List.getElem?_eq_getElem h) rfl
theorem mL {n:Nat} (h:n≤maxLen):n < 9223372036854775808:=by
  have e:maxLen=9223372036854775807:=by decide
  omega
theorem all_loop {α:Type} {l:List α} {step:Int→Option (Int⊕(Unit⊕Unit))} {p:α→Bool} (hl:l.length < 9223372036854775808) (h1:∀ k (hk:k < l.length),step (k:Int)=some (if p l[k]=true then .inl (wa .i64 (k:Int) 1) else .inr (.inr ()))) (h2:step (l.length:Int)=some (.inr (.inl ()))):loop step 0=some (if l.all p=true then .inl () else .inr ()):=by
  refine Ret.eq ?_
  refine ret_loop (Post:=fun o:Unit⊕Unit=>o=if l.all p=true then .inl () else .inr ()) l.length (fun k (i:Int)=>i=(k:Int)∧k≤l.length∧∀ j (hj:j < l.length),j < k→p l[j]=true) ⟨rfl,by omega,fun j _ h=>by omega⟩ ?_ hl
  rintro k _ hk ⟨rfl,hkl,hI⟩
  by_cases hlt:k < l.length
  · rw [h1 k hlt]
    by_cases hp:p l[k]=true
    · rw [if_pos hp]
      refine ⟨_,rfl,hlt,by rw [wa_i (by omega) (by omega)]; rfl,by omega,fun j hj hjk=>?_⟩
      by_cases e:j=k
      · subst e; exact hp
      · exact hI j hj (by omega)
    · rw [if_neg hp]
      refine ⟨_,rfl,?_⟩
      have:¬ l.all p=true:=fun h=>hp (List.all_eq_true.1 h _ (List.getElem_mem hlt))
      show (Sum.inr ():Unit⊕Unit)=_
      rw [if_neg this]
  · have e:k=l.length:=by omega
    subst e
    rw [h2]
    refine ⟨_,rfl,?_⟩
    have:l.all p=true:=List.all_eq_true.2 fun x hx=>by
      obtain ⟨j,hj,rfl⟩:=List.getElem_of_mem hx
      exact hI j hj hj
    show (Sum.inl ():Unit⊕Unit)=_
    rw [if_pos this]
theorem copy_loop {α β:Type} {l:List α} {f:α→β} {step:List β×Int→Option ((List β×Int)⊕List β)} (hl:l.length≤1000000) (h1:∀ k (hk:k < l.length),step (l.take k |>.map f,(k:Int))=some (.inl ((l.take (k+1)).map f,wa .i64 (k:Int) 1))) (h2:step (l.map f,(l.length:Int))=some (.inr (l.map f))):loop step ([],0)=some (l.map f):=by
  refine Ret.eq ?_
  refine ret_loop (Post:=fun o:List β=>o=l.map f) l.length (fun k (s:List β×Int)=>s=((l.take k).map f,(k:Int))∧k≤l.length) ⟨rfl,by omega⟩ ?_ (by omega)
  rintro k _ hk ⟨rfl,hkl⟩
  by_cases hlt:k < l.length
  · rw [h1 k hlt]
    exact ⟨_,rfl,hlt,by rw [wa_i (by omega) (by omega)]; rfl,by omega⟩
  · have e:k=l.length:=by omega
    subst e
    rw [List.take_length,h2]
    exact ⟨_,rfl,rfl⟩
theorem take_map {α β:Type} {l:List α} {f:α→β} {k:Nat} (h:k < l.length):(l.take k).map f++[f l[k]]=(l.take (k+1)).map f:=by
  rw [tks (List.getElem?_eq_getElem h),List.map_append]; rfl
theorem slim_eq {l:List Nb} (hl:l.length < 9223372036854775808):sparselaw08_slim l=some (l.all (fun z=>decide (z.2.length≤4)) && decide (l.length≤32)):=by
  unfold sparselaw08_slim
  have h:=all_loop (l:=l) (step:=sparselaw08_slim_l1 l) (p:=fun z=>decide (z.2.length≤4)) hl (fun k hk=>by
    unfold sparselaw08_slim_l1 sparsekit_Slim
    rw [if_pos (by omega),getI_at hk,obs,obs]
    by_cases h4:l[k].2.length≤4
    · rw [if_pos (by simp; omega),if_pos (by simp; omega)]
    · rw [if_neg (by simp; omega),if_neg (by simp; omega)]) (by
    unfold sparselaw08_slim_l1
    rw [if_neg (by omega)])
  rw [h,obs]
  by_cases ha:l.all (fun z=>decide (z.2.length≤4))=true
  · rw [if_pos ha,ha]
    show some (decide ((l.length:Int)≤32))=_
    rw [Bool.true_and]
    congr 1
    exact decide_eq_decide.2 (by omega)
  · rw [if_neg ha]
    simp only [Bool.not_eq_true] at ha
    rw [ha]; rfl
def rowP (l:List Nb):Bool:=(decide (l.length≤4) || decide (16 < l.length)) && decide (l.length≤32) && l.all (fun z=>decide (z.2.length≤4))
theorem small_eq {T:List (List Nb)} (hT:T.length≤maxLen) (hr:∀ l,l∈T→l.length≤maxLen):sparselaw08_small T=some ((decide (T.length≤4) || decide (16 < T.length)) && decide (T.length≤32) && T.all rowP):=by
  unfold sparselaw08_small
  by_cases hbad:(((decide ((4:Int) < (T.length:Int))) && (decide ((T.length:Int)≤16))) || (decide ((32:Int) < (T.length:Int))))=true
  · rw [if_pos hbad]
    have:((decide (T.length≤4) || decide (16 < T.length)) && decide (T.length≤32))=false:=by
      simp only [Bool.or_eq_true,Bool.and_eq_true,decide_eq_true_eq] at hbad
      rw [Bool.and_eq_false_iff,Bool.or_eq_false_iff,decide_eq_false_iff_not,decide_eq_false_iff_not,decide_eq_false_iff_not]
      omega
    rw [this]; rfl
  · rw [if_neg hbad]
    have:((decide (T.length≤4) || decide (16 < T.length)) && decide (T.length≤32))=true:=by
      simp only [Bool.or_eq_true,Bool.and_eq_true,decide_eq_true_eq] at hbad ⊢
      omega
    rw [this,Bool.true_and]
    have h:=all_loop (l:=T) (step:=sparselaw08_small_l9 T) (p:=rowP) (mL hT) (fun k hk=>by
      have hlk:=hr _ (List.getElem_mem hk)
      have hmx:=mL hlk
      unfold sparselaw08_small_l9
      rw [if_pos (by omega),getI_at hk,obs]
      generalize T[k]=l at*
      have e1:(if (4:Int) < (l.length:Int) then (some l).bind (fun x72=>some (decide ((x72.length:Int)≤16))) else some false)=some (!(decide (l.length≤4) || decide (16 < l.length))):=by
        by_cases h4:l.length≤4
        · rw [if_neg (by omega)]; simp [h4]
        · rw [if_pos (by omega),obs]
          congr 1
          have:decide (l.length≤4)=false:=by simp; omega
          rw [this,Bool.false_or,← decide_not]
          exact decide_eq_decide.2 (by omega)
      rw [e1,obs]
      unfold rowP
      by_cases hA:(decide (l.length≤4) || decide (16 < l.length))=true
      · rw [hA,if_neg (by simp),obs,obs]
        by_cases hB:l.length≤32
        · rw [if_neg (by simp; omega),obs,slim_eq hmx,obs,obs]
          by_cases hC:l.all (fun z=>decide (z.2.length≤4))=true
          · rw [hC,if_neg (by simp; omega),if_pos (by simp; omega)]
          · simp only [Bool.not_eq_true] at hC
            rw [hC,if_pos (by simp),if_neg (by simp)]
        · rw [if_pos (by simp; omega),obs,if_pos rfl,if_neg (by simp; omega)]
      · simp only [Bool.not_eq_true] at hA
        rw [hA,if_pos (by simp),obs,if_pos rfl,obs,if_pos rfl,if_neg (by simp)]) (by
      unfold sparselaw08_small_l9
      rw [if_neg (by omega)])
    rw [h,obs]
    by_cases ha:T.all rowP=true
    · rw [if_pos ha,ha]
    · rw [if_neg ha]
      simp only [Bool.not_eq_true] at ha
      rw [ha]
theorem twinBig_eq {s:Bool} {l:List Int} (hl:l.length≤1000000):sparsekit_TwinBig s l=some (s,l):=by
  unfold sparsekit_TwinBig
  have h:=copy_loop (l:=l) (f:=fun x=>x) (step:=sparsekit_TwinBig_l1 l) hl (fun k hk=>by
    unfold sparsekit_TwinBig_l1
    simp only
    rw [if_pos (by omega),getI_at hk,obs]
    have:=take_map (f:=fun x:Int=>x) hk
    have ha:app (List.map (fun x=>x) (l.take k)) [l[k]]=some ((l.take (k+1)).map fun x=>x):=Ret.eq (by rw [ret_app]; exact ⟨by simp; omega,this⟩)
    rw [ha,obs]) (by
    unfold sparsekit_TwinBig_l1
    simp only
    rw [if_neg (by omega)])
  rw [h,obs,List.map_id']
theorem twinBigs_eq {l:List Nb} (hl:l.length≤1000) (hz:∀ z,z∈l→z.2.length≤1000):sparsekit_TwinBigs l=some l:=by
  unfold sparsekit_TwinBigs
  have h:=copy_loop (l:=l) (f:=fun x=>x) (step:=sparsekit_TwinBigs_l1 l) (by omega) (fun k hk=>by
    have hzk:=hz _ (List.getElem_mem hk)
    unfold sparsekit_TwinBigs_l1
    simp only
    rw [if_pos (by omega),getI_at hk,obs,twinBig_eq (by omega),obs]
    have:=take_map (f:=fun x:Nb=>x) hk
    have ha:app (List.map (fun x=>x) (l.take k)) [l[k]]=some ((l.take (k+1)).map fun x=>x):=Ret.eq (by rw [ret_app]; exact ⟨by simp; omega,this⟩)
    show (app (List.map (fun x=>x) (l.take k)) [(l[k].1,l[k].2)]).bind _=_
    rw [show (l[k].1,l[k].2)=l[k] from rfl,ha,obs]) (by
    unfold sparsekit_TwinBigs_l1
    simp only
    rw [if_neg (by omega)])
  rw [h,obs,List.map_id']
theorem twinRows_eq {T:List (List Nb)} (hT:T.length≤1000) (hr:∀ l,l∈T→l.length≤1000∧∀ z,z∈l→z.2.length≤1000):sparsekit_TwinRows T=some T:=by
  unfold sparsekit_TwinRows
  have h:=copy_loop (l:=T) (f:=fun x=>x) (step:=sparsekit_TwinRows_l1 T) (by omega) (fun k hk=>by
    have hrk:=hr _ (List.getElem_mem hk)
    unfold sparsekit_TwinRows_l1
    simp only
    rw [if_pos (by omega),getI_at hk,obs,twinBigs_eq hrk.1 hrk.2,obs]
    have:=take_map (f:=fun x:List Nb=>x) hk
    have ha:app (List.map (fun x=>x) (T.take k)) [T[k]]=some ((T.take (k+1)).map fun x=>x):=Ret.eq (by rw [ret_app]; exact ⟨by simp; omega,this⟩)
    rw [ha,obs]) (by
    unfold sparsekit_TwinRows_l1
    simp only
    rw [if_neg (by omega)])
  rw [h,obs,List.map_id']
theorem big_self {s:Bool} {l:List Int} (hl:l.length≤1000):sparsekit_Big s l s l=some true:=by
  unfold sparsekit_Big
  rw [if_pos (by simp),limbs_self hl,obs,obs]
theorem bigs_self {l:List Nb} (hl:l.length≤1000) (hz:∀ z,z∈l→z.2.length≤1000):sparsekit_Bigs l l=some true:=by
  unfold sparsekit_Bigs
  have h:=all_loop (l:=l) (step:=sparsekit_Bigs_l1 l l) (p:=fun _=>true) (by omega) (fun k hk=>by
    have hzk:=hz _ (List.getElem_mem hk)
    unfold sparsekit_Bigs_l1
    rw [if_pos (by omega),getI_at hk,obs,obs,big_self hzk,obs,if_pos rfl,if_pos rfl]) (by
    unfold sparsekit_Bigs_l1
    rw [if_neg (by omega)])
  rw [if_pos rfl,h,obs,if_pos (by simp)]
theorem rows_self {T:List (List Nb)} (hT:T.length≤1000) (hr:∀ l,l∈T→l.length≤1000∧∀ z,z∈l→z.2.length≤1000):sparsekit_Rows T T=some true:=by
  unfold sparsekit_Rows
  have h:=all_loop (l:=T) (step:=sparsekit_Rows_l1 T T) (p:=fun _=>true) (by omega) (fun k hk=>by
    have hrk:=hr _ (List.getElem_mem hk)
    unfold sparsekit_Rows_l1
    rw [if_pos (by omega),getI_at hk,obs,obs,bigs_self hrk.1 hrk.2,obs,if_pos rfl,if_pos rfl]) (by
    unfold sparsekit_Rows_l1
    rw [if_neg (by omega)])
  rw [if_pos rfl,h,obs,if_pos (by simp)]
theorem bigsS_ok {l m:List Nb} {w:Nat} {f:Nat→Int} (h:Lg l w f) (h':Lg m w f) (hw:w≤1000) (hl:∀ z,z∈l→z.2.length≤1000):sparsekit_Bigs l m=some true:=by
  have e:l=m:=by
    refine List.ext_getElem? fun k=>?_
    by_cases hk:k < w
    · obtain ⟨z,h1,h2⟩:=h.2 k hk
      obtain ⟨y,h3,h4⟩:=h'.2 k hk
      obtain ⟨e1,e2⟩:=h2.uniq h4
      rw [h1,h3]
      exact congrArg some (Prod.ext e1 e2)
    · rw [List.getElem?_eq_none (by rw [h.1]; omega),List.getElem?_eq_none (by rw [h'.1]; omega)]
  subst e
  exact bigs_self (by rw [h.1]; exact hw) hl
def cw (T:List (List Nb)):Nat:=match T with | []=>0 | l::_=>l.length
theorem xcols_eq (T:List (List Nb)):exact_columns T=some (cw T:Int):=by
  unfold exact_columns
  cases T with
  | nil=>rfl
  | cons l T=>rw [if_neg (by simp; omega)]; rfl
theorem rcols_eq (T:List (List Nb)):sparseref08_Cols T=some (cw T:Int):=by
  unfold sparseref08_Cols
  cases T with
  | nil=>rfl
  | cons l T=>rw [if_neg (by simp; omega)]; rfl
def errT (T:List (List Nb)):Int:=if T.all (fun l=>decide (l.length=cw T))=true then if 16 < T.length∨16 < cw T then 6 else 0 else 5
theorem xcontains_eq {T:List (List Nb)} (hT:T.length≤1000000):slices_ContainsFunc_apiBig T (cw T:Int)=some (!(T.all (fun l=>decide (l.length=cw T)))):=by
  refine Ret.eq ?_
  unfold slices_ContainsFunc_apiBig slices_IndexFunc_apiBig
  rw [ret_bind,ret_bind]
  refine (ret_loop (Post:=fun o:Unit⊕Int=>(T.all (fun l=>decide (l.length=cw T))=true∧o=.inl ())∨(T.all (fun l=>decide (l.length=cw T))=false∧∃ k:Nat,o=.inr (k:Int))) T.length (fun k (i:Int)=>i=(k:Int)∧k≤T.length∧∀ j (hj:j < T.length),j < k→T[j].length=cw T) ⟨rfl,by omega,fun j _ h=>by omega⟩ ?_ (by omega)).mono ?_
  · rintro k _ hk ⟨rfl,hkl,hI⟩
    unfold slices_IndexFunc_apiBig_l1
    rw [ret_if]
    refine ⟨fun hlt=>?_,fun hge=>⟨_,rfl,.inl ⟨List.all_eq_true.2 fun x hx=>?_,rfl⟩⟩⟩
    · have hk':k < T.length:=by omega
      rw [getI_at hk',obs]
      unfold exact_check_1
      rw [obs,ret_if]
      refine ⟨fun hne=>⟨_,rfl,.inr ⟨?_,k,rfl⟩⟩,fun he=>⟨_,rfl,hk',by show wa .i64 (k:Int) 1=_; rw [wa_i (by omega) (by omega)]; rfl,by omega,fun j hj hjk=>?_⟩⟩
      · rw [Bool.eq_false_iff]
        intro h
        have:=List.all_eq_true.1 h _ (List.getElem_mem hk')
        simp only [decide_eq_true_eq] at this
        rw [this] at hne
        simp at hne
      · by_cases e:j=k
        · subst e
          simp only [Bool.not_eq_true',decide_eq_false_iff_not,Classical.not_not] at he
          omega
        · exact hI j hj (by omega)
    · obtain ⟨j,hj,rfl⟩:=List.getElem_of_mem hx
      exact decide_eq_true (hI j hj (by omega))
  · rintro _ (⟨h,rfl⟩ | ⟨h,k,rfl⟩)
    · exact ⟨_,rfl,_,rfl,by rw [h]; rfl⟩
    · refine ⟨_,rfl,_,rfl,?_⟩
      rw [h]
      show decide ((0:Int)≤(k:Int))=true
      exact decide_eq_true (by omega)
theorem xcheck_eq {T:List (List Nb)} (hT:T.length≤1000000):exact_check T=some (errT T):=by
  unfold exact_check
  rw [xcols_eq,obs,xcontains_eq hT,obs]
  unfold errT
  by_cases h:T.all (fun l=>decide (l.length=cw T))=true
  · rw [h,if_neg (by simp),if_pos rfl]
    by_cases h2:16 < T.length∨16 < cw T
    · rw [if_pos (by simp only [Bool.or_eq_true,decide_eq_true_eq]; omega),if_pos h2]
    · rw [if_neg (by simp only [Bool.or_eq_true,decide_eq_true_eq]; omega),if_neg h2]
  · simp only [Bool.not_eq_true] at h
    rw [h,if_pos (by simp),if_neg (by simp)]
theorem rcheck_eq {T:List (List Nb)} (hT:T.length≤150) (hr:∀ l,l∈T→l.length≤1000000):sparseref08_Check T=some (errT T):=by
  unfold sparseref08_Check
  have h:=copy_loop (l:=T) (f:=fun l=>(l.length:Int)) (step:=sparseref08_Check_l1 T) (by omega) (fun k hk=>by
    unfold sparseref08_Check_l1
    simp only
    rw [if_pos (by omega),getI_at hk,obs]
    have:=take_map (f:=fun l:List Nb=>(l.length:Int)) hk
    have ha:app (List.map (fun l:List Nb=>(l.length:Int)) (T.take k)) [(T[k].length:Int)]=some ((T.take (k+1)).map fun l=>(l.length:Int)):=Ret.eq (by rw [ret_app]; exact ⟨by simp; omega,this⟩)
    rw [ha,obs]) (by
    unfold sparseref08_Check_l1
    simp only
    rw [if_neg (by omega)])
  rw [h,obs]
  generalize hL:T.map (fun l:List Nb=>(l.length:Int))=L
  have hLl:L.length=T.length:=by rw [← hL,List.length_map]
  have hL0:0 < T.length→getI L 0=some (cw T:Int):=fun h0=>by
    rw [← hL]
    cases T with
    | nil=>simp at h0
    | cons l T=>rfl
  have hs:=all_loop (l:=L) (step:=sparseref07_Shape_l1 L) (p:=fun x=>decide (x=(cw T:Int))) (by omega) (fun k hk=>by
    unfold sparseref07_Shape_l1
    rw [if_pos (by omega),getI_at hk,obs,hL0 (by omega),obs]
    by_cases e:L[k]=(cw T:Int)
    · rw [if_pos e,if_pos (decide_eq_true e)]
    · rw [if_neg e,if_neg (by simpa using e)]) (by
    unfold sparseref07_Shape_l1
    rw [if_neg (by omega)])
  have hall:L.all (fun x=>decide (x=(cw T:Int)))=T.all (fun l=>decide (l.length=cw T)):=by
    rw [← hL,List.all_map]
    congr 1
    funext l
    show decide ((l.length:Int)=(cw T:Int))=decide (l.length=cw T)
    exact decide_eq_decide.2 (by omega)
  rw [hall] at hs
  unfold errT
  by_cases ha:T.all (fun l=>decide (l.length=cw T))=true
  · have hsh:∃ e,sparseref07_Shape L=some e∧e≠5:=by
      unfold sparseref07_Shape
      rw [hs,obs,if_pos ha]
      simp only
      rw [if_neg (by omega)]
      by_cases h0:(0:Int) < (L.length:Int)
      · rw [if_pos h0,hL0 (by omega),obs,obs,obs]
        split
        · exact ⟨6,rfl,by omega⟩
        · exact ⟨0,rfl,by omega⟩
      · rw [if_neg h0,obs,obs]
        exact ⟨0,rfl,by omega⟩
    obtain ⟨e,he,hne⟩:=hsh
    rw [he,obs,if_neg hne,if_pos ha,rcols_eq]
    by_cases hn:16 < T.length
    · rw [if_pos (by omega),obs,if_pos rfl,if_pos (.inl hn)]
    · rw [if_neg (by omega),obs,obs]
      by_cases hw:16 < cw T
      · rw [if_pos (by simp; omega),if_pos (.inr hw)]
      · rw [if_neg (by simp; omega),if_neg (by omega)]
  · have hsh:sparseref07_Shape L=some 5:=by
      unfold sparseref07_Shape
      rw [hs,obs,if_neg ha]
    rw [hsh,obs,if_pos rfl,if_neg ha]
def vT (T:List (List Nb)):Mx:=fun r c=>match T[r]? with | some l=>(match l[c]? with | some z=>sv z.1 z.2 | none=>0) | none=>0
theorem tr_of {T:List (List Nb)} {K:Nat} (ha:T.all (fun l=>decide (l.length=cw T))=true) (hz:∀ l,l∈T→∀ z,z∈l→LW z.2∧z.2.length≤K):Tr K T T.length (cw T) (vT T):=by
  refine ⟨rfl,fun r hr=>⟨T[r],List.getElem?_eq_getElem hr,?_,fun c hc=>?_⟩⟩
  · have:=List.all_eq_true.1 ha _ (List.getElem_mem hr)
    simpa using this
  · have hl:T[r].length=cw T:=by
      have:=List.all_eq_true.1 ha _ (List.getElem_mem hr)
      simpa using this
    have hc':c < T[r].length:=by omega
    refine ⟨T[r][c],List.getElem?_eq_getElem hc',(hz _ (List.getElem_mem hr) _ (List.getElem_mem hc')).1,(hz _ (List.getElem_mem hr) _ (List.getElem_mem hc')).2,?_⟩
    unfold vT
    rw [List.getElem?_eq_getElem hr]
    simp only
    rw [List.getElem?_eq_getElem hc']
def vL (l:List Nb):Nat→Int:=fun c=>match l[c]? with | some z=>sv z.1 z.2 | none=>0
theorem lr_of {l:List Nb} {K:Nat} (hz:∀ z,z∈l→LW z.2∧z.2.length≤K):Lr K l l.length (vL l):=by
  refine ⟨rfl,fun c hc=>⟨l[c],List.getElem?_eq_getElem hc,(hz _ (List.getElem_mem hc)).1,(hz _ (List.getElem_mem hc)).2,?_⟩⟩
  unfold vL
  rw [List.getElem?_eq_getElem hc]
theorem Tr.bd {K n w:Nat} {T:List (List Nb)} {A:Mx} (h:Tr K T n w A):∀ i j,i < n→j < w→Bd (pw K) (A i j):=fun i j hi hj=>by
  obtain ⟨l,h1,h2⟩:=h.2 i hi
  obtain ⟨z,h3,h4⟩:=h2.2 j hj
  exact h4.bd
theorem Lr.bd {K w:Nat} {l:List Nb} {f:Nat→Int} (h:Lr K l w f):∀ j,j < w→Bd (pw K) (f j):=fun j hj=>by
  obtain ⟨z,h3,h4⟩:=h.2 j hj
  exact h4.bd
theorem xsquare_eq {T:List (List Nb)} (hT:T.length≤1000000):exact_square T=some (if errT T=0 then (if T.length=cw T then 0 else 5) else errT T):=by
  unfold exact_square
  rw [xcheck_eq hT,obs]
  by_cases h:errT T=0
  · rw [if_pos h,if_pos h,xcols_eq,obs,obs]
    by_cases e:T.length=cw T
    · rw [if_neg (by simp; omega),if_pos e,h]
    · rw [if_pos (by simp; omega),if_neg e]
  · rw [if_neg h,if_neg h,obs,if_neg (by simp)]
end Km
namespace Km
open Sx Go M Vc Lm Dt
section
variable {n w K:Nat} {A:Mx} {T:List (List Nb)} {M:Int}
theorem rdet_ok (hM:M < pw 60) (hR:Okb n n A M) (hT:Tr K T n n A) (hK:K≤400) (hn:n≤16):Ret (sparseref08_Det T) (fun r=>Bg (det n A) r.1 r.2):=by
  unfold sparseref08_Det
  rw [ret_bind]
  refine (fracs_ok hT hK (by omega) (by omega)).mono fun F hF=>?_
  rw [hT.1,ret_bind]
  refine (echelon08_ok hM hR (by omega) (by omega) hF).mono ?_
  rintro ⟨F',pv,ds,dl,es,el⟩ ⟨A',col,k,sn,hB,hT',hpv,hd,he,hnz⟩
  simp only at hT' hpv hd he ⊢
  have hpl:pv.length=k:=by rw [hpv,List.length_map,List.length_range]
  rw [hpl,ret_if]
  refine ⟨fun hlt=>⟨_,rfl,?_⟩,fun hge=>⟨_,rfl,?_⟩⟩
  · rw [hB.det0 (by omega)]; exact bg_zero
  · have hkn:=hB.kn
    obtain rfl:k=n:=by omega
    rw [hB.det_ok] at hd
    refine hd.cast ?_
    rcases hB.sg.1 with e | e
    · rw [e]; omega
    · rw [e]; omega
def repl (A:Mx) (j:Nat) (g:Nat→Int):Mx:=fun r c=>if c=j then g r else A r c
theorem repl_det (A:Mx) (j:Nat) (g:Nat→Int):det n (repl A j g)=det n (tp (up (tp A) j g)):=rfl
theorem Lr.set {l:List Nb} {f:Nat→Int} (h:Lr K l w f) {c:Nat} (hc:c < w) {z:Nb} {v:Int} (hz:Rw K v z):Lr K (l.set c z) w (fun j=>if j=c then v else f j):=by
  refine ⟨by rw [List.length_set]; exact h.1,fun j hj=>?_⟩
  by_cases e:j=c
  · subst e
    exact ⟨z,by rw [List.getElem?_set_self]; rw [h.1]; exact hc,by show Rw K (if j=j then v else f j) z; rw [if_pos rfl]; exact hz⟩
  · obtain ⟨y,h1,h2⟩:=h.2 j hj
    exact ⟨y,by rw [List.getElem?_set_ne (fun h=>e h.symm)]; exact h1,by show Rw K (if j=c then v else f j) y; rw [if_neg e]; exact h2⟩
theorem Tr.snoc {k:Nat} (h:Tr K T k w A) {l:List Nb} (hl:Lr K l w (A k)):Tr K (T++[l]) (k+1) w A:=by
  refine ⟨by rw [List.length_append,h.1]; rfl,fun c hc=>?_⟩
  by_cases e:c < k
  · obtain ⟨y,h1,h2⟩:=h.2 c e
    exact ⟨y,by rw [List.getElem?_append_left (by rw [h.1]; exact e)]; exact h1,h2⟩
  · obtain rfl:c=k:=by omega
    exact ⟨l,by rw [List.getElem?_append_right (by rw [h.1]; omega),h.1,Nat.sub_self]; rfl,hl⟩
theorem Lr.snoc {l:List Nb} {k:Nat} {f:Nat→Int} (h:Lr K l k f) {z:Nb} (hz:Rw K (f k) z):Lr K (l++[z]) (k+1) f:=by
  refine ⟨by rw [List.length_append,h.1]; rfl,fun c hc=>?_⟩
  by_cases e:c < k
  · obtain ⟨y,h1,h2⟩:=h.2 c e
    exact ⟨y,by rw [List.getElem?_append_left (by rw [h.1]; exact e)]; exact h1,h2⟩
  · obtain rfl:c=k:=by omega
    exact ⟨z,by rw [List.getElem?_append_right (by rw [h.1]; omega),h.1,Nat.sub_self]; rfl,hz⟩
theorem replaced_ok {b:List Nb} {g:Nat→Int} (hT:Tr K T n w A) (hb:Lr K b n g) {j:Nat} (hj:j < w) (hn:n≤1000) (hw:w≤1000):Ret (sparseref08_replaced T (j:Int) b) (fun R=>Tr K R n w (repl A j g)):=by
  unfold sparseref08_replaced
  rw [ret_bind]
  refine (ret_loop (Post:=fun R:List (List Nb)=>Tr K R n w (repl A j g)) n (fun r (s:List (List Nb)×Int)=>s.2=(r:Int)∧Tr K s.1 r w (repl A j g)) ⟨rfl,rfl,fun c hc=>absurd hc (by omega)⟩ ?_ (by omega)).mono fun r hr=>⟨_,rfl,hr⟩
  rintro r ⟨F,_⟩ hr ⟨rfl,hI⟩
  simp only at hI
  unfold sparseref08_replaced_l1
  simp only
  rw [hT.1,ret_if]
  refine ⟨fun hlt=>?_,fun hge=>⟨_,rfl,by have e:r=n:=(by omega); subst e; exact hI⟩⟩
  have hrn:r < n:=by omega
  obtain ⟨row,h1,h2⟩:=hT.at hrn (i:=(r:Int)) rfl
  obtain ⟨z,h3,h4⟩:=hb.at hrn (i:=(r:Int)) rfl
  rw [h1,obs,ret_bind,ret_app]
  refine ⟨by simp only [List.length_nil]; have:=h2.1; omega,?_⟩
  rw [List.nil_append,h3,obs,set_some (by rw [h2.1]; exact hj) rfl,obs,ret_bind,ret_app]
  exact ⟨by rw [hI.1]; simp only [List.length_cons,List.length_nil]; omega,_,rfl,hrn,by show wa .i64 (r:Int) 1=_; rw [wa_i (by omega) (by omega)]; rfl,hI.snoc (h2.set hj (z:=(z.1,z.2)) h4)⟩
theorem rsolve_ok {G:Int} (hG:1≤G) (hM:2*(((4:Nat):Int)*G) ^ (n+2) < pw 60) (hT:Tr K T n n A) {b:List Nb} {g:Nat→Int} (hb:Lr K b n g) (hK:K≤400) (bA:∀ i j,i < n→j < n→Bd G (A i j)) (bg:∀ i,i < n→Bd G (g i)) (hn:n≤4):
    Ret (sparseref08_Solve T b) (fun r=>(r.2.2.2=false∧det n A=0)∨(r.2.2.2=true∧det n A≠0∧Bg (if det n A < 0 then - det n A else det n A) r.2.1 r.2.2.1∧Lg r.1 n fun j=>if det n A < 0 then - det n (repl A j g) else det n (repl A j g))):=by
  have okA:Okb n n A (2*(((4:Nat):Int)*G) ^ (n+2)):=okb_of hG (by omega) hn bA
  have okR:∀ j,Okb n n (repl A j g) (2*(((4:Nat):Int)*G) ^ (n+2)):=fun j=>okb_of hG (by omega) hn fun i c hi hc=>by
    unfold repl; split
    · exact bg i hi
    · exact bA i c hi hc
  have h4G:1≤(((4:Nat):Int)*G):=by omega
  have bdet:∀ {X:Mx},(∀ i j,i < n→j < n→Bd G (X i j))→Bk 60 (det n X):=fun hX=>Bk.of ((det_bd (K:=4) hG hn hX).mono (by
    have h1:=pow_mono h4G (show n≤n+2 by omega)
    have h2:=Dt.pow_nn (X:=((4:Nat):Int)*G) (by omega) (n+2)
    omega)) hM
  unfold sparseref08_Solve
  rw [ret_bind]
  refine (rdet_ok hM okA hT hK (by omega)).mono ?_
  rintro ⟨ds,dl⟩ hd
  simp only at hd ⊢
  have ld:=(bdet bA).len hd
  have hsg:=signR_bg hd (by omega)
  rw [hsg,obs,ret_if]
  refine ⟨fun h0=>⟨_,rfl,.inl ⟨rfl,?_⟩⟩,fun h0=>?_⟩
  · revert h0; split
    · omega
    · split
      · omega
      · intro _; omega
  · have hne:det n A≠0:=fun h=>h0 (by rw [h]; rfl)
    rw [ret_bind]
    refine (ret_loop (Post:=fun R:List Nb=>Lg R n fun j=>if det n A < 0 then - det n (repl A j g) else det n (repl A j g)) n (fun j (s:List Nb×Int)=>s.2=(j:Int)∧Lg s.1 j fun j=>if det n A < 0 then - det n (repl A j g) else det n (repl A j g)) ⟨rfl,rfl,fun c hc=>absurd hc (by omega)⟩ ?_ (by omega)).mono ?_
    · rintro j ⟨F,_⟩ hj ⟨rfl,hI⟩
      simp only at hI
      unfold sparseref08_Solve_l3
      simp only
      rw [hT.1,ret_if]
      refine ⟨fun hlt=>?_,fun hge=>⟨_,rfl,by have e:j=n:=(by omega); subst e; exact hI⟩⟩
      have hjn:j < n:=by omega
      rw [ret_bind]
      refine (replaced_ok hT hb hjn (by omega) (by omega)).mono fun R hR=>?_
      rw [ret_bind]
      refine (rdet_ok hM (okR j) hR hK (by omega)).mono ?_
      rintro ⟨ys,yl⟩ hy
      simp only at hy ⊢
      have ly:=(bdet (X:=repl A j g) fun i c hi hc=>by
        unfold repl; split
        · exact bg i hi
        · exact bA i c hi hc).len hy
      have key:∀ (us:Bool) (ul:List Int),Bg (if det n A < 0 then - det n (repl A j g) else det n (repl A j g)) us ul→Ret (sparseref08_Solve_j4 F (j:Int) us ul) (VQ (fun s:List Nb×Int=>j < n∧s.2=((j+1:Nat):Int)∧Lg s.1 (j+1) fun j=>if det n A < 0 then - det n (repl A j g) else det n (repl A j g)) (fun R:List Nb=>Lg R n fun j=>if det n A < 0 then - det n (repl A j g) else det n (repl A j g))):=fun us ul hu=>by
        unfold sparseref08_Solve_j4
        rw [ret_bind,ret_app]
        exact ⟨by rw [hI.1]; simp only [List.length_cons,List.length_nil]; omega,_,rfl,hjn,by show wa .i64 (j:Int) 1=_; rw [wa_i (by omega) (by omega)]; rfl,hI.snoc (z:=(us,ul)) hu⟩
      rw [hsg,obs,ret_if]
      refine ⟨fun hneg=>?_,fun hpos=>?_⟩
      · have hv0:det n A < 0:=by revert hneg; split<;>(try split)<;>omega
        rw [ret_bind]
        refine (negR_bg (s:=ys) hy.1 (by omega)).mono fun r hr=>?_
        obtain ⟨hr,_⟩:=hr
        rw [hy.sv] at hr
        exact key _ _ (by rw [if_pos hv0]; exact hr)
      · have hv0:¬ det n A < 0:=fun h=>hpos (by rw [if_pos h]; omega)
        exact key _ _ (by rw [if_neg hv0]; exact hy)
    · intro R hR
      rw [ret_bind]
      refine (absR_bg (s:=ds) hd.1 (by omega)).mono fun r hr=>?_
      obtain ⟨hr,_⟩:=hr
      rw [hd.abs] at hr
      exact ⟨_,rfl,.inr ⟨rfl,hne,hr,hR⟩⟩
theorem sol_uniq {g x:Nat→Int} (hne:det n A≠0) (hx:∀ i,i < n→sm n (fun j=>A i j*x j)=(if det n A < 0 then - det n A else det n A)*g i):∀ j,j < n→x j=if det n A < 0 then - det n (repl A j g) else det n (repl A j g):=by
  intro j hj
  have h1:=cramer_uniq A x (fun i=>(if det n A < 0 then - det n A else det n A)*g i) hx hj
  have h2:det n (tp (up (tp A) j fun i=>(if det n A < 0 then - det n A else det n A)*g i))=(if det n A < 0 then - det n A else det n A)*det n (repl A j g):=by
    have hsc:=(det_am n).scale hj (up (tp A) j g) (if det n A < 0 then - det n A else det n A)
    rw [up_up] at hsc
    have e:(fun c=>(if det n A < 0 then - det n A else det n A)*up (tp A) j g j c)=fun c=>(if det n A < 0 then - det n A else det n A)*g c:=by funext c; rw [up_in]
    rw [e] at hsc
    rw [det_tp,hsc,repl_det,det_tp]
  rw [h2] at h1
  by_cases h0:det n A < 0
  · rw [if_pos h0] at h1 ⊢
    have:det n A*(x j+det n (repl A j g))=0:=by grind
    rcases Int.mul_eq_zero.1 this with h | h
    · exact absurd h hne
    · omega
  · rw [if_neg h0] at h1 ⊢
    exact Int.eq_of_mul_eq_mul_left hne h1
theorem iprodR {K:Nat} {v u s:Int} {y z q:Nb} (hK:K≤60) (hy:Rw K v y) (hz:Rw K u z) (hq:Bg s q.1 q.2) (hs:q.2.length≤500):Ret ((sparseref01_Mul y.1 y.2 z.1 z.2).bind fun r=>sparseref01_Add q.1 q.2 r.1 r.2) (fun r=>Bg (s+v*u) r.1 r.2):=by
  have l1:=hy.2.1
  have l2:=hz.2.1
  rw [ret_bind]
  refine (mulR_bg (s:=y.1) (t:=z.1) hy.1 hz.1 (by omega) (by omega)).mono fun r hr=>?_
  have b1:=bk_sv (s:=y.1) hy.1 l1
  have b2:=bk_sv (s:=z.1) hz.1 l2
  rw [hy.2.2,hz.2.2] at hr
  rw [hy.2.2] at b1
  rw [hz.2.2] at b2
  have lr:=(b1.mul b2).len hr
  refine (addR_bg (s:=q.1) (t:=r.1) hq.1 hr.1 (by omega) (by omega)).mono fun t ht=>?_
  rw [hq.sv,hr.sv] at ht
  exact ht
theorem sm_len {k:Nat} {f g:Nat→Int} {zs:Bool} {zl:List Int} (hk:k≤1000) (hf:∀ x,x < k→Bd (pw K) (f x)) (hg:∀ x,x < k→Bd (pw K) (g x)) (hI:Bg (sm k fun x=>f x*g x) zs zl):zl.length≤2*K+2:=by
  have hp:=pw_pos K
  have hb1:=sm_bd (n:=k) (M:=pw K*pw K) (Int.mul_nonneg (by omega) (by omega)) fun x hx=>(hf x hx).mul (hg x hx)
  refine hI.lenB hb1 ?_
  have e1:pw (K+K)=pw K*pw K:=pw_add K K
  have e2:pw (K+K+1)=B*pw (K+K):=rfl
  have e3:pw (K+K+2)=B*pw (K+K+1):=rfl
  have e4:B=4294967296:=rfl
  have h3:=pw_pos (K+K)
  have e5:(k:Int)*(pw K*pw K)≤1000*(pw K*pw K):=Int.mul_le_mul_of_nonneg_right (by omega) (by omega)
  have:2*K+2=K+K+2:=by omega
  rw [this,e3,e2,e4]
  omega
theorem ydot_ok {a b:List Nb} {f g:Nat→Int} (ha:Lr K a w f) (hb:Lr K b w g) (hK:K≤60) (hw:w≤900):Ret (sparseref08_Dot a b) (fun r=>Bg (sm w fun j=>f j*g j) r.1 r.2):=by
  unfold sparseref08_Dot
  rw [ret_bind]
  refine (ret_loop (Post:=fun r:Bool×List Int=>Bg (sm w fun j=>f j*g j) r.1 r.2) w (fun k (s:Bool×List Int×Int)=>s.2.2=(k:Int)∧Bg (sm k fun j=>f j*g j) s.1 s.2.1) ⟨rfl,bg_zero.cast (show (0:Int)=sm 0 (fun j=>f j*g j) from rfl)⟩ ?_ (by omega)).mono fun r hr=>⟨_,rfl,hr⟩
  rintro k ⟨zs,zl,_⟩ hk ⟨rfl,hI⟩
  simp only at hI
  unfold sparseref08_Dot_l1
  simp only
  rw [ha.1,ret_if]
  refine ⟨fun hlt=>?_,fun hge=>⟨_,rfl,by have e:k=w:=(by omega); subst e; exact hI⟩⟩
  have hkw:k < w:=by omega
  obtain ⟨x,hx,hxB⟩:=ha.at hkw (i:=(k:Int)) rfl
  obtain ⟨y,hy,hyB⟩:=hb.at hkw (i:=(k:Int)) rfl
  have ls:=sm_len (K:=K) (show k≤1000 by omega) (fun x hx=>by
    obtain ⟨z,_,h⟩:=ha.2 x (by omega); exact h.bd) (fun x hx=>by
    obtain ⟨z,_,h⟩:=hb.2 x (by omega); exact h.bd) hI
  rw [hx,obs,hy,obs]
  have:=iprodR (q:=(zs,zl)) hK hxB hyB hI (by simp only; omega)
  simp only at this
  rw [ret_bind] at this
  rw [ret_bind]
  refine this.mono fun r hr=>?_
  rw [ret_bind]
  refine hr.mono fun t ht=>?_
  exact ⟨_,rfl,hkw,by show wa .i64 (k:Int) 1=_; rw [wa_i (by omega) (by omega)]; rfl,ht⟩
theorem ytimes_ok {x:List Nb} {f:Nat→Int} (hT:Tr K T n w A) (hx:Lr K x w f) (hK:K≤60) (hn:n≤900) (hw:w≤900):Ret (sparseref08_Times T x) (fun r=>Lg r n (fun i=>sm w fun j=>A i j*f j)):=by
  unfold sparseref08_Times
  rw [ret_bind]
  refine (ret_loop (Post:=fun r:List Nb=>Lg r n (fun i=>sm w fun j=>A i j*f j)) n (fun k (s:List Nb×Int)=>s.2=(k:Int)∧Lg s.1 k (fun i=>sm w fun j=>A i j*f j)) ⟨rfl,rfl,fun c hc=>absurd hc (by omega)⟩ ?_ (by omega)).mono fun r hr=>⟨_,rfl,hr⟩
  rintro k ⟨o,_⟩ hk ⟨rfl,hI⟩
  simp only at hI
  unfold sparseref08_Times_l1
  simp only
  rw [hT.1,ret_if]
  refine ⟨fun hlt=>?_,fun hge=>⟨_,rfl,by have e:k=n:=(by omega); subst e; exact hI⟩⟩
  have hkn:k < n:=by omega
  obtain ⟨row,h1,h2⟩:=hT.at hkn (i:=(k:Int)) rfl
  rw [h1,obs,ret_bind]
  refine (ydot_ok h2 hx hK hw).mono fun r hr=>?_
  rw [ret_bind,ret_app]
  exact ⟨by rw [hI.1]; simp only [List.length_cons,List.length_nil]; omega,_,rfl,hkn,by show wa .i64 (k:Int) 1=_; rw [wa_i (by omega) (by omega)]; rfl,hI.snoc (z:=(r.1,r.2)) hr⟩
theorem ytransp_ok (hT:Tr K T n w A) (hn:n≤900) (hw:w≤900) (hn0:0 < n∨w=0):Ret (sparseref08_Transpose T) (fun r=>Tr K r w n (tp A)):=by
  unfold sparseref08_Transpose
  rw [ret_bind]
  refine (ret_loop (Post:=fun r:List (List Nb)=>Tr K r w n (tp A)) w (fun j (s:List (List Nb)×Int)=>s.2=(j:Int)∧Tr K s.1 j n (tp A)) ⟨rfl,rfl,fun c hc=>absurd hc (by omega)⟩ ?_ (by omega)).mono fun r hr=>⟨_,rfl,hr⟩
  rintro j ⟨o,_⟩ hj ⟨rfl,hI⟩
  simp only at hI
  unfold sparseref08_Transpose_l3
  simp only
  rw [yrcols_ok hT.sh,obs,ret_if]
  refine ⟨fun hlt=>?_,fun hge=>⟨_,rfl,by
    have e:j=w:=by
      by_cases h0:n=0
      · omega
      · rw [if_neg h0] at hge; omega
    subst e; exact hI⟩⟩
  have hjw:j < w:=by
    by_cases h0:n=0
    · rw [if_pos h0] at hlt; omega
    · rw [if_neg h0] at hlt; omega
  rw [ret_bind]
  refine (ret_loop (Post:=fun r:List Nb=>Lr K r n (tp A j)) n (fun i (s:List Nb×Int)=>s.2=(i:Int)∧Lr K s.1 i (tp A j)) ⟨rfl,rfl,fun c hc=>absurd hc (by omega)⟩ ?_ (by omega)).mono ?_
  · rintro i ⟨r,_⟩ hi ⟨rfl,hJ⟩
    simp only at hJ
    unfold sparseref08_Transpose_l4
    simp only
    rw [hT.1,ret_if]
    refine ⟨fun hlt2=>?_,fun hge=>⟨_,rfl,by have e:i=n:=(by omega); subst e; exact hJ⟩⟩
    have hin:i < n:=by omega
    obtain ⟨row,h1,h2⟩:=hT.at hin (i:=(i:Int)) rfl
    obtain ⟨z,h3,h4⟩:=h2.at hjw (i:=(j:Int)) rfl
    rw [h1,obs,h3,obs,ret_bind,ret_app]
    exact ⟨by rw [hJ.1]; simp only [List.length_cons,List.length_nil]; omega,_,rfl,hin,by show wa .i64 (i:Int) 1=_; rw [wa_i (by omega) (by omega)]; rfl,hJ.snoc (z:=(z.1,z.2)) h4⟩
  · intro r hr
    rw [ret_bind,ret_app]
    exact ⟨by rw [hI.1]; simp only [List.length_cons,List.length_nil]; omega,_,rfl,hjw,by show wa .i64 (j:Int) 1=_; rw [wa_i (by omega) (by omega)]; rfl,hI.snoc hr⟩
theorem yproduct_ok {v:Nat} {C:Mx} {U:List (List Nb)} (hT:Tr K T n w A) (hU:Tr K U w v C) (hK:K≤60) (hn:n≤900) (hw:w≤900) (hv:v≤900) (hw0:0 < w∨v=0):Ret (sparseref08_Product T U) (fun r=>Tg r n v (mul w A C)):=by
  unfold sparseref08_Product
  rw [ret_bind]
  refine (ytransp_ok hU hw hv hw0).mono fun t ht=>?_
  rw [ret_bind]
  refine (ret_loop (Post:=fun r:List (List Nb)=>Tg r n v (mul w A C)) n (fun j (s:List (List Nb)×Int)=>s.2=(j:Int)∧Tg s.1 j v (mul w A C)) ⟨rfl,rfl,fun c hc=>absurd hc (by omega)⟩ ?_ (by omega)).mono fun r hr=>⟨_,rfl,hr⟩
  rintro j ⟨o,_⟩ hj ⟨rfl,hI⟩
  simp only at hI
  unfold sparseref08_Product_l1
  simp only
  rw [hT.1,ret_if]
  refine ⟨fun hlt=>?_,fun hge=>⟨_,rfl,by have e:j=n:=(by omega); subst e; exact hI⟩⟩
  have hjn:j < n:=by omega
  obtain ⟨row,h1,h2⟩:=hT.at hjn (i:=(j:Int)) rfl
  rw [h1,obs,ret_bind]
  refine (ytimes_ok ht h2 hK hv hw).mono fun r hr=>?_
  rw [ret_bind,ret_app]
  exact ⟨by rw [hI.1]; simp only [List.length_cons,List.length_nil]; omega,_,rfl,hjn,by show wa .i64 (j:Int) 1=_; rw [wa_i (by omega) (by omega)]; rfl,hI.snoc (hr.congr fun c _=>sm_congr fun k _=>by show C k c*A j k=A j k*C k c; rw [Int.mul_comm])⟩
end
end Km
namespace Km
open Sx Go M Vc Lm Dt
theorem awake08b:sparselaw08_awake=some true:=by kernel_rfl
theorem solve_err {T:List (List Nb)} {b:List Nb} {e:Int} (h:exact_square T=some e) (he:e≠0):exact_Solve T b=some ([],false,[],e):=by
  unfold exact_Solve
  rw [h,obs,if_neg he]
theorem solve_len {T:List (List Nb)} {b:List Nb} (h:exact_square T=some 0) (he:b.length≠T.length):exact_Solve T b=some ([],false,[],2):=by
  unfold exact_Solve
  rw [h,obs,if_pos rfl,if_neg (by omega)]
theorem least_err {T:List (List Nb)} {b:List Nb} {e:Int} (h:exact_check T=some e) (he:e≠0):exact_Least T b=some ([],false,[],e):=by
  unfold exact_Least
  rw [h,obs,if_neg he]
theorem least_len {T:List (List Nb)} {b:List Nb} (h:exact_check T=some 0) (he:b.length≠T.length):exact_Least T b=some ([],false,[],2):=by
  unfold exact_Least
  rw [h,obs,if_pos rfl,if_neg (by omega)]
theorem least_nil {T:List (List Nb)} {b:List Nb} (h:exact_check T=some 0) (he:b.length=T.length) (hc:exact_columns T=some 0):exact_Least T b=some ([],false,[1],0):=by
  refine Ret.eq ?_
  unfold exact_Least
  rw [h,obs,if_pos rfl,if_pos (by omega),hc,obs,ret_bind,ret_mkL]
  refine ⟨by omega,by omega,?_⟩
  rw [ret_bind,ret_mkL]
  refine ⟨by omega,by omega,?_⟩
  rw [ret_bind]
  refine (ret_loop (Post:=fun r:List (List Nb)×List Nb=>r=([],[])) 0 (fun k s=>s=([],[],0)) rfl ?_ (by omega)).mono ?_
  · rintro k _ hk rfl
    unfold exact_Least_l4
    simp only
    rw [if_neg (by omega)]
    exact ⟨_,rfl,rfl⟩
  · rintro _ rfl
    simp only
    rw [solve_nil,obs]
    exact ⟨_,rfl,rfl⟩
theorem rsolve_nil:sparseref08_Solve [] []=some ([],false,[1],true):=by kernel_rfl
theorem rleast_nil {T:List (List Nb)} {b:List Nb} (hc:sparseref08_Cols T=some 0):sparseref08_Least T b=some ([],false,[1],true):=by
  have ht:sparseref08_Transpose T=some []:=by
    refine Ret.eq ?_
    unfold sparseref08_Transpose
    rw [ret_bind]
    refine (ret_loop (Post:=fun r:List (List Nb)=>r=[]) 0 (fun k s=>s=([],0)) rfl ?_ (by omega)).mono ?_
    · rintro k _ hk rfl
      unfold sparseref08_Transpose_l3
      simp only
      rw [hc,obs,if_neg (by omega)]
      exact ⟨_,rfl,rfl⟩
    · rintro _ rfl
      exact ⟨_,rfl,rfl⟩
  have hp:sparseref08_Product [] T=some []:=by
    refine Ret.eq ?_
    unfold sparseref08_Product
    rw [ht,obs,ret_bind]
    refine (ret_loop (Post:=fun r:List (List Nb)=>r=[]) 0 (fun k s=>s=([],0)) rfl ?_ (by omega)).mono ?_
    · rintro k _ hk rfl
      unfold sparseref08_Product_l1
      exact ⟨_,rfl,rfl⟩
    · rintro _ rfl
      exact ⟨_,rfl,rfl⟩
  have hq:sparseref08_Times [] b=some []:=by
    refine Ret.eq ?_
    unfold sparseref08_Times
    rw [ret_bind]
    refine (ret_loop (Post:=fun r:List Nb=>r=[]) 0 (fun k s=>s=([],0)) rfl ?_ (by omega)).mono ?_
    · rintro k _ hk rfl
      unfold sparseref08_Times_l1
      exact ⟨_,rfl,rfl⟩
    · rintro _ rfl
      exact ⟨_,rfl,rfl⟩
  unfold sparseref08_Least
  rw [ht,obs,hp,obs,hq,obs,rsolve_nil,obs]
theorem big_zero:sparsekit_Big false [] false []=some true:=by kernel_rfl
theorem big_some (s:Bool) (l:List Int):∃ r,sparsekit_Big s l false []=some r:=by
  unfold sparsekit_Big
  by_cases h:(s == false)=true
  · rw [if_pos h]
    cases l with
    | nil=>exact ⟨true,by kernel_rfl⟩
    | cons x l=>
      have:sparsekit_Limbs (x::l) []=some false:=by unfold sparsekit_Limbs; rw [if_neg (by simp; omega)]
      rw [this,obs,obs]
      exact ⟨_,rfl⟩
  · rw [if_neg h,obs]
    exact ⟨_,rfl⟩
theorem b9_ok {n:Nat} (hn:n≤4):2*(((4:Nat):Int)*pw 9) ^ (n+2) < pw 60:=by
  have hp:=pw_pos 9
  have h1:=pow_mono (X:=((4:Nat):Int)*pw 9) (by omega) (show n+2≤6 by omega)
  have h2:2*(((4:Nat):Int)*pw 9) ^ 6 < pw 60:=by decide
  omega
theorem Lr.bigs {l:List Nb} {w:Nat} {f:Nat→Int} {M:Int} (h:Lg l w f) (hb:∀ j,j < w→Bd M (f j)) (hM:M < pw 60):∀ z,z∈l→z.2.length≤1000:=by
  intro z hz
  obtain ⟨j,hj,rfl⟩:=List.getElem_of_mem hz
  obtain ⟨y,h1,h2⟩:=h.2 j (by rw [← h.1]; exact hj)
  rw [List.getElem?_eq_getElem hj] at h1
  obtain rfl:=Option.some.inj h1
  have:=h2.lenB (hb j (by rw [← h.1]; exact hj)) hM
  omega
def SolveSame (T:List (List Nb)) (b:List Nb):Prop:=
  (exact_Solve T b=some ([],false,[],9)∧∃ xs ds dl,sparseref08_Solve T b=some (xs,ds,dl,false))∨
  ∃ xs ds dl,exact_Solve T b=some (xs,ds,dl,0)∧sparseref08_Solve T b=some (xs,ds,dl,true)∧sparsekit_Bigs xs xs=some true∧sparsekit_Big ds dl ds dl=some true
theorem Lg.eq {l m:List Nb} {w:Nat} {f:Nat→Int} (h:Lg l w f) (h':Lg m w f):l=m:=by
  refine List.ext_getElem? fun k=>?_
  by_cases hk:k < w
  · obtain ⟨z,h1,h2⟩:=h.2 k hk
    obtain ⟨y,h3,h4⟩:=h'.2 k hk
    obtain ⟨e1,e2⟩:=h2.uniq h4
    rw [h1,h3]
    exact congrArg some (Prod.ext e1 e2)
  · rw [List.getElem?_eq_none (by rw [h.1]; omega),List.getElem?_eq_none (by rw [h'.1]; omega)]
theorem solve_same {n K:Nat} {A:Mx} {T:List (List Nb)} {b:List Nb} {g:Nat→Int} (hT:Tr K T n n A) (hb:Lr K b n g) (hK:K≤400) (bA:∀ i j,i < n→j < n→Bd (pw 9) (A i j)) (bg:∀ i,i < n→Bd (pw 9) (g i)) (hn:n≤4):SolveSame T b:=by
  by_cases h0:n=0
  · subst h0
    obtain rfl:=List.eq_nil_of_length_eq_zero hT.1
    obtain rfl:=List.eq_nil_of_length_eq_zero hb.1
    exact .inr ⟨[],false,[1],solve_nil,rsolve_nil,bigs_self (by simp) (by simp),big_self (by simp)⟩
  · have hM:=b9_ok hn
    have hp9:=pw_pos 9
    have okN:Okb n (n+1) (aug A n g) (2*(((4:Nat):Int)*pw 9) ^ (n+2)):=okb_of (by omega) (by omega) hn fun i j hi hj=>by
      unfold aug; split
      · exact bg i hi
      · exact bA i j hi (by omega)
    obtain ⟨⟨xs,ds,dl,e⟩,h1,h2⟩:=ysolve_ok hM hT hb hK okN (by omega) (by omega)
    obtain ⟨⟨ys,es,el,o⟩,h3,h4⟩:=rsolve_ok (G:=pw 9) (by omega) hM hT hb hK bA bg hn
    simp only at h2 h4
    rcases h2 with ⟨rfl,d0,rfl,rfl,rfl⟩ | ⟨rfl,d0,x,hx,hd,bx,heq⟩
    · rcases h4 with ⟨rfl,_⟩ | ⟨rfl,d1,_⟩
      · exact .inl ⟨h1,_,_,_,h3⟩
      · exact absurd d0 d1
    · rcases h4 with ⟨rfl,d1⟩ | ⟨rfl,d1,he,hy⟩
      · exact absurd d1 d0
      · obtain ⟨rfl,rfl⟩:=hd.uniq he
        have hx':Lg xs n (fun j=>if det n A < 0 then - det n (repl A j g) else det n (repl A j g)):=hx.congr fun j hj=>sol_uniq d0 heq j hj
        obtain rfl:=hx'.eq hy
        refine .inr ⟨xs,ds,dl,h1,h3,bigs_self (by rw [hx.1]; omega) (Lr.bigs hx bx hM),?_⟩
        have hbk:=(det_bd (K:=4) (show (1:Int)≤pw 9 by omega) hn bA).mono (show (((4:Nat):Int)*pw 9) ^ n≤2*(((4:Nat):Int)*pw 9) ^ (n+2) by
          have h1:=pow_mono (X:=((4:Nat):Int)*pw 9) (by omega) (show n≤n+2 by omega)
          have h2:=Dt.pow_nn (X:=((4:Nat):Int)*pw 9) (by omega) (n+2)
          omega)
        have ld:=hd.lenB (show Bd _ (if det n A < 0 then - det n A else det n A) by split; exact hbk.neg; exact hbk) hM
        exact big_self (by omega)
def LeastSame (T:List (List Nb)) (b:List Nb):Prop:=
  (exact_Least T b=some ([],false,[],9)∧∃ xs ds dl,sparseref08_Least T b=some (xs,ds,dl,false))∨
  ∃ xs ds dl,exact_Least T b=some (xs,ds,dl,0)∧sparseref08_Least T b=some (xs,ds,dl,true)∧sparsekit_Bigs xs xs=some true∧sparsekit_Big ds dl ds dl=some true
theorem least_same {n w:Nat} {A:Mx} {T:List (List Nb)} {b:List Nb} {g:Nat→Int} (hT:Tr 4 T n w A) (hb:Lr 4 b n g) (hn:n≤4) (hw:w≤4) (hn0:0 < n∨w=0):LeastSame T b:=by
  by_cases h0:w=0
  · subst h0
    have hc:exact_columns T=some 0:=by rw [ycolumns_ok hT.sh]; split<;>rfl
    have hc':sparseref08_Cols T=some 0:=by rw [yrcols_ok hT.sh]; split<;>rfl
    exact .inr ⟨[],false,[1],least_nil (ycheck_ok hT.sh (by omega) (by omega)) (by rw [hb.1,hT.1]) hc,rleast_nil hc',bigs_self (by simp) (by simp),big_self (by simp)⟩
  · have hn1:0 < n:=by omega
    have hM:=b9_ok hw
    have hp9:=pw_pos 9
    have hp4:=pw_pos 4
    have h49:(4:Int)*(pw 4*pw 4)≤pw 9:=by decide
    have hnn:=Int.mul_nonneg (show 0≤pw 4 by omega) (show 0≤pw 4 by omega)
    have up:∀ {v:Int},Bd (n*(pw 4*pw 4)) v→Bd (pw 9) v:=fun h=>h.mono (by
      have:=Int.mul_le_mul_of_nonneg_right (show (n:Int)≤4 by omega) hnn
      omega)
    have bA:∀ i j,i < n→j < w→Bd (pw 4) (A i j):=fun i j hi hj=>by
      obtain ⟨l,_,h2⟩:=hT.2 i hi
      obtain ⟨z,_,h4⟩:=h2.2 j hj
      exact h4.bd
    have bg:∀ j,j < n→Bd (pw 4) (g j):=fun j hj=>by
      obtain ⟨z,_,h4⟩:=hb.2 j hj
      exact h4.bd
    have hG1:∀ i j,i < w→j < w→Bd (pw 9) (gram n A i j):=fun i j hi hj=>up (sm_bd hnn fun x hx=>(bA x i hx hi).mul (bA x j hx hj))
    have hG2:∀ i,i < w→Bd (pw 9) (sm n fun k=>A k i*g k):=fun i hi=>up (sm_bd hnn fun x hx=>(bA x i hx hi).mul (bg x hx))
    have okN:Okb w (w+1) (aug (gram n A) w fun i=>sm n fun k=>A k i*g k) (2*(((4:Nat):Int)*pw 9) ^ (w+2)):=okb_of (by omega) (by omega) hw fun i j hi hj=>by
      unfold aug; split
      · exact hG2 i hi
      · exact hG1 i j hi (by omega)
    have hG:pw 9 < pw 200:=by
      have h1:pw 10≤pw 200:=pw_mono (by omega)
      have h2:pw 9 < pw 10:=by decide
      omega
    obtain ⟨⟨xs,ds,dl,e⟩,h1,h2⟩:=yleast_ok hM hT hb (by omega) okN hG hG1 hG2 (by omega) (by omega) (by omega) hn1
    obtain ⟨t,ht,hT'⟩:=ytransp_ok hT (by omega) (by omega) (.inl hn1)
    obtain ⟨p,hp,hP⟩:=yproduct_ok hT' hT (by omega) (by omega) (by omega) (by omega) (.inl hn1)
    obtain ⟨q,hq,hQ⟩:=ytimes_ok hT' hb (by omega) (by omega) (by omega)
    have hP':Tg p w w (gram n A):=hP
    have hQ':Lg q w (fun i=>sm n fun k=>A k i*g k):=hQ
    obtain ⟨⟨ys,es,el,o⟩,h3,h4⟩:=rsolve_ok (K:=200) (G:=pw 9) (by omega) hM (hP'.tr hG1 hG) (hQ'.lr hG2 hG) (by omega) hG1 hG2 hw
    have hL:sparseref08_Least T b=some (ys,es,el,o):=by
      unfold sparseref08_Least
      rw [ht,obs,hp,obs,hq,obs,h3,obs]
    simp only at h2 h4
    rcases h2 with ⟨rfl,d0,rfl,rfl,rfl⟩ | ⟨rfl,d0,x,hx,hd,bx,heq⟩
    · rcases h4 with ⟨rfl,_⟩ | ⟨rfl,d1,_⟩
      · exact .inl ⟨h1,_,_,_,hL⟩
      · exact absurd d0 d1
    · rcases h4 with ⟨rfl,d1⟩ | ⟨rfl,d1,he,hy⟩
      · exact absurd d1 d0
      · obtain ⟨rfl,rfl⟩:=hd.uniq he
        have hx':Lg xs w (fun j=>if det w (gram n A) < 0 then - det w (repl (gram n A) j fun i=>sm n fun k=>A k i*g k) else det w (repl (gram n A) j fun i=>sm n fun k=>A k i*g k)):=hx.congr fun j hj=>sol_uniq d0 heq j hj
        obtain rfl:=hx'.eq hy
        refine .inr ⟨xs,ds,dl,h1,hL,bigs_self (by rw [hx.1]; omega) (Lr.bigs hx bx hM),?_⟩
        have hbk:=(det_bd (K:=4) (show (1:Int)≤pw 9 by omega) hw hG1).mono (show (((4:Nat):Int)*pw 9) ^ w≤2*(((4:Nat):Int)*pw 9) ^ (w+2) by
          have h1:=pow_mono (X:=((4:Nat):Int)*pw 9) (by omega) (show w≤w+2 by omega)
          have h2:=Dt.pow_nn (X:=((4:Nat):Int)*pw 9) (by omega) (w+2)
          omega)
        have ld:=hd.lenB (show Bd _ (if det w (gram n A) < 0 then - det w (gram n A) else det w (gram n A)) by split; exact hbk.neg; exact hbk) hM
        exact big_self (by omega)
structure Sm (T:List (List Nb)):Prop where
  n:T.length≤32
  n4:T.length≤4∨16 < T.length
  r:∀ l,l∈T→l.length≤32∧(l.length≤4∨16 < l.length)∧∀ z,z∈l→z.2.length≤4
theorem sm_of {T:List (List Nb)} (h:((decide (T.length≤4) || decide (16 < T.length)) && decide (T.length≤32) && T.all rowP)=true):Sm T:=by
  simp only [Bool.and_eq_true,Bool.or_eq_true,decide_eq_true_eq] at h
  refine ⟨h.1.2,h.1.1,fun l hl=>?_⟩
  have:=List.all_eq_true.1 h.2 l hl
  unfold rowP at this
  simp only [Bool.and_eq_true,Bool.or_eq_true,decide_eq_true_eq] at this
  exact ⟨this.1.2,this.1.1,fun z hz=>by simpa using List.all_eq_true.1 this.2 z hz⟩
theorem err0 {T:List (List Nb)} (h:errT T=0):T.all (fun l=>decide (l.length=cw T))=true∧T.length≤16∧cw T≤16:=by
  unfold errT at h
  by_cases ha:T.all (fun l=>decide (l.length=cw T))=true
  · rw [if_pos ha] at h
    by_cases h2:16 < T.length∨16 < cw T
    · rw [if_pos h2] at h; omega
    · exact ⟨ha,by omega,by omega⟩
  · rw [if_neg ha] at h; omega
theorem Sm.four {T:List (List Nb)} (h:Sm T) (he:errT T=0):T.length≤4∧cw T≤4∧(0 < T.length∨cw T=0):=by
  obtain ⟨h1,h2,h3⟩:=err0 he
  refine ⟨by have:=h.n4; omega,?_,?_⟩
  · cases T with
    | nil=>show 0≤4; omega
    | cons l T=>
      have:=h.r l (by simp)
      show l.length≤4
      have h3:l.length≤16:=h3
      omega
  · cases T with
    | nil=>exact .inr rfl
    | cons l T=>exact .inl (by simp)
theorem exactSolves_true (T:List (List Nb)) (b:List Nb) (hT:T.length≤maxLen) (hr:∀ l,l∈T→l.length≤maxLen) (hz:∀ l,l∈T→∀ z,z∈l→LW z.2) (hb:b.length≤maxLen) (hbz:∀ z,z∈b→LW z.2):sparselaw08_ExactSolves T b=some true:=by
  unfold sparselaw08_ExactSolves
  rw [small_eq hT hr,obs]
  by_cases hsm:((decide (T.length≤4) || decide (16 < T.length)) && decide (T.length≤32) && T.all rowP)=true
  · rw [if_pos hsm,slim_eq (mL hb),obs]
    by_cases hsl:(b.all (fun z=>decide (z.2.length≤4)) && decide (b.length≤32))=true
    · rw [hsl,obs,if_neg (by simp)]
      have S:=sm_of hsm
      have hb32:b.length≤32∧∀ z,z∈b→z.2.length≤4:=by
        simp only [Bool.and_eq_true,decide_eq_true_eq] at hsl
        exact ⟨hsl.2,fun z hz=>by simpa using List.all_eq_true.1 hsl.1 z hz⟩
      have hSn:=S.n
      have hrows:∀ l,l∈T→l.length≤1000∧∀ z,z∈l→z.2.length≤1000:=fun l hl=>⟨by have:=(S.r l hl).1; omega,fun z hz=>by have:=(S.r l hl).2.2 z hz; omega⟩
      have hbb:∀ z,z∈b→z.2.length≤1000:=fun z hz=>by have:=hb32.2 z hz; omega
      have hb1:=hb32.1
      rw [twinRows_eq (by omega) hrows,obs,twinBigs_eq (by omega) hbb,obs]
      have hchk:=xcheck_eq (T:=T) (by omega)
      have hrchk:=rcheck_eq (T:=T) (by omega) fun l hl=>by have:=(hrows l hl).1; omega
      have hsq:=xsquare_eq (T:=T) (by omega)
      have hrs:=rows_self (T:=T) (by omega) hrows
      have hbs:=bigs_self (l:=b) (by omega) hbb
      have tail:∀ (X:Option Bool),X=some true→X=some true:=fun _ h=>h
      by_cases he:errT T=0
      · rw [he] at hchk hrchk
        rw [if_pos he] at hsq
        obtain ⟨hn4,hw4,hn0⟩:=S.four he
        obtain ⟨hall,_,_⟩:=err0 he
        by_cases hlen:b.length=T.length
        ·
          have hTr:=tr_of (K:=4) hall fun l hl z hz'=>⟨hz l hl z hz',(S.r l hl).2.2 z hz'⟩
          have hLr:Lr 4 b T.length (vL b):=by
            have:=lr_of (K:=4) (l:=b) fun z hz'=>⟨hbz z hz',hb32.2 z hz'⟩
            rw [hlen] at this; exact this
          have hL:=least_same hTr hLr hn4 hw4 hn0
          have fin:∀ r17 r32,exact_Solve T b=some r17→sparsekit_Big r17.2.1 r17.2.2.1 false []=some r32→sparselaw08_ExactSolves_j8 T b r17 r32=some true:=by
            intro r17 r32 h17 h32
            unfold sparselaw08_ExactSolves_j8
            rw [rcols_eq,obs]
            by_cases hsqr:T.length=cw T
            · rw [if_pos (by omega)]
              have hTn:Tr 4 T T.length T.length (vT T):=by have:=hTr; rw [← hsqr] at this; exact this
              have h49:pw 4≤pw 9:=pw_mono (by omega)
              have hS:=solve_same (K:=4) hTn hLr (by omega) (fun i j hi hj=>(hTn.bd i j hi hj).mono h49) (fun i hi=>(hLr.bd i hi).mono h49) hn4
              rcases hS with ⟨h1,xs,ds,dl,h2⟩ | ⟨xs,ds,dl,h1,h2,h3,h4⟩
              · obtain rfl:=Option.some.inj (h17.symm.trans h1)
                rw [big_zero] at h32
                obtain rfl:=Option.some.inj h32
                rw [h2,obs,if_neg (by simp)]
                rw [if_pos (by simp),awake08b,obs,obs]
              · obtain rfl:=Option.some.inj (h17.symm.trans h1)
                rw [h2,obs,if_pos rfl,if_pos rfl,h3,obs,obs,if_pos rfl,h4,obs,obs,if_pos rfl,awake08b,obs,obs]
            · rw [if_neg (by omega)]
              rw [if_neg hsqr] at hsq
              obtain rfl:=Option.some.inj (h17.symm.trans (solve_err hsq (by omega)))
              rw [big_zero] at h32
              obtain rfl:=Option.some.inj h32
              rw [if_pos (by simp),awake08b,obs,obs]
          have hSo:∃ r17,exact_Solve T b=some r17:=by
            by_cases hsqr:T.length=cw T
            · have hTn:Tr 4 T T.length T.length (vT T):=by have:=hTr; rw [← hsqr] at this; exact this
              have h49:pw 4≤pw 9:=pw_mono (by omega)
              have hS:=solve_same (K:=4) hTn hLr (by omega) (fun i j hi hj=>(hTn.bd i j hi hj).mono h49) (fun i hi=>(hLr.bd i hi).mono h49) hn4
              rcases hS with ⟨h1,_⟩ | ⟨_,_,_,h1,_⟩
              · exact ⟨_,h1⟩
              · exact ⟨_,h1⟩
            · rw [if_neg hsqr] at hsq
              exact ⟨_,solve_err hsq (by omega)⟩
          obtain ⟨r17,h17⟩:=hSo
          obtain ⟨r32,h32⟩:=big_some r17.2.1 r17.2.2.1
          rw [h17,obs]
          rcases hL with ⟨h1,xs,ds,dl,h2⟩ | ⟨xs,ds,dl,h1,h2,h3,h4⟩
          · rw [h1,obs,hrs,obs,if_pos rfl,hbs,obs,obs,if_neg (by simp),h32,obs,big_zero,obs,hrchk,obs,if_pos rfl,if_pos (by omega),h2,obs,if_neg (by simp),if_neg (by simp)]
            exact fin _ _ h17 h32
          · obtain ⟨r35,h35⟩:=big_some ds dl
            rw [h1,obs,hrs,obs,if_pos rfl,hbs,obs,obs,if_neg (by simp),h32,obs,h35,obs,hrchk,obs,if_pos rfl,if_pos (by omega),h2,obs,if_pos rfl,if_pos rfl,h3,obs,obs,if_neg (by simp),h4,obs,obs,if_neg (by simp)]
            exact fin _ _ h17 h32
        · rw [least_len hchk hlen]
          by_cases hsqr:T.length=cw T
          · rw [if_pos hsqr] at hsq
            rw [solve_len hsq hlen,obs,obs,hrs,obs,if_pos rfl,hbs,obs,obs,if_neg (by simp),big_zero,obs,obs,hrchk,obs,if_pos rfl,if_neg (by omega),rcols_eq,obs,if_pos (by omega)]
            unfold sparselaw08_ExactSolves_j19
            rw [if_pos (by simp),awake08b,obs,obs]
          · rw [if_neg hsqr] at hsq
            rw [solve_err hsq (by omega),obs,obs,hrs,obs,if_pos rfl,hbs,obs,obs,if_neg (by simp),big_zero,obs,obs,hrchk,obs,if_pos rfl,if_neg (by omega),rcols_eq,obs,if_neg (by omega)]
            unfold sparselaw08_ExactSolves_j19
            rw [if_pos (by simp),awake08b,obs,obs]
      · rw [if_neg he] at hsq
        rw [solve_err hsq he,least_err hchk he,obs,obs,hrs,obs,if_pos rfl,hbs,obs,obs,if_neg (by simp),big_zero,obs,obs,hrchk,obs,if_neg he,if_pos (by simp),awake08b,obs,obs]
    · simp only [Bool.not_eq_true] at hsl
      rw [hsl,obs,if_pos (by simp),awake08b,obs]
  · rw [if_neg hsm,obs,if_pos rfl,awake08b,obs]
theorem wf_u32' {n:Int} (h:Wf .u32 n):0≤n∧n < B:=by
  simp only [Wf,Lit.wf,Bool.and_eq_true,decide_eq_true_eq] at h
  have e:IntKind.max .u32=4294967295:=by decide
  have f:IntKind.min .u32=0:=by decide
  unfold B
  omega
def okB (z:Nb):Prop:=(fun _:Bool=>True) z.1∧okL (Wf .u32) z.2
theorem okB_lw {z:Nb} (h:okB z):LW z.2:=fun x hx=>wf_u32' (h.2.2 x hx)
theorem exactSolves_t (T:List (List Nb)) (b:List Nb) (hT:okL (okL okB) T) (hb:okL okB b):sparselaw08_ExactSolves T b=some true:=
  exactSolves_true T b hT.1 (fun l hl=>(hT.2 l hl).1) (fun l hl z hz=>okB_lw ((hT.2 l hl).2 z hz)) hb.1 fun z hz=>okB_lw (hb.2 z hz)
end Km
