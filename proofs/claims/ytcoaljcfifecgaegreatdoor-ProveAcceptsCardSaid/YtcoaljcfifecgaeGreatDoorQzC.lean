/- Tables of numbers; a row minus a multiple of another one, divided exactly. -/
import Derived.Test.YtcoaljcfifecgaeGreatDoorQzA
import Derived.Test.YtcoaljcfifecgaeGreatDoorQzB
import Derived.KernelRfl
import Derived.Test.YtcoaljcfifecgaeGreatDoorSxR
import Derived.Test.YtcoaljcfifecgaeGreatDoorM12
import Derived.Test.YtcoaljcfifecgaeGreatDoorVcA
set_option linter.unusedVariables false
set_option linter.unusedSimpArgs false
set_option maxHeartbeats 4000000
set_option maxRecDepth 100000
namespace Km
open Sx Go M Vc Lm Dt
abbrev Nb:=Bool×List Int
def Lg (l:List Nb) (w:Nat) (f:Nat→Int):Prop:=l.length=w∧∀ c,c < w→∃ z,l[c]?=some z∧Bg (f c) z.1 z.2
def Tg (T:List (List Nb)) (n w:Nat) (A:Mx):Prop:=T.length=n∧∀ r,r < n→∃ l,T[r]?=some l∧Lg l w (A r)
theorem Lg.congr {l:List Nb} {w:Nat} {f g:Nat→Int} (h:Lg l w f) (e:∀ c,c < w→f c=g c):Lg l w g:=⟨h.1,fun c hc=>by obtain ⟨z,h1,h2⟩:=h.2 c hc; exact ⟨z,h1,h2.cast (e c hc)⟩⟩
theorem Tg.congr {T:List (List Nb)} {n w:Nat} {A B:Mx} (h:Tg T n w A) (e:∀ r c,r < n→c < w→A r c=B r c):Tg T n w B:=⟨h.1,fun r hr=>by obtain ⟨l,h1,h2⟩:=h.2 r hr; exact ⟨l,h1,h2.congr fun c hc=>e r c hr hc⟩⟩
theorem Lg.set {l:List Nb} {w:Nat} {f:Nat→Int} (h:Lg l w f) {c:Nat} (hc:c < w) {z:Nb} {v:Int} (hz:Bg v z.1 z.2):Lg (l.set c z) w (fun j=>if j=c then v else f j):=by
 refine ⟨by rw [List.length_set]; exact h.1,fun j hj=>?_⟩
 by_cases e:j=c
 ·subst e
  exact ⟨z,by rw [List.getElem?_set_self]; rw [h.1]; exact hc,hz.cast (show v=(if j=j then v else f j) from (if_pos rfl).symm)⟩
 ·obtain ⟨y,h1,h2⟩:=h.2 j hj
  exact ⟨y,by rw [List.getElem?_set_ne (fun h=>e h.symm)]; exact h1,h2.cast (show f j=(if j=c then v else f j) from (if_neg e).symm)⟩
theorem Tg.set {T:List (List Nb)} {n w:Nat} {A:Mx} (h:Tg T n w A) {k:Nat} (hk:k < n) {l:List Nb} {g:Nat→Int} (hl:Lg l w g):Tg (T.set k l) n w (up A k g):=by
 refine ⟨by rw [List.length_set]; exact h.1,fun r hr=>?_⟩
 by_cases e:r=k
 ·subst e
  exact ⟨l,by rw [List.getElem?_set_self]; rw [h.1]; exact hk,hl.congr fun c _=>up_in.symm⟩
 ·obtain ⟨m,h1,h2⟩:=h.2 r hr
  exact ⟨m,by rw [List.getElem?_set_ne (fun h=>e h.symm)]; exact h1,h2.congr fun c _=>(up_out e).symm⟩
theorem at_some {α:Type} {l:List α} {k:Nat} {x:α} (hx:l[k]?=some x) {i:Int} (hi:i=(k:Int)):getI l i=some x:=by
 subst hi
 have:=(List.getElem?_eq_some_iff.1 hx).1
 exact Ret.eq (by rw [ret_get]; exact ⟨by omega,by omega,fun y hy=>by rw [Int.toNat_natCast] at hy; exact Option.some.inj (hy.symm.trans hx)⟩)
theorem set_some {α:Type} {l:List α} {k:Nat} {x:α} (hk:k < l.length) {i:Int} (hi:i=(k:Int)):setI l i x=some (l.set k x):=by
 subst hi
 exact Ret.eq (by rw [ret_set,Int.toNat_natCast]; exact ⟨by omega,by omega,rfl⟩)
theorem Lg.at {l:List Nb} {w:Nat} {f:Nat→Int} (h:Lg l w f) {c:Nat} (hc:c < w) {i:Int} (hi:i=(c:Int)):∃ z,getI l i=some z∧Bg (f c) z.1 z.2:=by
 obtain ⟨z,h1,h2⟩:=h.2 c hc
 exact ⟨z,at_some h1 hi,h2⟩
theorem Tg.at {T:List (List Nb)} {n w:Nat} {A:Mx} (h:Tg T n w A) {r:Nat} (hr:r < n) {i:Int} (hi:i=(r:Int)):∃ l,getI T i=some l∧Lg l w (A r):=by
 obtain ⟨l,h1,h2⟩:=h.2 r hr
 exact ⟨l,at_some h1 hi,h2⟩
theorem negP_bg {s:Bool} {a:List Int} (ha:LW a) (hn:a.length≤1000000):Ret (m_db s a) (fun r=>Bg (- sv s a) r.1 r.2):=by
 unfold m_db
 rw [clone_ok hn,obs,ret_bind]
 exact (big_bg (!s) ha hn).mono fun r hr=>⟨_,rfl,hr.cast (sv_not s a)⟩
theorem absP_bg {s:Bool} {a:List Int} (ha:LW a) (hn:a.length≤1000000):Ret (m_fv s a) (fun r=>Bg (lv a) r.1 r.2):=by
 unfold m_fv
 rw [clone_ok hn,obs,ret_bind]
 exact (big_bg false ha hn).mono fun r hr=>⟨_,rfl,hr⟩
theorem quoP_bg {s t:Bool} {a b:List Int} (ha:LW a) (hb:LW b) (hn:a.length≤800) (hm:b.length≤800) {h:Int} (hne:sv t b≠0) (he:sv s a=sv t b*h):Ret (m_fg s a t b) (fun r=>Bg h r.1 r.2.1∧r.2.2=0):=by
 unfold m_fg
 rw [ret_bind]
 refine (divmod_bg (s:=s) (t:=t) ha hb hn hm hne).mono ?_
 rintro ⟨a,b,c,d,e⟩ ⟨hq,hr,h0⟩
 simp only at hq hr h0 ⊢
 subst h0
 rw [he,Int.mul_emod_right] at hr
 rw [he,Int.mul_ediv_cancel_left _ hne] at hq
 have hd:d=[]:=(lv_zero hr.1 hr.2.1).1 (by rw [hr.abs]; simp)
 subst hd
 rw [if_neg (by simp)]
 exact ⟨_,rfl,hq,rfl⟩
theorem Bg.lenB {v:Int} {s:Bool} {l:List Int} (h:Bg v s l) {M:Int} {m:Nat} (hb:Bd M v) (hM:M < pw m):l.length≤m:=h.len (by have:=hb.1; omega) (by have:=hb.2; omega)
theorem sweep_ok {row top:List Nb} {w:Nat} {f g h:Nat→Int} {M a p d:Int} (hM:M < pw 190) (hrow:Lg row w f) (htop:Lg top w g) {za zp zd:Nb} (ha:Bg a za.1 za.2) (hp:Bg p zp.1 zp.2) (hd:Bg d zd.1 zd.2) (hd0:d≠0)
  (bf:∀ j,j < w→Bd M (f j)) (bg:∀ j,j < w→Bd M (g j)) (ba:Bd M a) (bp:Bd M p) (bd:Bd M d) (he:∀ j,j < w→p*f j - a*g j=d*h j) (hw:w≤1000):
  Ret (m_fi row top za.1 za.2 zp.1 zp.2 zd.1 zd.2) (fun r=>Lg r w h):=by
 unfold m_fi
 rw [ret_bind]
 have hM0:=ba.nn
 have la:=ha.lenB ba hM
 have lp:=hp.lenB bp hM
 have ld:=hd.lenB bd hM
 have hMM:M*M < pw 380:=by
  have h1:M*M≤M*pw 190:=Int.mul_le_mul_of_nonneg_left (by omega) hM0
  have h2:M*pw 190 < pw 190*pw 190:=Int.mul_lt_mul_of_pos_right hM (pw_pos 190)
  have h3:pw 380=pw 190*pw 190:=pw_add 190 190
  omega
 refine (ret_loop (Post:=fun r:List Nb=>Lg r w h) w (fun k (s:List Nb×Int)=>s.2=(k:Int)∧Lg s.1 w (fun j=>if j < k then h j else f j)) ⟨rfl,hrow.congr fun c _=>by rw [if_neg (by omega)]⟩ ?_ (by omega)).mono fun r hr=>⟨_,rfl,hr⟩
 rintro k ⟨r,_⟩ hk ⟨rfl,hI⟩
 simp only at hI
 unfold m_fh
 simp only
 rw [htop.1,ret_if]
 refine ⟨fun hlt=>?_,fun hge=>⟨_,rfl,hI.congr fun c hc=>by rw [if_pos (by omega)]⟩⟩
 have hkw:k < w:=by omega
 obtain ⟨y,hy,hyB⟩:=htop.at hkw rfl
 obtain ⟨x,hx,hxB⟩:=hI.at hkw rfl
 have hxB:Bg (f k) x.1 x.2:=hxB.cast (show (if k < k then h k else f k)=f k from if_neg (by omega))
 have lx:=hxB.lenB (bf k hkw) hM
 have ly:=hyB.lenB (bg k hkw) hM
 rw [hy,obs,hx,obs,ret_bind]
 refine (mul_bg (s:=zp.1) (t:=x.1) hp.1 hxB.1 (by omega) (by omega)).mono fun u hu=>?_
 rw [hp.sv,hxB.sv] at hu
 have lu:=hu.lenB (bp.mul (bf k hkw)) hMM
 rw [ret_bind]
 refine (mul_bg (s:=za.1) (t:=y.1) ha.1 hyB.1 (by omega) (by omega)).mono fun v hv=>?_
 rw [ha.sv,hyB.sv] at hv
 have lv':=hv.lenB (ba.mul (bg k hkw)) hMM
 rw [ret_bind]
 refine (sub_bg (s:=u.1) (t:=v.1) hu.1 hv.1 (by omega) (by omega)).mono fun q hq=>?_
 rw [hu.sv,hv.sv] at hq
 have h2M:M*M+M*M < pw 381:=by
  have:=pw_pos 380
  have e:pw 381=B*pw 380:=rfl
  have e2:B=4294967296:=rfl
  rw [e,e2]; omega
 have lq:=hq.lenB ((bp.mul (bf k hkw)).sub (ba.mul (bg k hkw))) h2M
 rw [ret_bind]
 refine (quoP_bg (s:=q.1) (t:=zd.1) (h:=h k) hq.1 hd.1 (by omega) (by omega) (by rw [hd.sv]; exact hd0) (by rw [hq.sv,hd.sv]; exact he k hkw)).mono ?_
 rintro ⟨t1,t2,t3⟩ ⟨ht,_⟩
 simp only at ht ⊢
 rw [set_some (by rw [hI.1]; exact hkw) rfl,obs]
 refine ⟨_,rfl,hkw,by show wa .i64 (k:Int) 1=_; rw [wa_i (by omega) (by omega)]; rfl,?_⟩
 refine (hI.set hkw (z:=(t1,t2)) ht).congr fun c hc=>?_
 by_cases e:c=k
 ·subst e; rw [if_pos rfl,if_pos (by omega)]
 ·rw [if_neg e]
  by_cases hck:c < k
  ·rw [if_pos hck,if_pos (by omega)]
  ·rw [if_neg hck,if_neg (by omega)]
end Km
namespace Km
open Sx Go M Vc Lm Dt
def Okb (n w:Nat) (A:Mx) (M:Int):Prop:=∀ (A':Mx) (cl:Nat→Nat) (q i j:Nat),(∀ i,i < n→∃ i',i' < n∧∀ j,A' i j=A i' j)→q≤n→(∀ s,s < q→cl s < w)→i < n→j < w→Bd M (Rk A' cl q i j)∧Bd M (det q (Pm_ A' cl))
theorem pow_mono {X:Int} (hX:1≤X) {m n:Nat} (h:m≤n):X ^ m≤X ^ n:=by
 obtain ⟨d,rfl⟩:=Nat.exists_eq_add_of_le h
 induction d with
 | zero=>exact Int.le_refl _
 | succ d ih=>
  have h1:=ih (by omega)
  have h2:=Dt.pow_nn (show 0≤X by omega) (m+d)
  have h3:X ^ (m+d)*1≤X ^ (m+d)*X:=Int.mul_le_mul_of_nonneg_left hX h2
  rw [show m+(d+1)=(m+d)+1 by omega,Int.pow_succ]
  omega
theorem okb_of {n w K:Nat} {M:Int} {A:Mx} (hM:1≤M) (hK:1≤K) (hnK:n≤K) (hA:∀ i j,i < n→j < w→Bd M (A i j)):Okb n w A (2*(K*M) ^ (n+2)):=by
 intro A' cl q i j hp hq hc hi hj
 have hKM:1≤(K:Int)*M:=by
  have:(1:Int)*1≤K*M:=Int.mul_le_mul (by omega) hM (by omega) (by omega)
  omega
 have hA':∀ i j,i < n→j < w→Bd M (A' i j):=by
  intro i j hi hj
  obtain ⟨i',h1,h2⟩:=hp i hi
  rw [h2]; exact hA i' j h1 hj
 obtain ⟨h1,h2⟩:=Rk_bd (K:=K) (n:=n) (w:=w) (A:=A') (col:=cl) (k:=q) (i:=i) (j:=j) hM hK hA' hq (by omega) hc hi hj
 have h3:=pow_mono hKM (show q+2≤n+2 by omega)
 exact ⟨h1.mono (by omega),h2.mono (by omega)⟩
section
variable {n w cw:Nat} {A A':Mx} {col:Nat→Nat} {k c:Nat} {sn M:Int}
theorem bar_rows (h:Bar n cw A A' col k c sn):∀ i,i < n→∃ i',i' < n∧∀ j,A' i j=A i' j:=by
 obtain ⟨x,xi,hx,hA⟩:=h.perm
 exact fun i hi=>⟨x i,(hx i hi).1,fun j=>hA i j hi⟩
theorem sw_rows (h:∀ i,i < n→∃ i',i' < n∧∀ j,A' i j=A i' j) {a b:Nat} (ha:a < n) (hb:b < n):∀ i,i < n→∃ i',i' < n∧∀ j,sw A' a b i j=A i' j:=by
 intro i hi
 by_cases e1:i=a
 ·obtain ⟨i',h1,h2⟩:=h b hb
  exact ⟨i',h1,fun j=>by unfold sw; rw [if_pos e1]; exact h2 j⟩
 ·by_cases e2:i=b
  ·obtain ⟨i',h1,h2⟩:=h a ha
   exact ⟨i',h1,fun j=>by unfold sw; rw [if_neg e1,if_pos e2]; exact h2 j⟩
  ·obtain ⟨i',h1,h2⟩:=h i hi
   exact ⟨i',h1,fun j=>by unfold sw; rw [if_neg e1,if_neg e2]; exact h2 j⟩
theorem j1_ok (hM:M < pw 190) (hR:Okb n w A M) (h:Bar n cw A A' col k c sn) (hcw:cw≤w) (hw:w≤1000) (hn:n≤1000) (hc:c < cw) {a:Nat} (hka:k≤a) (han:a < n) (hne:Rk A' col k a c≠0)
  {T:List (List Nb)} (hT:Tg T n w (Rk (sw A' k a) col k)) {pv:List Int} (hpv:pv.length≤1000) {zd:Nb} (hd:Bg (det k (Pm_ A' col)) zd.1 zd.2) {s':Int}:
  Ret (m_fl (k:Int) (c:Int) zd.1 zd.2 pv T s') (fun r=>Tg r.1 n w (Rk (sw A' k a) (setC col k c) (k+1))∧r.2.1=pv++[(c:Int)]∧Bg (det (k+1) (Pm_ (sw A' k a) (setC col k c))) r.2.2.1 r.2.2.2.1∧r.2.2.2.2=s'):=by
 obtain ⟨hB',hdet,htop,hstep⟩:=h.pivot hc hka han hne
 have hkn:k < n:=by omega
 have hrows:=bar_rows h
 have hrows':=sw_rows hrows hkn han
 have hlt:∀ s,s < k→col s < w:=fun s hs=>by have:=h.lt s hs; have:=h.cw; omega
 have hlt':∀ s,s < k+1→setC col k c s < w:=fun s hs=>by have:=hB'.lt s hs; have:=hB'.cw; omega
 have bR:∀ i j,i < n→j < w→Bd M (Rk (sw A' k a) col k i j):=fun i j hi hj=>(hR _ _ _ _ _ hrows' h.kn hlt hi hj).1
 have bd:Bd M (det k (Pm_ A' col)):=(hR _ col k 0 c hrows h.kn hlt (by omega) (by omega)).2
 have hk:∀ j,Rk (sw A' k a) col k k j=Rk A' col k a j:=fun j=>by rw [Rk_sw hka,if_pos rfl]
 unfold m_fl
 obtain ⟨lk,h1,h2⟩:=hT.at hkn (i:=(k:Int)) rfl
 obtain ⟨nx,h3,h4⟩:=h2.at (show c < w by omega) (i:=(c:Int)) rfl
 rw [hk] at h4
 rw [h1,obs,h3,obs,ret_bind]
 refine (ret_loop (Post:=fun r:List (List Nb)=>Tg r n w (Rk (sw A' k a) (setC col k c) (k+1))) n (fun i (s:List (List Nb)×Int)=>s.2=(i:Int)∧Tg s.1 n w (fun r j=>if r < i∧r≠k then Rk (sw A' k a) (setC col k c) (k+1) r j else Rk (sw A' k a) col k r j)) ⟨rfl,hT.congr fun r j _ _=>by rw [if_neg (by omega)]⟩ ?_ (by omega)).mono ?_
 ·rintro i ⟨T',_⟩ hi ⟨rfl,hI⟩
  simp only at hI
  unfold m_fk
  simp only
  rw [hT.1,ret_if]
  refine ⟨fun hlt2=>?_,fun hge=>⟨_,rfl,hI.congr fun r j hr hj=>?_⟩⟩
  ·have hin:i < n:=by omega
   obtain ⟨row,hr1,hr2⟩:=hI.at hin (i:=(i:Int)) rfl
   have hr2:Lg row w (Rk (sw A' k a) col k i):=hr2.congr fun j _=>if_neg (by omega)
   have hwa:wa .i64 (i:Int) 1=((i+1:Nat):Int):=by rw [wa_i (by omega) (by omega)]; rfl
   rw [hr1,obs,ret_if]
   unfold m_fj
   rw [hwa]
   refine ⟨fun he=>⟨_,rfl,hin,rfl,hI.congr fun r j _ _=>?_⟩,fun he=>?_⟩
   ·have hik:i=k:=by omega
    by_cases hc2:r < i∧r≠k
    ·rw [if_pos hc2,if_pos ⟨by omega,hc2.2⟩]
    ·rw [if_neg hc2,if_neg (by omega)]
   ·have hik:i≠k:=by omega
    obtain ⟨top,ht1,ht2⟩:=hI.at hkn (i:=(k:Int)) rfl
    have ht2:Lg top w (Rk A' col k a):=ht2.congr fun j _=>(if_neg (by omega)).trans (hk j)
    obtain ⟨fz,hf1,hf2⟩:=hr2.at (show c < w by omega) (i:=(c:Int)) rfl
    have hne2:neI (i:Int) (k:Int)=some ():=by unfold neI; rw [if_neg he]
    rw [ht1,obs,hf1,obs,hne2,obs,ret_bind]
    have bA:∀ j,j < w→Bd M (Rk A' col k a j):=fun j hj=>by rw [← hk]; exact bR k j hkn hj
    refine (sweep_ok (h:=Rk (sw A' k a) (setC col k c) (k+1) i) hM hr2 ht2 hf2 h4 hd h.d (fun j hj=>bR i j hin hj) bA (bR i c hin (by omega)) (bA c (by omega)) bd (fun j hj=>hstep i j hik) hw).mono fun row' hrow'=>?_
    rw [set_some (by rw [hI.1]; exact hin) rfl,obs]
    refine ⟨_,rfl,hin,rfl,(hI.set hin hrow').congr fun r j hr hj=>?_⟩
    by_cases e:r=i
    ·subst e
     rw [up_in,if_pos ⟨by omega,hik⟩]
    ·rw [up_out e]
     by_cases hc2:r < i∧r≠k
     ·rw [if_pos hc2,if_pos ⟨by omega,hc2.2⟩]
     ·rw [if_neg hc2,if_neg (by omega)]
  ·by_cases e:r=k
   ·subst e
    rw [if_neg (by omega),hk]; exact (htop j).symm
   ·rw [if_pos ⟨by omega,e⟩]
 ·intro T' hT'
  rw [ret_bind,ret_app]
  refine ⟨by simp only [List.length_cons,List.length_nil]; omega,_,rfl,hT',rfl,?_,rfl⟩
  rw [hdet]; exact h4
theorem step_ok (hM:M < pw 190) (hR:Okb n w A M) (h:Bar n cw A A' col k c sn) (hcw:cw≤w) (hw:w≤1000) (hn:n≤1000) (hc:c < cw) {a:Nat} (hka:k≤a) (han:a < n) (hne:Rk A' col k a c≠0)
  {T:List (List Nb)} (hT:Tg T n w (Rk A' col k)) {pv:List Int} (hpv:pv.length≤1000) {zd:Nb} (hd:Bg (det k (Pm_ A' col)) zd.1 zd.2):
  Ret (m_fm T pv zd.1 zd.2 sn (c:Int) (k:Int) (a:Int)) (fun r=>Tg r.1 n w (Rk (sw A' k a) (setC col k c) (k+1))∧r.2.1=pv++[(c:Int)]∧Bg (det (k+1) (Pm_ (sw A' k a) (setC col k c))) r.2.2.1 r.2.2.2.1∧r.2.2.2.2=(if a=k then sn else -sn)):=by
 have hkn:k < n:=by omega
 unfold m_fm
 rw [ret_if]
 refine ⟨fun hlt=>?_,fun hge=>?_⟩
 ·obtain ⟨la,h1,h2⟩:=hT.at han (i:=(a:Int)) rfl
  obtain ⟨lk,h3,h4⟩:=hT.at hkn (i:=(k:Int)) rfl
  rw [h1,obs,h3,obs,set_some (by rw [hT.1]; exact hkn) rfl,obs,set_some (by rw [List.length_set,hT.1]; exact han) rfl,obs]
  have hT':Tg ((T.set k la).set a lk) n w (Rk (sw A' k a) col k):=by
   refine ((hT.set hkn h2).set han h4).congr fun r j hr hj=>?_
   rw [Rk_sw hka]
   by_cases e1:r=k
   ·subst e1; rw [if_pos rfl,up_out (by omega),up_in]
   ·rw [if_neg e1]
    by_cases e2:r=a
    ·subst e2; rw [if_pos rfl,up_in]
    ·rw [if_neg e2,up_out e2,up_out e1]
  have hs:wneg .i64 sn= -sn:=by
   rcases h.sg.1 with rfl | rfl
   ·exact IntWalk.i64_in _ ⟨by omega,by omega⟩
   ·exact IntWalk.i64_in _ ⟨by omega,by omega⟩
  rw [hs,if_neg (by omega)]
  exact j1_ok hM hR h hcw hw hn hc hka han hne hT' hpv hd
 ·have e:a=k:=by omega
  subst e
  rw [if_pos rfl]
  refine j1_ok hM hR h hcw hw hn hc hka han hne ?_ hpv hd
  refine hT.congr fun r j _ _=>?_
  rw [Rk_sw (Nat.le_refl _)]
  by_cases e1:r=a
  ·subst e1; rw [if_pos rfl]
  ·rw [if_neg e1,if_neg e1]
def EI (n w cw:Nat) (A:Mx) (c:Nat) (T:List (List Nb)) (pv:List Int) (zs:Bool) (zl:List Int) (sn:Int):Prop:=
 ∃ A' col k,Bar n cw A A' col k c sn∧Tg T n w (Rk A' col k)∧pv=(List.range k).map (fun s=>(col s:Int))∧Bg (det k (Pm_ A' col)) zs zl
theorem eliminate_ok (hM:M < pw 190) (hR:Okb n w A M) (hcw:cw≤w) (hw:w≤900) (hn:n≤900) {T:List (List Nb)} (hT:Tg T n w A):
  Ret (m_fq T (cw:Int)) (fun r=>EI n w cw A cw r.1 r.2.1 r.2.2.1 r.2.2.2.1 r.2.2.2.2):=by
 unfold m_fq
 rw [ret_bind]
 refine (from_bg (n:=1) (by omega) (by omega)).mono fun one hone=>?_
 rw [ret_bind]
 refine (ret_loop (Post:=fun r:List (List Nb)×List Int×Bool×List Int×Int=>EI n w cw A cw r.1 r.2.1 r.2.2.1 r.2.2.2.1 r.2.2.2.2) cw (fun c (s:List (List Nb)×List Int×Bool×List Int×Int×Int)=>s.2.2.2.2.2=(c:Int)∧c≤cw∧EI n w cw A c s.1 s.2.1 s.2.2.1 s.2.2.2.1 s.2.2.2.2.1) ⟨rfl,by omega,A,id,0,Bar.start,hT.congr fun r j _ _=>Rk_zero.symm,rfl,hone.cast (show (1:Int)=det 0 (Pm_ A id) from rfl)⟩ ?_ (by omega)).mono fun r hr=>⟨_,rfl,hr⟩
 rintro c ⟨T,pv,zs,zl,sn,_⟩ hc ⟨rfl,hcc,A',col,k,hB,hT,hpv,hd⟩
 simp only at hB hT hpv hd
 unfold m_fp
 simp only
 rw [ret_if]
 refine ⟨fun hlt=>?_,fun hge=>⟨_,rfl,by have e:c=cw:=(by omega); subst e; exact ⟨A',col,k,hB,hT,hpv,hd⟩⟩⟩
 have hccw:c < cw:=by omega
 have hpl:pv.length=k:=by rw [hpv,List.length_map,List.length_range]
 have hkn:=hB.kn
 have hrows:=bar_rows hB
 have hlt':∀ s,s < k→col s < w:=fun s hs=>by have:=hB.lt s hs; have:=hB.cw; omega
 have hwa:wa .i64 (c:Int) 1=((c+1:Nat):Int):=by rw [wa_i (by omega) (by omega)]; rfl
 rw [ret_bind]
 refine (ret_loop (Post:=fun o=>(o=.inr ()∧∀ i,k≤i→i < n→Rk A' col k i c=0)∨∃ r,o=.inl r∧EI n w cw A (c+1) r.1 r.2.1 r.2.2.1 r.2.2.2.1 r.2.2.2.2) (n - k) (fun i (s:Int)=>s=((k+i:Nat):Int)∧k+i≤n∧∀ j,k≤j→j < k+i→Rk A' col k j c=0) ⟨by rw [hpl]; rfl,by omega,fun j h1 h2=>absurd h2 (by omega)⟩ ?_ (by omega)).mono ?_
 ·rintro i _ hi ⟨rfl,hin,hz⟩
  unfold m_fo
  rw [hT.1,ret_if]
  refine ⟨fun hl2=>?_,fun hge=>⟨_,rfl,.inl ⟨rfl,fun j h1 h2=>hz j h1 (by omega)⟩⟩⟩
  have han:k+i < n:=by omega
  obtain ⟨row,h1,h2⟩:=hT.at han (i:=((k+i:Nat):Int)) rfl
  obtain ⟨x,h3,h4⟩:=h2.at (show c < w by omega) (i:=(c:Int)) rfl
  have bx:=(hR _ _ _ _ _ hrows hkn hlt' han (show c < w by omega)).1
  have lx:=h4.lenB bx hM
  rw [h1,obs,h3,obs,sign_bg h4.1 (by omega),obs,h4.sv,ret_if]
  refine ⟨fun h0=>⟨_,rfl,by omega,?_,by omega,fun j hj1 hj2=>?_⟩,fun h0=>?_⟩
  ·rw [wa_i (by omega) (by omega)]; omega
  ·by_cases e:j=k+i
   ·subst e
    revert h0; split
    ·omega
    ·split
     ·omega
     ·intro _; omega
   ·exact hz j hj1 (by omega)
  ·have hne:Rk A' col k (k+i) c≠0:=fun h=>h0 (by rw [h]; rfl)
   have hpl':(pv.length:Int)=(k:Int):=by rw [hpl]
   rw [hpl',ret_bind]
   refine (step_ok (zd:=(zs,zl)) hM hR hB hcw (by omega) (by omega) hccw (by omega) han hne hT (by omega) hd).mono ?_
   rintro ⟨T',pv',zs',zl',sn'⟩ ⟨g1,g2,g3,g4⟩
   simp only at g1 g2 g3 g4 ⊢
   refine ⟨_,rfl,.inr ⟨_,rfl,sw A' k (k+i),setC col k c,k+1,?_,g1,?_,g3⟩⟩
   ·have:=(hB.pivot hccw (by omega) han hne).1
    show Bar n cw A (sw A' k (k+i)) (setC col k c) (k+1) (c+1) sn'
    rw [g4]; exact this
   ·show pv'=_
    rw [g2,hpv,List.range_succ,List.map_append]
    congr 1
    ·refine List.map_congr_left fun s hs=>?_
     rw [setC_lt (List.mem_range.1 hs)]
    ·show [(c:Int)]=[((setC col k c k:Nat):Int)]
     rw [setC_at]
 ·rintro _ (⟨rfl,hz⟩ | ⟨⟨T',pv',zs',zl',sn'⟩,rfl,hE⟩)
  ·show Ret (m_fn _ _ _ _ _ _) _
   unfold m_fn
   exact ⟨_,rfl,hccw,hwa,by omega,A',col,k,hB.none hccw hz,hT,hpv,hd⟩
  ·show Ret (m_fn _ _ _ _ _ _) _
   unfold m_fn
   exact ⟨_,rfl,hccw,hwa,by omega,hE⟩
end
end Km
namespace Km
open Sx Go M Vc Lm Dt
theorem Lg.snoc {l:List Nb} {k:Nat} {f:Nat→Int} (h:Lg l k f) {z:Nb} (hz:Bg (f k) z.1 z.2):Lg (l++[z]) (k+1) f:=by
 refine ⟨by rw [List.length_append,h.1]; rfl,fun c hc=>?_⟩
 by_cases e:c < k
 ·obtain ⟨y,h1,h2⟩:=h.2 c e
  exact ⟨y,by rw [List.getElem?_append_left (by rw [h.1]; exact e)]; exact h1,h2⟩
 ·obtain rfl:c=k:=by omega
  exact ⟨z,by rw [List.getElem?_append_right (by rw [h.1]; omega),h.1,Nat.sub_self]; rfl,hz⟩
theorem Tg.snoc {T:List (List Nb)} {k w:Nat} {A:Mx} (h:Tg T k w A) {l:List Nb} (hl:Lg l w (A k)):Tg (T++[l]) (k+1) w A:=by
 refine ⟨by rw [List.length_append,h.1]; rfl,fun c hc=>?_⟩
 by_cases e:c < k
 ·obtain ⟨y,h1,h2⟩:=h.2 c e
  exact ⟨y,by rw [List.getElem?_append_left (by rw [h.1]; exact e)]; exact h1,h2⟩
 ·obtain rfl:c=k:=by omega
  exact ⟨l,by rw [List.getElem?_append_right (by rw [h.1]; omega),h.1,Nat.sub_self]; rfl,hl⟩
section
variable {n w:Nat} {A:Mx} {T:List (List Nb)}
theorem xcolumns_ok (hT:Tg T n w A):m_eh T=some (if n=0 then 0 else (w:Int)):=by
 unfold m_eh
 by_cases h0:n=0
 ·rw [if_pos (by rw [hT.1]; omega),if_pos h0]
 ·rw [if_neg (by rw [hT.1]; omega),if_neg h0]
  obtain ⟨l,h1,h2⟩:=hT.at (r:=0) (by omega) (i:=0) rfl
  rw [h1,obs,h2.1]
theorem xcheck_ok (hT:Tg T n w A) (hn:n≤16) (hw:w≤16):m_em T=some 0:=by
 have hc:m_el T (if n=0 then 0 else (w:Int))=some false:=by
  refine Ret.eq ?_
  unfold m_el m_ek
  rw [ret_bind,ret_bind]
  refine (ret_loop (Post:=fun o=>o=.inl ()) n (fun k (i:Int)=>i=(k:Int)) rfl ?_ (by omega)).mono ?_
  ·rintro k _ hk rfl
   unfold m_ej
   rw [hT.1,ret_if]
   refine ⟨fun hlt=>?_,fun _=>⟨_,rfl,rfl⟩⟩
   obtain ⟨l,h1,h2⟩:=hT.at (r:=k) (by omega) (i:=(k:Int)) rfl
   unfold m_ei
   rw [h1,obs,obs,h2.1,if_neg (show ¬ n=0 by omega)]
   simp only [decide_true,Bool.not_true,Bool.false_eq_true,if_false]
   exact ⟨_,rfl,by omega,by show wa .i64 (k:Int) 1=_; rw [wa_i (by omega) (by omega)]; rfl⟩
  ·rintro _ rfl
   exact ⟨_,rfl,_,rfl,rfl⟩
 unfold m_em
 rw [xcolumns_ok hT,obs,hc,obs,if_neg (by simp),hT.1,if_neg]
 simp only [Bool.or_eq_true,decide_eq_true_eq,not_or]
 split<;>omega
theorem normZ_ok {v:Int} {z:Nb} (hz:Bg v z.1 z.2) (hl:z.2.length≤1000000):Ret (m_dd z.1 z.2) (fun r=>Bg v r.1 r.2):=(normP_bg (s:=z.1) hz.1 hl).mono fun r hr=>by rw [hz.sv] at hr; exact hr
theorem rowtwin_ok {row:List Nb} {f:Nat→Int} {M:Int} (hM:M < pw 190) (hrow:Lg row w f) (bf:∀ j,j < w→Bd M (f j)) (hw:w≤1000):Ret (loop (m_eo row) ([],0)) (fun o=>Lg o w f):=by
 refine ret_loop (Post:=fun o:List Nb=>Lg o w f) w (fun k (s:List Nb×Int)=>s.2=(k:Int)∧Lg s.1 k f) ⟨rfl,rfl,fun c hc=>absurd hc (by omega)⟩ ?_ (by omega)
 rintro k ⟨o,_⟩ hk ⟨rfl,hI⟩
 simp only at hI
 unfold m_eo
 simp only
 rw [hrow.1,ret_if]
 refine ⟨fun hlt=>?_,fun hge=>⟨_,rfl,by have e:k=w:=(by omega); subst e; exact hI⟩⟩
 have hkw:k < w:=by omega
 obtain ⟨z,h1,h2⟩:=hrow.at hkw (i:=(k:Int)) rfl
 have lz:=h2.lenB (bf k hkw) hM
 rw [h1,obs,ret_bind]
 refine (normZ_ok h2 (by omega)).mono fun r hr=>?_
 rw [ret_bind,ret_app]
 refine ⟨by rw [hI.1]; simp only [List.length_cons,List.length_nil]; omega,_,rfl,hkw,by show wa .i64 (k:Int) 1=_; rw [wa_i (by omega) (by omega)]; rfl,hI.snoc (z:=(r.1,r.2)) hr⟩
theorem twin0_ok {M:Int} (hM:M < pw 190) (hT:Tg T n w A) (bA:∀ i j,i < n→j < w→Bd M (A i j)) (hn:n≤1000) (hw:w≤1000):Ret (m_eq T []) (fun o=>Tg o n w A):=by
 unfold m_eq
 rw [ret_bind]
 refine (ret_loop (Post:=fun o:List (List Nb)=>Tg o n w A) n (fun k (s:List (List Nb)×Int)=>s.2=(k:Int)∧Tg s.1 k w A) ⟨rfl,rfl,fun c hc=>absurd hc (by omega)⟩ ?_ (by omega)).mono fun r hr=>⟨_,rfl,hr⟩
 rintro k ⟨o,_⟩ hk ⟨rfl,hI⟩
 simp only at hI
 unfold m_ep
 simp only
 rw [hT.1,ret_if]
 refine ⟨fun hlt=>?_,fun hge=>⟨_,rfl,by have e:k=n:=(by omega); subst e; exact hI⟩⟩
 have hkn:k < n:=by omega
 obtain ⟨row,h1,h2⟩:=hT.at hkn (i:=(k:Int)) rfl
 rw [h1,obs,ret_bind]
 refine (rowtwin_ok hM h2 (fun j hj=>bA k j hkn hj) hw).mono fun r hr=>?_
 rw [if_neg (by simp)]
 unfold m_en
 rw [ret_bind,ret_app]
 exact ⟨by rw [hI.1]; simp only [List.length_cons,List.length_nil]; omega,_,rfl,hkn,by show wa .i64 (k:Int) 1=_; rw [wa_i (by omega) (by omega)]; rfl,hI.snoc hr⟩
theorem turned_ok {R:List (List Nb)} {pv:List Int} {zs:Bool} {zl:List Int} {sg' D v:Int} {z:Nb} (hD:Bg D zs zl) (hz:Bg v z.1 z.2) (l1:zl.length≤1000) (l2:z.2.length≤1000):Ret (m_fw R pv zs zl sg' z.1 z.2) (fun r=>Bg (if D < 0 then -v else v) r.1 r.2):=by
 unfold m_fw
 rw [sign_bg hD.1 (by omega),obs,hD.sv,ret_if]
 refine ⟨fun hc=>?_,fun hc=>?_⟩
 ·have hneg:D < 0:=by revert hc; split<;>(try split)<;>omega
  rw [ret_bind]
  refine (negP_bg (s:=z.1) hz.1 (by omega)).mono fun r hr=>⟨_,rfl,hr.cast ?_⟩
  rw [hz.sv,if_pos hneg]
 ·have hneg:¬ D < 0:=fun h=>hc (by rw [if_pos h]; omega)
  rw [ret_bind]
  refine (normP_bg (s:=z.1) hz.1 (by omega)).mono fun r hr=>⟨_,rfl,hr.cast ?_⟩
  rw [hz.sv,if_neg hneg]
end
end Km
namespace Km
open Sx Go M Vc Lm Dt
section
variable {n w:Nat} {A:Mx} {T:List (List Nb)} {M:Int}
end
def mb (n:Nat):Int:=2*(((4:Nat):Int)*100) ^ (n+2)
theorem mb_ok {n:Nat} (hn:n≤4):mb n < pw 60∧100≤mb n:=by
 have e:(((4:Nat):Int)*100)=400:=by decide
 have h1:=pow_mono (X:=400) (by omega) (show n+2≤6 by omega)
 have h2:=pow_mono (X:=400) (by omega) (show 1≤n+2 by omega)
 have h3:pw 2≤pw 60:=pw_mono (by omega)
 have h4:(2:Int)*400 ^ 6 < pw 2:=by decide
 have h5:(400:Int) ^ 1=400:=by decide
 unfold mb
 rw [e]
 exact ⟨by omega,by omega⟩
theorem sqe_okb {l:List Int} {n w:Nat} {A:Mx} (hn:n≤4) (hA:∀ i j,i < n→j < w→Bd 100 (A i j)):Okb n w A (mb n):=okb_of (K:=4) (M:=100) (by omega) (by omega) hn hA
end Km
namespace Km
open Sx Go M Vc Lm Dt
section
variable {n w:Nat} {A:Mx} {T:List (List Nb)} {M:Int}
theorem pr_nn {n:Nat} {f:Nat→Int} (h:∀ i,i < n→0≤f i):0≤pr n f:=by
 induction n with
 | zero=>show (0:Int)≤1; omega
 | succ n ih=>exact Int.mul_nonneg (ih fun i hi=>h i (by omega)) (h n (by omega))
end
end Km
namespace Km
open Sx Go M Vc Lm Dt
def vk (fr:Nat) (a:Int) (col:Nat→Nat) (X:Nat→Int):Nat→Nat→Int
 | 0,j=>if j=fr then a else 0
 | i+1,j=>if j=col i then X i else vk fr a col X i j
section
variable {fr k:Nat} {a:Int} {col:Nat→Nat} {X:Nat→Int}
theorem vk_fr:∀ i,(∀ s,s < i→col s≠fr)→vk fr a col X i fr=a
 | 0,_=>if_pos rfl
 | i+1,h=>(if_neg (fun e=>h i (by omega) e.symm)).trans (vk_fr i fun s hs=>h s (by omega))
theorem vk_col:∀ i,(∀ s t,s < t→t < i→col s < col t)→∀ s,s < i→vk fr a col X i (col s)=X s
 | 0,_,s,hs=>absurd hs (by omega)
 | i+1,h,s,hs=>by
  show (if col s=col i then X i else vk fr a col X i (col s))=X s
  by_cases e:s=i
  ·subst e; rw [if_pos rfl]
  ·have:=h s i (by omega) (by omega)
   rw [if_neg (by omega)]
   exact vk_col i (fun s t h1 h2=>h s t h1 (by omega)) s (by omega)
theorem vk_no {j:Nat} (hj:j≠fr):∀ i,(∀ s,s < i→col s≠j)→vk fr a col X i j=0
 | 0,_=>if_neg hj
 | i+1,h=>(if_neg (fun e=>h i (by omega) e.symm)).trans (vk_no hj i fun s hs=>h s (by omega))
theorem vk_bd {M:Int} (hM:0≤M) (ha:Bd M a):∀ i,(∀ s,s < i→Bd M (X s))→∀ j,Bd M (vk fr a col X i j)
 | 0,_,j=>by
  show Bd M (if j=fr then a else 0)
  split
  ·exact ha
  ·exact ⟨by omega,hM⟩
 | i+1,h,j=>by
  show Bd M (if j=col i then X i else vk fr a col X i j)
  split
  ·exact h i (by omega)
  ·exact vk_bd hM ha i (fun s hs=>h s (by omega)) j
end
theorem Lg.zeros (w:Nat):Lg (List.replicate w ((false,[]):Nb)) w (fun _=>0):=⟨List.length_replicate ..,fun c hc=>⟨(false,[]),by rw [List.getElem?_replicate,if_pos hc],bg_zero⟩⟩
theorem gcd_le {x y:Int} (hx:0 < x):0 < ((Int.gcd x y:Nat):Int)∧((Int.gcd x y:Nat):Int)≤x:=by
 have h1:((Int.gcd x y:Nat):Int) ∣ x:=Int.gcd_dvd_left ..
 have h2:=Int.le_of_dvd hx h1
 have h3:Int.gcd x y≠0:=by
  intro h
  rw [Int.gcd_eq_zero_iff] at h
  omega
 omega
section
variable {n w:Nat} {A:Mx} {T:List (List Nb)} {M:Int}
def KR (n w:Nat) (A:Mx) (M:Int) (l:List Nb) (k:Nat):Prop:=
 (∃ A' col sn,Bar n w A A' col k w sn)∧((l=[]∧k=w)∨(k < w∧∃ u,Lg l w u∧(∀ j,j < w→Bd M (u j))∧(∀ r,r < n→sm w (fun j=>A r j*u j)=0)∧∀ d,(∀ j,j < w→d ∣ u j)→d ∣ 1))
theorem kernel_ok (hM:M < pw 190) (hR:Okb n w A M) (hT:Tg T n w A) (bA:∀ i j,i < n→j < w→Bd M (A i j)) (hn:n≤16) (hw:w≤16) (hn0:0 < n) (hw0:0 < w):
  ∃ l k,m_f2 T=some (l,0)∧m_fr T=some (((k:Nat):Int),0)∧KR n w A M l k:=by
 obtain ⟨T',ht,hT'⟩:=twin0_ok hM hT bA (by omega) (by omega)
 obtain ⟨⟨R,pv,zs,zl,sn⟩,hel,A',col,k,hB,hTR,hpv,hd⟩:=eliminate_ok (cw:=w) hM hR (Nat.le_refl w) (by omega) (by omega) hT'
 simp only at hB hTR hpv hd
 have hpl:pv.length=k:=by rw [hpv,List.length_map,List.length_range]
 have hcol:m_eh T=some (w:Int):=by rw [xcolumns_ok hT,if_neg (by omega)]
 have hchk:=xcheck_ok hT hn hw
 have hrank:m_fr T=some ((k:Int),0):=by
  unfold m_fr
  rw [hchk,obs,if_pos rfl,ht,obs,hcol,obs,hel,obs]
  simp only
  rw [hpl]
 have hpg:∀ s,s < k→getI pv (s:Int)=some (col s:Int):=fun s hs=>at_some (by rw [hpv,List.getElem?_map,List.getElem?_range hs]; rfl) rfl
 have hcols:∀ s,s < k→col s < w:=fun s hs=>hB.lt s hs
 have hge:∀ d s,s+d < k→col s+d≤col (s+d):=by
  intro d s
  induction d with
  | zero=>intro _; exact Nat.le_refl _
  | succ d ih=>intro hd; have:=hB.asc (s+d) (s+(d+1)) (by omega) (by omega); have:=ih (by omega); omega
 have hkw:k≤w:=by
  rcases Nat.eq_zero_or_pos k with h | h
  ·omega
  ·have h1:=hge (k - 1) 0 (by omega)
   have h2:=hcols (k - 1) (by omega)
   rw [Nat.zero_add] at h1
   omega
 have bD:=(hR A' col k 0 0 (bar_rows hB) hB.kn hcols hn0 hw0).2
 have bX:∀ i j,i < n→j < w→Bd M (Rk A' col k i j):=fun i j hi hj=>(hR A' col k i j (bar_rows hB) hB.kn hcols hi hj).1
 have hM0:=bD.nn
 have ld:=hd.lenB bD hM
 have hD0:=hB.d
 have hfree:Ret (loop (m_f1 (R,pv,zs,zl,sn)) 0) (fun o=>∃ fr:Nat,o=(fr:Int)∧fr≤k∧(∀ s,s < fr→col s=s)∧(fr < k→col fr≠fr)):=by
  refine ret_loop (Post:=fun o=>∃ fr:Nat,o=(fr:Int)∧fr≤k∧(∀ s,s < fr→col s=s)∧(fr < k→col fr≠fr)) k (fun j (i:Int)=>i=(j:Int)∧j≤k∧∀ s,s < j→col s=s) ⟨rfl,by omega,fun s hs=>absurd hs (by omega)⟩ ?_ (by omega)
  rintro j _ hj ⟨rfl,hjk,hI⟩
  unfold m_f1
  simp only
  rw [hpl]
  by_cases hlt:j < k
  ·rw [if_pos (by omega),hpg j hlt,obs,obs,ret_if]
   refine ⟨fun he=>⟨_,rfl,hlt,by rw [wa_i (by omega) (by omega)]; rfl,hlt,fun s hs=>?_⟩,fun he=>⟨_,rfl,j,rfl,hjk,hI,fun _ h=>he (by rw [h]; simp)⟩⟩
   have he:(col j:Int)=(j:Int):=by simpa using he
   by_cases e:s=j
   ·subst e; omega
   ·exact hI s (by omega)
  ·rw [if_neg (by omega),obs,if_neg (by simp)]
   exact ⟨_,rfl,j,rfl,hjk,hI,fun h=>absurd h hlt⟩
 obtain ⟨_,hfl,fr,rfl,hfk,hfs,hfn⟩:=hfree
 have hpre:∀ (f:Int→Option (List Nb×Int)),((loop (m_f1 (R,pv,zs,zl,sn)) 0).bind f)=f (fr:Int):=fun f=>by rw [hfl,obs]
 by_cases hfw:fr=w
 ·refine ⟨[],k,?_,hrank,⟨A',col,sn,hB⟩,.inl ⟨rfl,by omega⟩⟩
  unfold m_f2
  rw [hchk,obs,if_pos rfl,hcol,obs,ht,obs,hel,obs,hpre,if_pos (by omega)]
 ·have hno:∀ s,s < k→col s≠fr:=by
   intro s hs
   by_cases h1:s < fr
   ·rw [hfs s h1]; omega
   ·have h2:fr < k:=by omega
    have h3:=hfn h2
    have h4:=hge (s - fr) fr (by omega)
    rw [show fr+(s - fr)=s by omega] at h4
    have h5:fr≤col fr:=by
     rcases Nat.eq_zero_or_pos fr with h | h
     ·omega
     ·have h6:=hB.asc (fr - 1) fr (by omega) h2
      rw [hfs (fr - 1) (by omega)] at h6
      omega
    omega
  have hkw2:k < w:=by
   refine Classical.byContradiction fun hc=>?_
   have hk:k=w:=by omega
   have h2:fr < k:=by omega
   have h4:=hge (k - 1 - fr) fr (by omega)
   rw [show fr+(k - 1 - fr)=k - 1 by omega] at h4
   have h5:fr≤col fr:=by
    rcases Nat.eq_zero_or_pos fr with h | h
    ·omega
    ·have h6:=hB.asc (fr - 1) fr (by omega) h2
     rw [hfs (fr - 1) (by omega)] at h6
     omega
   have h3:=hfn h2
   have h7:=hcols (k - 1) (by omega)
   omega
  have hfrw:fr < w:=by omega
  generalize hDD:det k (Pm_ A' col)=D at*
  let a:Int:=if D < 0 then -D else D
  let X:Nat→Int:=fun s=>if D < 0 then Rk A' col k s fr else - Rk A' col k s fr
  have ha0:0 < a:=by show 0 < (if D < 0 then -D else D); split<;>omega
  have ba:Bd M a:=by show Bd M (if D < 0 then -D else D); split; exact bD.neg; exact bD
  have hkn:=hB.kn
  have bXs:∀ s,s < k→Bd M (X s):=fun s hs=>by
   show Bd M (if D < 0 then Rk A' col k s fr else - Rk A' col k s fr)
   split
   ·exact bX s fr (by omega) hfrw
   ·exact (bX s fr (by omega) hfrw).neg
  have key:Ret (m_f2 T) (fun r=>r.2=0∧∃ u,Lg r.1 w u∧(∀ j,j < w→Bd M (u j))∧(∀ r,r < n→sm w (fun j=>A r j*u j)=0)∧∀ d,(∀ j,j < w→d ∣ u j)→d ∣ 1):=by
   unfold m_f2
   rw [hchk,obs,if_pos rfl,hcol,obs,ht,obs,hel,obs,hpre,if_neg (by omega),ret_bind,ret_mkL]
   refine ⟨by omega,by omega,?_⟩
   rw [Int.toNat_natCast,ret_bind]
   refine (absP_bg (s:=zs) hd.1 (by omega)).mono fun z hz=>?_
   have hz:Bg a z.1 z.2:=by rw [hd.abs] at hz; exact hz
   have h0:Lg ((List.replicate w ((false,[]):Nb)).set fr (z.1,z.2)) w (vk fr a col X 0):=((Lg.zeros w).set hfrw (z:=(z.1,z.2)) hz).congr fun c _=>rfl
   rw [set_some (by rw [List.length_replicate]; exact hfrw) rfl,obs]
   obtain ⟨y,hy1,hy2⟩:=h0.at hfrw (i:=(fr:Int)) rfl
   have hy2:Bg a y.1 y.2:=hy2.cast (if_pos rfl)
   rw [hy1,obs,ret_bind]
   refine (ret_loop (Post:=fun o:List Nb×Bool×List Int=>Lg o.1 w (vk fr a col X k)∧∃ G,Bg G o.2.1 o.2.2∧(0 < G∧G≤a)∧(G ∣ a∧∀ s,s < k→G ∣ X s)∧∀ d,d ∣ a→(∀ s,s < k→d ∣ X s)→d ∣ G) k (fun i (s:List Nb×Bool×List Int×Int)=>s.2.2.2=(i:Int)∧Lg s.1 w (vk fr a col X i)∧∃ G,Bg G s.2.1 s.2.2.1∧(0 < G∧G≤a)∧(G ∣ a∧∀ s,s < i→G ∣ X s)∧∀ d,d ∣ a→(∀ s,s < i→d ∣ X s)→d ∣ G) ⟨rfl,h0,a,hy2,⟨ha0,Int.le_refl a⟩,⟨Int.dvd_refl a,fun s hs=>absurd hs (by omega)⟩,fun d h _=>h⟩ ?_ (by omega)).mono ?_
   ·rintro i ⟨o,gs,gl,_⟩ hi ⟨rfl,hI,G,hG,⟨g0,g1⟩,⟨g2,g3⟩,g4⟩
    simp only at hI hG
    unfold m_f0
    simp only
    rw [hpl,ret_if]
    refine ⟨fun hlt=>?_,fun hge2=>⟨_,rfl,by have e:i=k:=(by omega); subst e; exact ⟨hI,G,hG,⟨g0,g1⟩,⟨g2,g3⟩,g4⟩⟩⟩
    have hik:i < k:=by omega
    obtain ⟨row,h1,h2⟩:=hTR.at (show i < n by omega) (i:=(i:Int)) rfl
    obtain ⟨x,h3,h4⟩:=h2.at hfrw (i:=(fr:Int)) rfl
    have lx:=h4.lenB (bX i fr (by omega) hfrw) hM
    rw [hpg i hik,obs,h1,obs,h3,obs,ret_bind]
    refine (turned_ok hd h4 (by omega) (by omega)).mono fun t ht2=>?_
    have bt:Bd M (if D < 0 then - Rk A' col k i fr else Rk A' col k i fr):=by
     split
     ·exact (bX i fr (by omega) hfrw).neg
     ·exact bX i fr (by omega) hfrw
    have lt:=ht2.lenB bt hM
    rw [ret_bind]
    refine (negP_bg (s:=t.1) ht2.1 (by omega)).mono fun q hq=>?_
    have hq:Bg (X i) q.1 q.2:=by
     rw [ht2.sv] at hq
     refine hq.cast ?_
     show -(if D < 0 then - Rk A' col k i fr else Rk A' col k i fr)=if D < 0 then Rk A' col k i fr else - Rk A' col k i fr
     split<;>omega
    have hci:=hcols i hik
    rw [set_some (by rw [hI.1]; exact hci) rfl,obs]
    have hS:Lg (o.set (col i) (q.1,q.2)) w (vk fr a col X (i+1)):=(hI.set hci (z:=(q.1,q.2)) hq).congr fun c _=>rfl
    obtain ⟨y2,hy3,hy4⟩:=hS.at hci (i:=(col i:Int)) rfl
    have hy4:Bg (X i) y2.1 y2.2:=hy4.cast (if_pos rfl)
    have ly2:=hy4.lenB (bXs i hik) hM
    have lG:=hG.lenB (show Bd M G from ⟨by omega,by have:=ba.2; omega⟩) hM
    rw [hy3,obs,ret_bind]
    refine (gcdP_ok (s:=gs) (t:=y2.1) hG.1 hy4.1 (by omega) (by omega)).mono fun g hg=>?_
    rw [hG.sv,hy4.sv] at hg
    obtain ⟨e1,e2⟩:=gcd_le (x:=G) (y:=X i) g0
    have d1:((Int.gcd G (X i):Nat):Int) ∣ G:=Int.gcd_dvd_left ..
    have d2:((Int.gcd G (X i):Nat):Int) ∣ X i:=Int.gcd_dvd_right ..
    refine ⟨_,rfl,hik,by show wa .i64 (i:Int) 1=_; rw [wa_i (by omega) (by omega)]; rfl,hS,_,hg,⟨e1,by omega⟩,⟨Int.dvd_trans d1 g2,fun s hs=>?_⟩,fun d hda hdx=>?_⟩
    ·by_cases e:s=i
     ·subst e; exact d2
     ·exact Int.dvd_trans d1 (g3 s (by omega))
    ·exact Int.dvd_coe_gcd (g4 d hda fun s hs=>hdx s (by omega)) (hdx i (by omega))
   ·rintro ⟨o,gs,gl⟩ ⟨hO,G,hG,⟨g0,g1⟩,⟨g2,g3⟩,g4⟩
    simp only at hO hG ⊢
    have bv:∀ j,Bd M (vk fr a col X k j):=vk_bd hM0 ba k bXs
    have hGd:∀ j,j < w→G ∣ vk fr a col X k j:=by
     intro j hj
     by_cases e:j=fr
     ·subst e; rw [vk_fr k hno]; exact g2
     ·by_cases hex:∃ s,s < k∧col s=j
      ·obtain ⟨s,hs,rfl⟩:=hex
       rw [vk_col k hB.asc s hs]; exact g3 s hs
      ·rw [vk_no e k fun s hs h=>hex ⟨s,hs,h⟩]; exact Int.dvd_zero _
    have hue:∀ j,j < w→G*(vk fr a col X k j / G)=vk fr a col X k j:=fun j hj=>Int.mul_ediv_cancel' (hGd j hj)
    have lG:=hG.lenB (show Bd M G from ⟨by omega,by have:=ba.2; omega⟩) hM
    have bu:∀ j,j < w→Bd M (vk fr a col X k j / G):=by
     intro j hj
     have h1:=hue j hj
     have h2:=bv j
     generalize vk fr a col X k j / G=u at*
     rw [← h1] at h2
     rcases Int.le_total 0 u with h3 | h3
     ·have:1*u≤G*u:=Int.mul_le_mul_of_nonneg_right (by omega) h3
      exact ⟨by omega,by have:=h2.2; omega⟩
     ·have:G*u≤1*u:=Int.mul_le_mul_of_nonpos_right (by omega) h3
      exact ⟨by have:=h2.1; omega,by omega⟩
    rw [ret_bind]
    refine (ret_loop (Post:=fun r:List Nb=>Lg r w (fun j=>vk fr a col X k j / G)) w (fun i (s:List Nb×Int)=>s.2=(i:Int)∧Lg s.1 w (fun j=>if j < i then vk fr a col X k j / G else vk fr a col X k j)) ⟨rfl,hO.congr fun c _=>(if_neg (by omega)).symm⟩ ?_ (by omega)).mono ?_
    ·rintro i ⟨r,_⟩ hi ⟨rfl,hI⟩
     simp only at hI
     unfold m_fz
     simp only
     rw [hO.1,ret_if]
     refine ⟨fun hlt=>?_,fun hge2=>⟨_,rfl,hI.congr fun c hc=>if_pos (by omega)⟩⟩
     have hiw:i < w:=by omega
     obtain ⟨x,h1,h2⟩:=hI.at hiw (i:=(i:Int)) rfl
     have h2:Bg (vk fr a col X k i) x.1 x.2:=h2.cast (if_neg (by omega))
     have lx:=h2.lenB (bv i) hM
     rw [h1,obs,ret_bind]
     refine (quoP_bg (s:=x.1) (t:=gs) (h:=vk fr a col X k i / G) h2.1 hG.1 (by omega) (by omega) (by rw [hG.sv]; omega) (by rw [h2.sv,hG.sv,hue i hiw])).mono ?_
     rintro ⟨t1,t2,t3⟩ ⟨ht3,_⟩
     simp only at ht3 ⊢
     rw [set_some (by rw [hI.1]; exact hiw) rfl,obs]
     refine ⟨_,rfl,hiw,by show wa .i64 (i:Int) 1=_; rw [wa_i (by omega) (by omega)]; rfl,(hI.set hiw (z:=(t1,t2)) ht3).congr fun c hc=>?_⟩
     by_cases e:c=i
     ·subst e; rw [if_pos rfl,if_pos (by omega)]
     ·rw [if_neg e]
      by_cases hck:c < i
      ·rw [if_pos hck,if_pos (by omega)]
      ·rw [if_neg hck,if_neg (by omega)]
    ·intro r hr
     refine ⟨_,rfl,rfl,_,hr,bu,fun i hi=>?_,fun d hdv=>?_⟩
     ·
      have hker:=hB.kernel hfrw hno (v:=fun j=>if D < 0 then - vk fr a col X k j else vk fr a col X k j) (by
       show (if D < 0 then - vk fr a col X k fr else vk fr a col X k fr)=det k (Pm_ A' col)
       rw [vk_fr k hno,hDD]
       show (if D < 0 then -(if D < 0 then -D else D) else (if D < 0 then -D else D))=D
       split<;>omega) (fun s hs=>by
       show (if D < 0 then - vk fr a col X k (col s) else vk fr a col X k (col s))=_
       rw [vk_col k hB.asc s hs]
       show (if D < 0 then -(if D < 0 then Rk A' col k s fr else - Rk A' col k s fr) else (if D < 0 then Rk A' col k s fr else - Rk A' col k s fr))=_
       split<;>omega) (fun j hj h1 h2=>by
       show (if D < 0 then - vk fr a col X k j else vk fr a col X k j)=0
       rw [vk_no h1 k h2]; split<;>omega) i hi
      have e1:sm w (fun j=>A i j*vk fr a col X k j)=0:=by
       by_cases hn2:D < 0
       ·have e2:sm w (fun j=>A i j*(if D < 0 then - vk fr a col X k j else vk fr a col X k j))= -1*sm w (fun j=>A i j*vk fr a col X k j):=by
         rw [← sm_mul]; exact sm_congr fun j _=>by rw [if_pos hn2]; grind
        rw [e2] at hker; omega
       ·have e2:sm w (fun j=>A i j*(if D < 0 then - vk fr a col X k j else vk fr a col X k j))=sm w (fun j=>A i j*vk fr a col X k j):=sm_congr fun j _=>by rw [if_neg hn2]
        rw [e2] at hker; exact hker
      have e3:sm w (fun j=>A i j*vk fr a col X k j)=G*sm w (fun j=>A i j*(vk fr a col X k j / G)):=by
       rw [← sm_mul]
       exact sm_congr fun j hj=>by
        have h9:=hue j hj
        have h8:A i j*vk fr a col X k j=A i j*(G*(vk fr a col X k j / G)):=by rw [h9]
        rw [h8]; grind
      rw [e3] at e1
      rcases Int.mul_eq_zero.1 e1 with h | h
      ·omega
      ·exact h
     ·
      have hdG:∀ j,j < w→d*G ∣ vk fr a col X k j:=by
       intro j hj
       obtain ⟨c,hc⟩:=hdv j hj
       refine ⟨c,?_⟩
       have h9:=hue j hj
       have hc:vk fr a col X k j / G=d*c:=hc
       rw [← h9,hc]; grind
      have h1:d*G ∣ a:=by have:=hdG fr hfrw; rwa [vk_fr k hno] at this
      have h2:∀ s,s < k→d*G ∣ X s:=fun s hs=>by have:=hdG (col s) (hcols s hs); rwa [vk_col k hB.asc s hs] at this
      obtain ⟨c,hc⟩:=g4 _ h1 h2
      have h3:G*(d*c - 1)=0:=by
       have:d*G*c=G*(d*c):=by grind
       rw [Int.mul_sub]; omega
      rcases Int.mul_eq_zero.1 h3 with h | h
      ·omega
      ·exact ⟨c,by omega⟩
  obtain ⟨⟨l,e⟩,hk1,he,hu⟩:=key
  simp only at he hu
  subst he
  exact ⟨l,k,hk1,hrank,⟨A',col,sn,hB⟩,.inr ⟨hkw2,hu⟩⟩
end
end Km
namespace Km
open Sx Go M Vc Lm Dt
def Rw (K:Nat) (v:Int) (z:Nb):Prop:=LW z.2∧z.2.length≤K∧sv z.1 z.2=v
def Lr (K:Nat) (l:List Nb) (w:Nat) (f:Nat→Int):Prop:=l.length=w∧∀ c,c < w→∃ z,l[c]?=some z∧Rw K (f c) z
def Tr (K:Nat) (T:List (List Nb)) (n w:Nat) (A:Mx):Prop:=T.length=n∧∀ r,r < n→∃ l,T[r]?=some l∧Lr K l w (A r)
theorem Rw.bd {K:Nat} {v:Int} {z:Nb} (h:Rw K v z):Bd (pw K) v:=by
 obtain ⟨h1,h2,h3⟩:=h
 have a1:=lv_nn h1
 have a2:=lv_lt h1
 have a3:=pw_mono h2
 unfold sv at h3
 split at h3
 ·exact ⟨by omega,by omega⟩
 ·exact ⟨by omega,by omega⟩
theorem Bg.rw {K:Nat} {v:Int} {z:Nb} (h:Bg v z.1 z.2) (hl:z.2.length≤K):Rw K v z:=⟨h.1,hl,h.sv⟩
theorem Lg.lr {K:Nat} {l:List Nb} {w:Nat} {f:Nat→Int} {M:Int} (h:Lg l w f) (hb:∀ j,j < w→Bd M (f j)) (hM:M < pw K):Lr K l w f:=⟨h.1,fun c hc=>by
 obtain ⟨z,h1,h2⟩:=h.2 c hc
 exact ⟨z,h1,h2.rw (h2.lenB (hb c hc) hM)⟩⟩
theorem Tg.tr {K:Nat} {T:List (List Nb)} {n w:Nat} {A:Mx} {M:Int} (h:Tg T n w A) (hb:∀ i j,i < n→j < w→Bd M (A i j)) (hM:M < pw K):Tr K T n w A:=⟨h.1,fun r hr=>by
 obtain ⟨l,h1,h2⟩:=h.2 r hr
 exact ⟨l,h1,h2.lr (fun j hj=>hb r j hr hj) hM⟩⟩
theorem Lr.at {K:Nat} {l:List Nb} {w:Nat} {f:Nat→Int} (h:Lr K l w f) {c:Nat} (hc:c < w) {i:Int} (hi:i=(c:Int)):∃ z,getI l i=some z∧Rw K (f c) z:=by
 obtain ⟨z,h1,h2⟩:=h.2 c hc
 exact ⟨z,at_some h1 hi,h2⟩
theorem Tr.at {K:Nat} {T:List (List Nb)} {n w:Nat} {A:Mx} (h:Tr K T n w A) {r:Nat} (hr:r < n) {i:Int} (hi:i=(r:Int)):∃ l,getI T i=some l∧Lr K l w (A r):=by
 obtain ⟨l,h1,h2⟩:=h.2 r hr
 exact ⟨l,at_some h1 hi,h2⟩
def Sh (T:List (List Nb)) (n w:Nat):Prop:=T.length=n∧∀ r,r < n→∃ l,T[r]?=some l∧l.length=w
theorem Tr.sh {K:Nat} {T:List (List Nb)} {n w:Nat} {A:Mx} (h:Tr K T n w A):Sh T n w:=⟨h.1,fun r hr=>by
 obtain ⟨l,h1,h2⟩:=h.2 r hr
 exact ⟨l,h1,h2.1⟩⟩
theorem Tg.sh {T:List (List Nb)} {n w:Nat} {A:Mx} (h:Tg T n w A):Sh T n w:=⟨h.1,fun r hr=>by
 obtain ⟨l,h1,h2⟩:=h.2 r hr
 exact ⟨l,h1,h2.1⟩⟩
theorem Sh.at {T:List (List Nb)} {n w:Nat} (h:Sh T n w) {r:Nat} (hr:r < n) {i:Int} (hi:i=(r:Int)):∃ l,getI T i=some l∧l.length=w:=by
 obtain ⟨l,h1,h2⟩:=h.2 r hr
 exact ⟨l,at_some h1 hi,h2⟩
section
variable {n w K:Nat} {A:Mx} {T:List (List Nb)}
theorem ycolumns_ok (hT:Sh T n w):m_eh T=some (if n=0 then 0 else (w:Int)):=by
 unfold m_eh
 by_cases h0:n=0
 ·rw [if_pos (by rw [hT.1]; omega),if_pos h0]
 ·rw [if_neg (by rw [hT.1]; omega),if_neg h0]
  obtain ⟨l,h1,h2⟩:=hT.at (r:=0) (by omega) (i:=0) rfl
  rw [h1,obs,h2]
theorem yrcols_ok (hT:Sh T n w):m_h3 T=some (if n=0 then 0 else (w:Int)):=by
 unfold m_h3
 by_cases h0:n=0
 ·rw [if_pos (by rw [hT.1]; omega),if_pos h0]
 ·rw [if_neg (by rw [hT.1]; omega),if_neg h0]
  obtain ⟨l,h1,h2⟩:=hT.at (r:=0) (by omega) (i:=0) rfl
  rw [h1,obs,h2]
theorem ycheck_ok (hT:Sh T n w) (hn:n≤16) (hw:w≤16):m_em T=some 0:=by
 have hc:m_el T (if n=0 then 0 else (w:Int))=some false:=by
  refine Ret.eq ?_
  unfold m_el m_ek
  rw [ret_bind,ret_bind]
  refine (ret_loop (Post:=fun o=>o=.inl ()) n (fun k (i:Int)=>i=(k:Int)) rfl ?_ (by omega)).mono ?_
  ·rintro k _ hk rfl
   unfold m_ej
   rw [hT.1,ret_if]
   refine ⟨fun hlt=>?_,fun _=>⟨_,rfl,rfl⟩⟩
   obtain ⟨l,h1,h2⟩:=hT.at (r:=k) (by omega) (i:=(k:Int)) rfl
   unfold m_ei
   rw [h1,obs,obs,h2,if_neg (show ¬ n=0 by omega)]
   simp only [decide_true,Bool.not_true,Bool.false_eq_true,if_false]
   exact ⟨_,rfl,by omega,by show wa .i64 (k:Int) 1=_; rw [wa_i (by omega) (by omega)]; rfl⟩
  ·rintro _ rfl
   exact ⟨_,rfl,_,rfl,rfl⟩
 unfold m_em
 rw [ycolumns_ok hT,obs,hc,obs,if_neg (by simp),hT.1,if_neg]
 simp only [Bool.or_eq_true,decide_eq_true_eq,not_or]
 split<;>omega
theorem normR_ok {v:Int} {z:Nb} (hz:Rw K v z) (hK:K≤400):Ret (m_dd z.1 z.2) (fun r=>Bg v r.1 r.2):=(normP_bg (s:=z.1) hz.1 (by have:=hz.2.1; omega)).mono fun r hr=>by rw [hz.2.2] at hr; exact hr
theorem yrowtwin_ok {row:List Nb} {f:Nat→Int} (hrow:Lr K row w f) (hK:K≤400) (hw:w≤1000):Ret (loop (m_eo row) ([],0)) (fun o=>Lg o w f):=by
 refine ret_loop (Post:=fun o:List Nb=>Lg o w f) w (fun k (s:List Nb×Int)=>s.2=(k:Int)∧Lg s.1 k f) ⟨rfl,rfl,fun c hc=>absurd hc (by omega)⟩ ?_ (by omega)
 rintro k ⟨o,_⟩ hk ⟨rfl,hI⟩
 simp only at hI
 unfold m_eo
 simp only
 rw [hrow.1,ret_if]
 refine ⟨fun hlt=>?_,fun hge=>⟨_,rfl,by have e:k=w:=(by omega); subst e; exact hI⟩⟩
 have hkw:k < w:=by omega
 obtain ⟨z,h1,h2⟩:=hrow.at hkw (i:=(k:Int)) rfl
 rw [h1,obs,ret_bind]
 refine (normR_ok h2 hK).mono fun r hr=>?_
 rw [ret_bind,ret_app]
 refine ⟨by rw [hI.1]; simp only [List.length_cons,List.length_nil]; omega,_,rfl,hkw,by show wa .i64 (k:Int) 1=_; rw [wa_i (by omega) (by omega)]; rfl,hI.snoc (z:=(r.1,r.2)) hr⟩
theorem ytwin0_ok (hT:Tr K T n w A) (hK:K≤400) (hn:n≤1000) (hw:w≤1000):Ret (m_eq T []) (fun o=>Tg o n w A):=by
 unfold m_eq
 rw [ret_bind]
 refine (ret_loop (Post:=fun o:List (List Nb)=>Tg o n w A) n (fun k (s:List (List Nb)×Int)=>s.2=(k:Int)∧Tg s.1 k w A) ⟨rfl,rfl,fun c hc=>absurd hc (by omega)⟩ ?_ (by omega)).mono fun r hr=>⟨_,rfl,hr⟩
 rintro k ⟨o,_⟩ hk ⟨rfl,hI⟩
 simp only at hI
 unfold m_ep
 simp only
 rw [hT.1,ret_if]
 refine ⟨fun hlt=>?_,fun hge=>⟨_,rfl,by have e:k=n:=(by omega); subst e; exact hI⟩⟩
 have hkn:k < n:=by omega
 obtain ⟨row,h1,h2⟩:=hT.at hkn (i:=(k:Int)) rfl
 rw [h1,obs,ret_bind]
 refine (yrowtwin_ok h2 hK hw).mono fun r hr=>?_
 rw [if_neg (by simp)]
 unfold m_en
 rw [ret_bind,ret_app]
 exact ⟨by rw [hI.1]; simp only [List.length_cons,List.length_nil]; omega,_,rfl,hkn,by show wa .i64 (k:Int) 1=_; rw [wa_i (by omega) (by omega)]; rfl,hI.snoc hr⟩
theorem Lg.zeros' (w:Nat):Lg (List.replicate w ((false,[]):Nb)) w (fun _=>0):=⟨List.length_replicate ..,fun c hc=>⟨(false,[]),by rw [List.getElem?_replicate,if_pos hc],bg_zero⟩⟩
end
end Km
namespace Km
open Sx Go M Vc Lm Dt
section
variable {n w K:Nat} {A:Mx} {T:List (List Nb)}
theorem yrank_ok {M:Int} (hM:M < pw 190) (hT:Tr K T n w A) (hK:K≤400) (hR:Okb n w A M) (hn:n≤16) (hw:w≤16) (hn0:0 < n∨w=0):∃ k:Nat,m_fr T=some ((k:Int),0)∧∃ A' col sn,Bar n w A A' col k w sn:=by
 obtain ⟨T',ht,hT'⟩:=ytwin0_ok hT hK (by omega) (by omega)
 obtain ⟨⟨R,pv,zs,zl,sn⟩,hel,A',col,k,hB,hTR,hpv,hd⟩:=eliminate_ok (cw:=w) hM hR (Nat.le_refl w) (by omega) (by omega) hT'
 simp only at hB hTR hpv hd
 have hpl:pv.length=k:=by rw [hpv,List.length_map,List.length_range]
 refine ⟨k,?_,A',col,sn,hB⟩
 have hcol:m_eh T=some (w:Int):=by
  rw [ycolumns_ok hT.sh]
  split
  ·rename_i h0; have:w=0:=(by omega); rw [this]; rfl
  ·rfl
 unfold m_fr
 rw [ycheck_ok hT.sh hn hw,obs,if_pos rfl,ht,obs,hcol,obs,hel,obs]
 simp only
 rw [hpl]
end
end Km
namespace Km
open Sx Go M Vc Lm Dt
abbrev Fb:=Bool×List Int×Bool×List Int
def Bk (K:Nat) (v:Int):Prop:=- pw K < v∧v < pw K
theorem bk_sv {s:Bool} {l:List Int} {K:Nat} (h:LW l) (hl:l.length≤K):Bk K (sv s l):=by
 have a1:=lv_nn h
 have a2:=lv_lt h
 have a3:=pw_mono hl
 unfold sv
 split
 ·exact ⟨by omega,by omega⟩
 ·exact ⟨by omega,by omega⟩
theorem Bk.len {K:Nat} {v:Int} {s:Bool} {l:List Int} (h:Bk K v) (hb:Bg v s l):l.length≤K:=hb.len h.1 h.2
theorem Bk.mul {K L:Nat} {u v:Int} (h:Bk K u) (h':Bk L v):Bk (K+L) (u*v):=by
 have e:pw (K+L)=pw K*pw L:=pw_add K L
 have p1:=pw_pos K
 have p2:=pw_pos L
 have b:=(show Bd (pw K - 1) u from ⟨by have:=h.1; omega,by have:=h.2; omega⟩).mul (show Bd (pw L - 1) v from ⟨by have:=h'.1; omega,by have:=h'.2; omega⟩)
 have e2:(pw K - 1)*(pw L - 1)=pw K*pw L - pw K - pw L+1:=by grind
 rw [e2] at b
 exact ⟨by have:=b.1; omega,by have:=b.2; omega⟩
theorem Bk.mono {K L:Nat} {v:Int} (h:Bk K v) (hKL:K≤L):Bk L v:=by
 have:=pw_mono hKL
 exact ⟨by have:=h.1; omega,by have:=h.2; omega⟩
theorem Bk.of {K:Nat} {v M:Int} (h:Bd M v) (hM:M < pw K):Bk K v:=⟨by have:=h.1; omega,by have:=h.2; omega⟩
theorem Bk.sub {K:Nat} {u v:Int} (h:Bk K u) (h':Bk K v):Bk (K+1) (u - v):=by
 have e:pw (K+1)=B*pw K:=rfl
 have e2:B=4294967296:=rfl
 have p1:=pw_pos K
 have:=h.1; have:=h.2; have:=h'.1; have:=h'.2
 exact ⟨by rw [e,e2]; omega,by rw [e,e2]; omega⟩
theorem quoR_ok {s t:Bool} {a b:List Int} (ha:LW a) (hb:LW b) (hn:a.length≤800) (hm:b.length≤800) (hne:sv t b≠0) (hd:sv t b ∣ sv s a):Ret (m_im s a t b) (fun r=>Bg (sv s a / sv t b) r.1 r.2.1):=by
 unfold m_im
 rw [ret_bind]
 refine (divmodR_bg (s:=s) (t:=t) ha hb hn hm hne).mono ?_
 rintro ⟨q1,q2,q3,q4⟩ ⟨h1,h2⟩
 simp only at h1 h2 ⊢
 rw [Int.emod_eq_zero_of_dvd hd] at h2
 have l2:=h2.lenB (M:=0) (m:=1) ⟨by omega,by omega⟩ (by decide)
 have hs:=signR_bg h2 (by omega)
 rw [if_neg (by omega),if_neg (by omega)] at hs
 rw [hs,obs,if_pos rfl]
 exact ⟨_,rfl,h1⟩
def Fr (z:Fb) (n d:Int):Prop:=Bg n z.1 z.2.1∧Bg d z.2.2.1 z.2.2.2
theorem frac_ok {s t:Bool} {a b:List Int} {u v:Int} (ha:LW a) (hb:LW b) (hu:sv s a=u) (hv:sv t b=v) (hn:a.length≤400) (hm:b.length≤400) (hne:v≠0) (htb:Bg v t b):Ret (m_io s a t b) (fun r=>Fr r (nrm u v).1 (nrm u v).2):=by
 unfold m_io
 rw [ret_bind]
 refine (gcdR_ok (s:=s) (t:=t) ha hb hn hm).mono ?_
 rintro ⟨gs,gl⟩ hg
 simp only at hg ⊢
 rw [hu,hv] at hg
 have hgv:(Int.gcd u v:Int) ∣ v:=Int.gcd_dvd_right ..
 have hgu:(Int.gcd u v:Int) ∣ u:=Int.gcd_dvd_left ..
 have hg0:Int.gcd u v≠0:=fun h=>hne (Int.eq_zero_of_gcd_eq_zero_right h)
 have hgle:(Int.gcd u v:Nat)≤v.natAbs:=Nat.le_of_dvd (by omega) (by have:=Int.natAbs_dvd_natAbs.2 hgv; simpa using this)
 have hbv:=bk_sv (s:=t) hb hm
 rw [hv] at hbv
 have hgb:Bk 400 (Int.gcd u v:Int):=⟨by have:=pw_pos 400; omega,by have:=hbv.1; have:=hbv.2; omega⟩
 have lg:=hgb.len hg
 rw [signR_bg htb (by omega),obs]
 have key:∀ (xs:Bool) (xl:List Int) (g:Int),Bg g xs xl→g=sgcd u v→xl.length≤400→Ret (m_in s a t b xs xl) (fun r=>Fr r (nrm u v).1 (nrm u v).2):=by
  rintro xs xl g hx rfl hl
  unfold m_in
  have hs0:=sgcd_ne (a:=u) hne
  rw [ret_bind]
  refine (quoR_ok (s:=s) (t:=xs) ha hx.1 (by omega) (by omega) (by rw [hx.sv]; exact hs0) (by rw [hx.sv,hu]; exact sgcd_l u v)).mono fun r hr=>?_
  rw [hx.sv,hu] at hr
  rw [ret_bind]
  refine (quoR_ok (s:=t) (t:=xs) hb hx.1 (by omega) (by omega) (by rw [hx.sv]; exact hs0) (by rw [hx.sv,hv]; exact sgcd_r u v)).mono fun q hq=>?_
  rw [hx.sv,hv] at hq
  exact ⟨_,rfl,hr,hq⟩
 rw [ret_if]
 refine ⟨fun hneg=>?_,fun hpos=>?_⟩
 ·have hv0:v < 0:=by revert hneg; split<;>(try split)<;>omega
  rw [ret_bind]
  refine (negR_bg (s:=gs) hg.1 (by omega)).mono fun r hr=>?_
  obtain ⟨hr,hl⟩:=hr
  rw [hg.sv] at hr
  exact key r.1 r.2 _ hr (by unfold sgcd; rw [if_pos hv0]) (by omega)
 ·have hv0:¬ v < 0:=fun h=>hpos (by rw [if_pos h]; omega)
  exact key gs gl _ hg (by unfold sgcd; rw [if_neg hv0]) lg
def Fq (z:Fb) (v D:Int):Prop:=∃ n d,Fr z n d∧Lo n d∧Vq n d v D
theorem Fq.cancel {z:Fb} {v D c:Int} (hc:c≠0) (h:Fq z (c*v) (c*D)):Fq z v D:=by
 obtain ⟨n,d,h1,h2,h3⟩:=h
 refine ⟨n,d,h1,h2,?_⟩
 unfold Vq at*
 have:c*(n*D - v*d)=0:=by grind
 rcases Int.mul_eq_zero.1 this with h | h
 ·exact absurd h hc
 ·omega
theorem Fq.scale {z:Fb} {v D:Int} (c:Int) (h:Fq z v D):Fq z (c*v) (c*D):=by
 obtain ⟨n,d,h1,h2,h3⟩:=h
 refine ⟨n,d,h1,h2,?_⟩
 unfold Vq at*
 have:n*(c*D)=c*(n*D):=by grind
 rw [this,h3]; grind
theorem Fq.zero {z:Fb} {D D':Int} (hD:D≠0) (h:Fq z 0 D):Fq z 0 D':=by
 obtain ⟨n,d,h1,h2,h3⟩:=h
 refine ⟨n,d,h1,h2,?_⟩
 unfold Vq at*
 rw [Int.zero_mul] at h3 ⊢
 rcases Int.mul_eq_zero.1 h3 with h | h
 ·rw [h,Int.zero_mul]
 ·exact absurd h hD
theorem Fq.num {z:Fb} {v D:Int} (hD:D≠0) (h:Fq z v D):∃ n d,Fr z n d∧Lo n d∧Vq n d v D∧(n=0↔v=0):=by
 obtain ⟨n,d,h1,h2,h3⟩:=h
 refine ⟨n,d,h1,h2,h3,?_,?_⟩
 ·rintro rfl
  unfold Vq at h3
  rw [Int.zero_mul] at h3
  rcases Int.mul_eq_zero.1 h3.symm with h | h
  ·exact h
  ·have:=h2.1; omega
 ·rintro rfl
  unfold Vq at h3
  rw [Int.zero_mul] at h3
  rcases Int.mul_eq_zero.1 h3 with h | h
  ·exact h
  ·exact absurd h hD
theorem Fq.len {z:Fb} {v D:Int} {K:Nat} (hD:D≠0) (hv:Bk K v) (hd:Bk K D) (h:Fq z v D):z.2.1.length≤K∧z.2.2.2.length≤K:=by
 obtain ⟨n,d,h1,h2,h3,h4⟩:=h.num hD
 unfold Vq at h3
 have hdp:=h2.1
 have d1:d ∣ D:=by
  have:d ∣ n*D:=⟨v,by rw [h3,Int.mul_comm]⟩
  exact idvd h2.2 this
 have n1:n ∣ v:=by
  have:n ∣ d*v:=⟨D,by rw [Int.mul_comm d v]; exact h3.symm⟩
  exact idvd (by rw [Int.gcd_comm]; exact h2.2) this
 have d2:d.natAbs≤D.natAbs:=Nat.le_of_dvd (by omega) (Int.natAbs_dvd_natAbs.2 d1)
 have n2:n.natAbs≤v.natAbs:=by
  by_cases h0:v=0
  ·rw [h4.2 h0]; omega
  ·exact Nat.le_of_dvd (by omega) (Int.natAbs_dvd_natAbs.2 n1)
 have bn:Bk K n:=⟨by have:=hv.1; have:=hv.2; omega,by have:=hv.1; have:=hv.2; omega⟩
 have bd:Bk K d:=⟨by have:=hd.1; have:=hd.2; omega,by have:=hd.1; have:=hd.2; omega⟩
 exact ⟨bn.len h1.1,bd.len h1.2⟩
theorem nrm_le {a b:Int} {K L:Nat} (hb:b≠0) (ha:Bk K a) (hB:Bk L b):Bk K (nrm a b).1∧Bk L (nrm a b).2:=by
 have h0:=sgcd_ne (a:=a) hb
 have key:∀ {x:Int} {K:Nat},sgcd a b ∣ x→Bk K x→Bk K (x / sgcd a b):=by
  rintro x K ⟨y,rfl⟩ hx
  rw [Int.mul_ediv_cancel_left _ h0]
  have h1:y.natAbs≤(sgcd a b*y).natAbs:=by
   rw [Int.natAbs_mul]
   have:1*y.natAbs≤(sgcd a b).natAbs*y.natAbs:=Nat.mul_le_mul_right _ (by omega)
   omega
  exact ⟨by have:=hx.1; have:=hx.2; omega,by have:=hx.1; have:=hx.2; omega⟩
 exact ⟨key (sgcd_l a b) ha,key (sgcd_r a b) hB⟩
theorem fminus_ok {x y z w:Fb} {X Y Z W D:Int} {K L:Nat} (hD:D≠0) (hW:W≠0) (hx:Fq x X D) (hy:Fq y Y D) (hz:Fq z Z D) (hw:Fq w W D) (lx:x.2.1.length≤L∧x.2.2.2.length≤L) (ly:y.2.1.length≤K∧y.2.2.2.length≤K) (lz:z.2.1.length≤K∧z.2.2.2.length≤K) (lw:w.2.1.length≤K∧w.2.2.2.length≤K) (hK:L+3*K≤380):
  Ret (m_ip x.1 x.2.1 x.2.2.1 x.2.2.2 y.1 y.2.1 y.2.2.1 y.2.2.2 z.1 z.2.1 z.2.2.1 z.2.2.2 w.1 w.2.1 w.2.2.1 w.2.2.2) (fun r=>Fq r (X*W - Y*Z) (D*W)):=by
 obtain ⟨xn,xd,fx,ox,vx⟩:=hx
 obtain ⟨yn,yd,fy,oy,vy⟩:=hy
 obtain ⟨zn,zd,fz,oz,vz⟩:=hz
 obtain ⟨wn,wd,fw,ow,vw⟩:=hw
 obtain ⟨hw0,hV⟩:=Dt.minus_ok hD hW ox oy oz ow vx vy vz vw
 have bxn:=bk_sv (s:=x.1) fx.1.1 lx.1
 have bxd:=bk_sv (s:=x.2.2.1) fx.2.1 lx.2
 have byn:=bk_sv (s:=y.1) fy.1.1 ly.1
 have byd:=bk_sv (s:=y.2.2.1) fy.2.1 ly.2
 have bzn:=bk_sv (s:=z.1) fz.1.1 lz.1
 have bzd:=bk_sv (s:=z.2.2.1) fz.2.1 lz.2
 have bwn:=bk_sv (s:=w.1) fw.1.1 lw.1
 have bwd:=bk_sv (s:=w.2.2.1) fw.2.1 lw.2
 rw [fx.1.sv] at bxn
 rw [fx.2.sv] at bxd
 rw [fy.1.sv] at byn
 rw [fy.2.sv] at byd
 rw [fz.1.sv] at bzn
 rw [fz.2.sv] at bzd
 rw [fw.1.sv] at bwn
 rw [fw.2.sv] at bwd
 have hyd:=oy.1
 have hzd:=oz.1
 have hxd:=ox.1
 have hden:yd*zd*wn≠0:=Int.mul_ne_zero (Int.mul_ne_zero (by omega) (by omega)) hw0
 unfold m_ip
 rw [ret_bind]
 refine (mulR_bg (s:=y.1) (t:=z.1) fy.1.1 fz.1.1 (by omega) (by omega)).mono fun r1 h1=>?_
 rw [fy.1.sv,fz.1.sv] at h1
 have l1:=(byn.mul bzn).len h1
 rw [ret_bind]
 refine (mulR_bg (s:=r1.1) (t:=w.2.2.1) h1.1 fw.2.1 (by omega) (by omega)).mono fun r2 h2=>?_
 rw [h1.sv,fw.2.sv] at h2
 have b2:=(byn.mul bzn).mul bwd
 have l2:=b2.len h2
 rw [ret_bind]
 refine (mulR_bg (s:=y.2.2.1) (t:=z.2.2.1) fy.2.1 fz.2.1 (by omega) (by omega)).mono fun r3 h3=>?_
 rw [fy.2.sv,fz.2.sv] at h3
 have l3:=(byd.mul bzd).len h3
 rw [ret_bind]
 refine (mulR_bg (s:=r3.1) (t:=w.1) h3.1 fw.1.1 (by omega) (by omega)).mono fun r4 h4=>?_
 rw [h3.sv,fw.1.sv] at h4
 have b4:=(byd.mul bzd).mul bwn
 have l4:=b4.len h4
 rw [ret_bind]
 refine (frac_ok (s:=r2.1) (t:=r4.1) h2.1 h4.1 h2.sv h4.sv (by omega) (by omega) hden h4).mono fun p hp=>?_
 obtain ⟨p1,p2⟩:=nrm_ok (a:=yn*zn*wd) hden
 obtain ⟨bp1,bp2⟩:=nrm_le (a:=yn*zn*wd) hden b2 b4
 generalize nrm (yn*zn*wd) (yd*zd*wn)=P at*
 have lp1:=bp1.len hp.1
 have lp2:=bp2.len hp.2
 have hpd:=p1.1
 have hden2:xd*P.2≠0:=Int.mul_ne_zero (by omega) (by omega)
 rw [ret_bind]
 refine (mulR_bg (s:=x.1) (t:=p.2.2.1) fx.1.1 hp.2.1 (by omega) (by omega)).mono fun r5 h5=>?_
 rw [fx.1.sv,hp.2.sv] at h5
 have b5:=bxn.mul bp2
 have l5:=b5.len h5
 rw [ret_bind]
 refine (mulR_bg (s:=p.1) (t:=x.2.2.1) hp.1.1 fx.2.1 (by omega) (by omega)).mono fun r6 h6=>?_
 rw [hp.1.sv,fx.2.sv] at h6
 have b6:=bp1.mul bxd
 have l6:=b6.len h6
 rw [ret_bind]
 refine (subR_bg (s:=r5.1) (t:=r6.1) h5.1 h6.1 (by omega) (by omega)).mono fun r7 h7=>?_
 rw [h5.sv,h6.sv] at h7
 have b7:=(b5.mono (show L+(K+K+K)≤L+3*K by omega)).sub (b6.mono (show (K+K+K)+L≤L+3*K by omega))
 have l7:=b7.len h7
 rw [ret_bind]
 refine (mulR_bg (s:=x.2.2.1) (t:=p.2.2.1) fx.2.1 hp.2.1 (by omega) (by omega)).mono fun r8 h8=>?_
 rw [fx.2.sv,hp.2.sv] at h8
 have b8:=bxd.mul bp2
 have l8:=b8.len h8
 rw [ret_bind]
 refine (frac_ok (s:=r7.1) (t:=r8.1) h7.1 h8.1 h7.sv h8.sv (by omega) (by omega) hden2 h8).mono fun q hq=>?_
 obtain ⟨q1,q2⟩:=nrm_ok (a:=xn*P.2 - P.1*xd) hden2
 exact ⟨_,rfl,_,_,hq,q1,hV⟩
def Lf (l:List Fb) (w:Nat) (f:Nat→Int) (D:Int):Prop:=l.length=w∧∀ c,c < w→∃ z,l[c]?=some z∧Fq z (f c) D
def Tf (F:List (List Fb)) (n w:Nat) (V:Mx) (D:Nat→Int):Prop:=F.length=n∧∀ r,r < n→∃ l,F[r]?=some l∧Lf l w (V r) (D r)
theorem Lf.at {l:List Fb} {w:Nat} {f:Nat→Int} {D:Int} (h:Lf l w f D) {c:Nat} (hc:c < w) {i:Int} (hi:i=(c:Int)):∃ z,getI l i=some z∧Fq z (f c) D:=by
 obtain ⟨z,h1,h2⟩:=h.2 c hc
 exact ⟨z,at_some h1 hi,h2⟩
theorem Tf.at {F:List (List Fb)} {n w:Nat} {V:Mx} {D:Nat→Int} (h:Tf F n w V D) {r:Nat} (hr:r < n) {i:Int} (hi:i=(r:Int)):∃ l,getI F i=some l∧Lf l w (V r) (D r):=by
 obtain ⟨l,h1,h2⟩:=h.2 r hr
 exact ⟨l,at_some h1 hi,h2⟩
theorem Lf.congr {l:List Fb} {w:Nat} {f g:Nat→Int} {D E:Int} (h:Lf l w f D) (e:∀ c,c < w→f c=g c) (e2:D=E):Lf l w g E:=⟨h.1,fun c hc=>by
 obtain ⟨z,h1,h2⟩:=h.2 c hc
 exact ⟨z,h1,by rw [← e c hc,← e2]; exact h2⟩⟩
theorem Tf.congr {F:List (List Fb)} {n w:Nat} {V V':Mx} {D D':Nat→Int} (h:Tf F n w V D) (e:∀ r c,r < n→c < w→V r c=V' r c) (e2:∀ r,r < n→D r=D' r):Tf F n w V' D':=⟨h.1,fun r hr=>by
 obtain ⟨l,h1,h2⟩:=h.2 r hr
 exact ⟨l,h1,h2.congr (fun c hc=>e r c hr hc) (e2 r hr)⟩⟩
theorem Lf.snoc {l:List Fb} {k:Nat} {f:Nat→Int} {D:Int} (h:Lf l k f D) {z:Fb} (hz:Fq z (f k) D):Lf (l++[z]) (k+1) f D:=by
 refine ⟨by rw [List.length_append,h.1]; rfl,fun c hc=>?_⟩
 by_cases e:c < k
 ·obtain ⟨y,h1,h2⟩:=h.2 c e
  exact ⟨y,by rw [List.getElem?_append_left (by rw [h.1]; exact e)]; exact h1,h2⟩
 ·obtain rfl:c=k:=by omega
  exact ⟨z,by rw [List.getElem?_append_right (by rw [h.1]; omega),h.1,Nat.sub_self]; rfl,hz⟩
theorem Tf.snoc {F:List (List Fb)} {k w:Nat} {V:Mx} {D:Nat→Int} (h:Tf F k w V D) {l:List Fb} (hl:Lf l w (V k) (D k)):Tf (F++[l]) (k+1) w V D:=by
 refine ⟨by rw [List.length_append,h.1]; rfl,fun c hc=>?_⟩
 by_cases e:c < k
 ·obtain ⟨y,h1,h2⟩:=h.2 c e
  exact ⟨y,by rw [List.getElem?_append_left (by rw [h.1]; exact e)]; exact h1,h2⟩
 ·obtain rfl:c=k:=by omega
  exact ⟨l,by rw [List.getElem?_append_right (by rw [h.1]; omega),h.1,Nat.sub_self]; rfl,hl⟩
theorem lo_one (v:Int):Lo v 1:=⟨by omega,by rw [Int.gcd_one]⟩
theorem fracs_ok {K n w:Nat} {A:Mx} {T:List (List Nb)} (hT:Tr K T n w A) (hK:K≤400) (hn:n≤1000) (hw:w≤1000):Ret (m_h2 T) (fun F=>Tf F n w A (fun _=>1)):=by
 unfold m_h2
 rw [ret_bind]
 refine (ret_loop (Post:=fun F:List (List Fb)=>Tf F n w A (fun _=>1)) n (fun r (s:List (List Fb)×Int)=>s.2=(r:Int)∧Tf s.1 r w A (fun _=>1)) ⟨rfl,rfl,fun c hc=>absurd hc (by omega)⟩ ?_ (by omega)).mono fun r hr=>⟨_,rfl,hr⟩
 rintro r ⟨F,_⟩ hr ⟨rfl,hI⟩
 simp only at hI
 unfold m_h1
 simp only
 rw [hT.1,ret_if]
 refine ⟨fun hlt=>?_,fun hge=>⟨_,rfl,by have e:r=n:=(by omega); subst e; exact hI⟩⟩
 have hrn:r < n:=by omega
 obtain ⟨row,h1,h2⟩:=hT.at hrn (i:=(r:Int)) rfl
 rw [ret_bind]
 refine (ret_loop (Post:=fun l:List Fb=>Lf l w (A r) 1) w (fun c (s:List Fb×Int)=>s.2=(c:Int)∧Lf s.1 c (A r) 1) ⟨rfl,rfl,fun c hc=>absurd hc (by omega)⟩ ?_ (by omega)).mono fun l hl=>?_
 ·rintro c ⟨l,_⟩ hc ⟨rfl,hJ⟩
  simp only at hJ
  unfold m_h0
  simp only
  rw [h1,obs,h2.1,ret_if]
  refine ⟨fun hlt2=>?_,fun hge=>⟨_,rfl,by have e:c=w:=(by omega); subst e; exact hJ⟩⟩
  have hcw:c < w:=by omega
  obtain ⟨z,h3,h4⟩:=h2.at hcw (i:=(c:Int)) rfl
  rw [obs,h3,obs,ret_bind]
  refine (normR_bg (s:=z.1) h4.1 (by have:=h4.2.1; omega)).mono fun y hy=>?_
  obtain ⟨hy,_⟩:=hy
  rw [h4.2.2] at hy
  rw [ret_bind]
  refine (fromR_bg (n:=1) (by omega) (by omega)).mono fun one hone=>?_
  rw [ret_bind,ret_app]
  exact ⟨by rw [hJ.1]; simp only [List.length_cons,List.length_nil]; omega,_,rfl,hcw,by show wa .i64 (c:Int) 1=_; rw [wa_i (by omega) (by omega)]; rfl,hJ.snoc (z:=(y.1,y.2,one.1,one.2)) ⟨A r c,1,⟨hy,hone⟩,lo_one _,by unfold Vq; rfl⟩⟩
 ·rw [ret_bind,ret_app]
  exact ⟨by rw [hI.1]; simp only [List.length_cons,List.length_nil]; omega,_,rfl,hrn,by show wa .i64 (r:Int) 1=_; rw [wa_i (by omega) (by omega)]; rfl,hI.snoc hl⟩
end Km
namespace Km
open Sx Go M Vc Lm Dt
theorem if_cg {α:Type} {p q:Prop} [Decidable p] [Decidable q] {x y:α} (h:p↔q):(if p then x else y)=if q then x else y:=by
 by_cases hp:p
 ·rw [if_pos hp,if_pos (h.1 hp)]
 ·rw [if_neg hp,if_neg (fun e=>hp (h.2 e))]
def VT (A':Mx) (col:Nat→Nat) (k:Nat):Mx:=fun r j=>if r < k then Rk A' col r r j else Rk A' col k r j
def DT (A':Mx) (col:Nat→Nat) (k:Nat):Nat→Int:=fun r=>if r < k then det r (Pm_ A' col) else det k (Pm_ A' col)
def EJ (n w:Nat) (A:Mx) (c:Nat) (F:List (List Fb)) (pv:List Int) (ds:Bool) (dl:List Int) (es:Bool) (el:List Int):Prop:=
 ∃ A' col k sn,Bar n w A A' col k c sn∧Tf F n w (VT A' col k) (DT A' col k)∧pv=(List.range k).map (fun s=>(col s:Int))∧Bg (sn*det k (Pm_ A' col)) ds dl∧Bg 1 es el∧∀ s,s≤k→det s (Pm_ A' col)≠0
theorem Tf.set {F:List (List Fb)} {n w:Nat} {V:Mx} {D:Nat→Int} (h:Tf F n w V D) {k:Nat} (hk:k < n) {l:List Fb} {g:Nat→Int} {E:Int} (hl:Lf l w g E):Tf (F.set k l) n w (up V k g) (fun r=>if r=k then E else D r):=by
 refine ⟨by rw [List.length_set]; exact h.1,fun r hr=>?_⟩
 by_cases e:r=k
 ·subst e
  exact ⟨l,by rw [List.getElem?_set_self]; rw [h.1]; exact hk,hl.congr (fun c _=>up_in.symm) (if_pos rfl).symm⟩
 ·obtain ⟨m,h1,h2⟩:=h.2 r hr
  exact ⟨m,by rw [List.getElem?_set_ne (fun h=>e h.symm)]; exact h1,h2.congr (fun c _=>(up_out e).symm) (if_neg e).symm⟩
section
variable {n w:Nat} {A A':Mx} {col:Nat→Nat} {k c a:Nat} {sn M:Int}
def Mid (n w k c i X:Nat) (V V1 R':Mx) (D:Nat→Int) (D' dk:Int) (F:List (List Fb)):Prop:=
 F.length=n∧(∀ r,r < n→r≠i→∃ l,F[r]?=some l∧Lf l w (V r) (D r))∧∃ l,F[i]?=some l∧l.length=w∧∀ x,x < w→∃ z,l[x]?=some z∧Fq z (if c≤x∧x < X then R' i x else V1 i x) (if c≤x∧x < X then D' else dk)
theorem rrow_ok (hM:M < pw 60) {pv:List Int} (hpl:pv.length=k) {i:Nat} (hin:i < n) (hik:k < i) (hcw:c < w) (hw:w≤1000) (hn:n≤1000) {V V1 R':Mx} {D:Nat→Int} {dk D':Int} (hdk:dk≠0) (hD':D'≠0)
  (bV:∀ r j,r < n→k≤r→j < w→Bd M (V1 r j)) (bd:Bd M dk) (hVk:∀ j,V k j=V1 k j) (hDk:D k=dk) (hpiv:V1 k c=D')
  (hstep:∀ x,V1 i x*V1 k c - V1 i c*V1 k x=dk*R' i x) {f:Fb} (hf:Fq f (V1 i c) dk) {F:List (List Fb)} (hF:Mid n w k c i c V V1 R' D D' dk F):
  Ret (loop (m_ir (w:Int) (i:Int) pv (c:Int) f) (F,(c:Int))) (fun G=>Mid n w k c i w V V1 R' D D' dk G):=by
 refine ret_loop (Post:=fun G:List (List Fb)=>Mid n w k c i w V V1 R' D D' dk G) (w - c) (fun t (s:List (List Fb)×Int)=>s.2=((c+t:Nat):Int)∧c+t≤w∧Mid n w k c i (c+t) V V1 R' D D' dk s.1) ⟨rfl,by omega,hF⟩ ?_ (by omega)
 rintro t ⟨F,_⟩ ht ⟨rfl,htw,hI⟩
 simp only at hI
 unfold m_ir
 simp only
 rw [ret_if]
 refine ⟨fun hlt=>?_,fun hge=>⟨_,rfl,by have e:c+t=w:=(by omega); rw [e] at hI; exact hI⟩⟩
 have hxw:c+t < w:=by omega
 obtain ⟨hl,hrows,li,h1,h2,h3⟩:=hI
 obtain ⟨lk,k1,k2⟩:=hrows k (by omega) (by omega)
 obtain ⟨zi,h4,h5⟩:=h3 (c+t) hxw
 rw [if_neg (by omega),if_neg (by omega)] at h5
 obtain ⟨zx,k3,k4⟩:=k2.2 (c+t) hxw
 obtain ⟨zc,k5,k6⟩:=k2.2 c hcw
 rw [hVk,hDk] at k4 k6
 have gi:=at_some h1 (i:=(i:Int)) rfl
 have gk:=at_some k1 (i:=(k:Int)) rfl
 have hpl':(pv.length:Int)=(k:Int):=by rw [hpl]
 rw [hpl',gi,obs,obs,at_some h4 rfl,obs,gk,obs,at_some k3 rfl,obs,obs,at_some k5 rfl,obs,ret_bind]
 have b0:Bk 60 dk:=Bk.of bd hM
 have bi:∀ j,j < w→Bk 60 (V1 i j):=fun j hj=>Bk.of (bV i j hin (by omega) hj) hM
 have bk:∀ j,j < w→Bk 60 (V1 k j):=fun j hj=>Bk.of (bV k j (by omega) (Nat.le_refl k) hj) hM
 refine (fminus_ok (K:=60) (L:=60) (x:=zi) (y:=f) (z:=zx) (w:=zc) hdk (by rw [hpiv]; exact hD') h5 hf k4 k6 (h5.len hdk (bi _ hxw) b0) (hf.len hdk (bi _ hcw) b0) (k4.len hdk (bk _ hxw) b0) (k6.len hdk (bk _ hcw) b0) (by omega)).mono fun r hr=>?_
 rw [hstep,hpiv] at hr
 have hr:=hr.cancel hdk
 rw [set_some (by rw [h2]; exact hxw) rfl,obs,set_some (by rw [hl]; exact hin) rfl,obs]
 refine ⟨_,rfl,by omega,by show wa .i64 ((c+t:Nat):Int) 1=_; rw [wa_i (by omega) (by omega)]; rfl,by omega,by rw [List.length_set]; exact hl,fun r hr hri=>?_,_,by rw [List.getElem?_set_self]; rw [hl]; exact hin,by rw [List.length_set]; exact h2,fun x hx=>?_⟩
 ·obtain ⟨m,g1,g2⟩:=hrows r hr hri
  exact ⟨m,by rw [List.getElem?_set_ne (fun h=>hri h.symm)]; exact g1,g2⟩
 ·by_cases e:x=c+t
  ·subst e
   exact ⟨_,by rw [List.getElem?_set_self]; rw [h2]; exact hx,by rw [if_pos (by omega),if_pos (by omega)]; exact hr⟩
  ·obtain ⟨z,g1,g2⟩:=h3 x hx
   refine ⟨z,by rw [List.getElem?_set_ne (fun h=>e h.symm)]; exact g1,?_⟩
   by_cases e2:c≤x∧x < c+t
   ·rw [if_pos e2,if_pos e2] at g2
    rw [if_pos (by omega),if_pos (by omega)]; exact g2
   ·rw [if_neg e2,if_neg e2] at g2
    rw [if_neg (by omega),if_neg (by omega)]; exact g2
theorem rpiv_ok (hM:M < pw 60) (hR:Okb n w A M) (h:Bar n w A A' col k c sn) (hw:w≤900) (hn:n≤900) (hc:c < w) (hka:k≤a) (han:a < n) (hne:Rk A' col k a c≠0) (hnz:∀ s,s≤k→det s (Pm_ A' col)≠0)
  {F:List (List Fb)} (hF:Tf F n w (fun r j=>if r < k then Rk A' col r r j else Rk (sw A' k a) col k r j) (DT A' col k)) {pv:List Int} (hpv:pv=(List.range k).map (fun s=>(col s:Int))) {ds es:Bool} {dl el:List Int} (hd:Bg ((if a=k then sn else -sn)*det k (Pm_ A' col)) ds dl) (he:Bg 1 es el):
  Ret (m_it pv (c:Int) es el (w:Int) F ds dl) (fun o=>∃ F' pv' ds' dl' es' el',o=.inl (F',ds',dl',es',el',pv',((c+1:Nat):Int))∧EJ n w A (c+1) F' pv' ds' dl' es' el'):=by
 obtain ⟨hB',hdet,htop,hstep⟩:=h.pivot hc hka han hne
 have hpl:pv.length=k:=by rw [hpv,List.length_map,List.length_range]
 have hkn:k < n:=by omega
 have hrows:=bar_rows h
 have hrows':=sw_rows hrows hkn han
 have hlt:∀ s,s < k→col s < w:=fun s hs=>by have:=h.lt s hs; have:=h.cw; omega
 have hlt':∀ s,s < k+1→setC col k c s < w:=fun s hs=>by have:=hB'.lt s hs; have:=hB'.cw; omega
 have bR:∀ i j,i < n→j < w→Bd M (Rk (sw A' k a) col k i j):=fun i j hi hj=>(hR _ _ _ _ _ hrows' h.kn hlt hi hj).1
 have bd:Bd M (det k (Pm_ A' col)):=(hR _ col k 0 c hrows h.kn hlt (by omega) hc).2
 have hk:∀ j,Rk (sw A' k a) col k k j=Rk A' col k a j:=fun j=>by rw [Rk_sw hka,if_pos rfl]
 have hdk:=h.d
 generalize hS:sw A' k a=S at*
 generalize hC:setC col k c=C at*
 generalize hsn:(if a=k then sn else -sn)=sn' at*
 have hsn1:sn'=1∨sn'= -1:=hB'.sg.1
 let V1:Mx:=fun r j=>if r < k then Rk A' col r r j else Rk S col k r j
 let R':Mx:=Rk S C (k+1)
 have hV1:∀ r j,k≤r→V1 r j=Rk S col k r j:=fun r j hr=>if_neg (by omega)
 have hzero:∀ r j,k < r→r < n→j < c→Rk S col k r j=0:=by
  intro r j hkr hr hj
  rw [← hS,Rk_sw hka,if_neg (by omega)]
  split
  ·exact h.zero k j (Nat.le_refl k) hkn hj
  ·exact h.zero r j (by omega) hr hj
 unfold m_it
 have hpl':(pv.length:Int)=(k:Int):=by rw [hpl]
 obtain ⟨lk,g1,g2⟩:=hF.2 k hkn
 obtain ⟨z,g3,g4⟩:=g2.2 c hc
 have gk:=at_some g1 (i:=(k:Int)) rfl
 have gc:=at_some g3 (i:=(c:Int)) rfl
 rw [hpl',gk,obs,gc,obs,ret_bind]
 have hDk:DT A' col k k=det k (Pm_ A' col):=if_neg (Nat.lt_irrefl k)
 have g4:Fq z (Rk A' col k a c) (det k (Pm_ A' col)):=by
  have h1:V1 k c=Rk A' col k a c:=by rw [hV1 k c (Nat.le_refl k),hk]
  have h2:Fq z (V1 k c) (DT A' col k k):=g4
  rw [h1,hDk] at h2; exact h2
 have b0:Bk 60 (det k (Pm_ A' col)):=Bk.of bd hM
 have b1:Bk 60 (Rk A' col k a c):=Bk.of (by rw [← hk]; exact bR k c hkn hc) hM
 have lz:=g4.len hdk b1 b0
 obtain ⟨nn,dd,f1,f2,f3⟩:=g4
 have bs:Bk 60 (sn'*det k (Pm_ A' col)):=by
  rcases hsn1 with e | e
  ·rw [e,Int.one_mul]; exact b0
  ·rw [e]; exact ⟨by have:=b0.2; omega,by have:=b0.1; omega⟩
 have ld:=bs.len hd
 have le':=he.lenB (M:=1) (m:=1) ⟨by omega,by omega⟩ (by decide)
 refine (mulR_bg (s:=ds) (t:=z.1) hd.1 f1.1.1 (by omega) (by omega)).mono fun r1 h1=>?_
 rw [hd.sv,f1.1.sv] at h1
 have bz1:=bk_sv (s:=z.1) f1.1.1 lz.1
 have bz2:=bk_sv (s:=z.2.2.1) f1.2.1 lz.2
 rw [f1.1.sv] at bz1
 rw [f1.2.sv] at bz2
 have l1:=(bs.mul bz1).len h1
 rw [obs,gc,obs,ret_bind]
 refine (mulR_bg (s:=es) (t:=z.2.2.1) he.1 f1.2.1 (by omega) (by omega)).mono fun r2 h2=>?_
 rw [he.sv,f1.2.sv,Int.one_mul] at h2
 have l2:=bz2.len h2
 have hdd:=f2.1
 rw [ret_bind]
 refine (frac_ok (s:=r1.1) (t:=r2.1) h1.1 h2.1 h1.sv h2.sv (by omega) (by omega) (by omega) h2).mono fun q hq=>?_
 have hnrm:nrm (sn'*det k (Pm_ A' col)*nn) dd=(sn'*Rk A' col k a c,1):=nrm_of (by omega) (lo_one _) (by
  unfold Vq at f3
  have e:sn'*det k (Pm_ A' col)*nn=sn'*(nn*det k (Pm_ A' col)):=by grind
  rw [e,f3]; grind)
 rw [hnrm] at hq
 obtain ⟨hq1,hq2⟩:=hq
 simp only at hq1 hq2
 rw [ret_bind]
 have hD':det (k+1) (Pm_ S C)≠0:=hB'.d
 refine (ret_loop (Post:=fun G:List (List Fb)=>Tf G n w (fun r j=>if k < r then R' r j else V1 r j) (fun r=>if k < r then det (k+1) (Pm_ S C) else DT A' col k r)) (n - (k+1)) (fun t (s:List (List Fb)×Int)=>s.2=((k+1+t:Nat):Int)∧k+1+t≤n∧Tf s.1 n w (fun r j=>if k < r∧r < k+1+t then R' r j else V1 r j) (fun r=>if k < r∧r < k+1+t then det (k+1) (Pm_ S C) else DT A' col k r)) ⟨by show wa .i64 (k:Int) 1=_; rw [wa_i (by omega) (by omega)]; rfl,by omega,hF.congr (fun r j _ _=>(if_neg (show ¬ (k < r∧r < k+1+0) by omega)).symm) fun r _=>(if_neg (show ¬ (k < r∧r < k+1+0) by omega)).symm⟩ ?_ (by omega)).mono ?_
 ·rintro t ⟨G,_⟩ ht ⟨rfl,htn,hI⟩
  simp only at hI
  unfold m_is
  simp only
  rw [hI.1,ret_if]
  refine ⟨fun hlt2=>?_,fun hge=>⟨_,rfl,hI.congr (fun r j hr _=>?_) fun r hr=>?_⟩⟩
  ·have hin:k+1+t < n:=by omega
   obtain ⟨li,e1,e2⟩:=hI.2 (k+1+t) hin
   have hDi:DT A' col k (k+1+t)=det k (Pm_ A' col):=if_neg (by omega)
   have e2:Lf li w (V1 (k+1+t)) (det k (Pm_ A' col)):=e2.congr (fun x _=>if_neg (show ¬ (k < k+1+t∧k+1+t < k+1+t) by omega)) ((if_neg (show ¬ (k < k+1+t∧k+1+t < k+1+t) by omega)).trans hDi)
   obtain ⟨f,e3,e4⟩:=e2.2 c hc
   rw [at_some e1 rfl,obs,at_some e3 rfl,obs,ret_bind]
   have hMid:Mid n w k c (k+1+t) c (fun r j=>if k < r∧r < k+1+t then R' r j else V1 r j) V1 R' (fun r=>if k < r∧r < k+1+t then det (k+1) (Pm_ S C) else DT A' col k r) (det (k+1) (Pm_ S C)) (det k (Pm_ A' col)) G:=by
    refine ⟨hI.1,fun r hr _=>hI.2 r hr,li,e1,e2.1,fun x hx=>?_⟩
    obtain ⟨y,y1,y2⟩:=e2.2 x hx
    refine ⟨y,y1,?_⟩
    rw [if_neg (show ¬ (c≤x∧x < c) by omega),if_neg (show ¬ (c≤x∧x < c) by omega)]
    exact y2
   refine (rrow_ok (V:=fun r j=>if k < r∧r < k+1+t then R' r j else V1 r j) (V1:=V1) (R':=R') hM hpl hin (by omega) hc (by omega) (by omega) hdk hD' (fun r j hr hkr hj=>by rw [hV1 r j hkr]; exact bR r j hr hj) bd (fun j=>if_neg (show ¬ (k < k∧k < k+1+t) by omega)) ((if_neg (show ¬ (k < k∧k < k+1+t) by omega)).trans hDk) (by rw [hV1 k c (Nat.le_refl k),hk,hdet]) (fun x=>?_) e4 hMid).mono fun G' hG'=>?_
   ·rw [hV1 _ _ (show k≤k+1+t by omega),hV1 _ _ (show k≤k+1+t by omega),hV1 k c (Nat.le_refl k),hV1 k x (Nat.le_refl k),hk,hk,Int.mul_comm (Rk S col k (k+1+t) x)]
    exact hstep (k+1+t) x (by omega)
   ·obtain ⟨m1,m2,l',m3,m4,m5⟩:=hG'
    refine ⟨_,rfl,by omega,by show wa .i64 ((k+1+t:Nat):Int) 1=_; rw [wa_i (by omega) (by omega)]; rfl,by omega,m1,fun r hr=>?_⟩
    by_cases e:r=k+1+t
    ·subst e
     refine ⟨l',m3,m4,fun x hx=>?_⟩
     obtain ⟨y,y1,y2⟩:=m5 x hx
     refine ⟨y,y1,?_⟩
     have fin:Fq y (R' (k+1+t) x) (det (k+1) (Pm_ S C))→Fq y ((fun r j=>if k < r∧r < k+1+(t+1) then R' r j else V1 r j) (k+1+t) x) ((fun r=>if k < r∧r < k+1+(t+1) then det (k+1) (Pm_ S C) else DT A' col k r) (k+1+t)):=fun h=>by
      have i1:k < k+1+t∧k+1+t < k+1+(t+1):=by omega
      show Fq y (if k < k+1+t∧k+1+t < k+1+(t+1) then R' (k+1+t) x else V1 (k+1+t) x) (if k < k+1+t∧k+1+t < k+1+(t+1) then det (k+1) (Pm_ S C) else DT A' col k (k+1+t))
      rw [if_pos i1,if_pos i1]; exact h
     refine fin ?_
     by_cases hxc:c≤x
     ·rw [if_pos ⟨hxc,hx⟩,if_pos ⟨hxc,hx⟩] at y2; exact y2
     ·rw [if_neg (by omega),if_neg (by omega),hV1 _ _ (show k≤k+1+t by omega),hzero _ _ (by omega) hin (by omega)] at y2
      have:R' (k+1+t) x=0:=hB'.zero (k+1+t) x (by omega) hin (by omega)
      rw [this]
      exact y2.zero hdk
    ·obtain ⟨l2,n1,n2⟩:=m2 r hr e
     have hi:(k < r∧r < k+1+t)↔(k < r∧r < k+1+(t+1)):=by omega
     exact ⟨l2,n1,n2.congr (fun x _=>if_cg hi) (if_cg hi)⟩
  ·exact if_cg (show (k < r∧r < k+1+t)↔k < r by omega)
  ·exact if_cg (show (k < r∧r < k+1+t)↔k < r by omega)
 ·intro G hG
  rw [ret_bind,ret_app]
  refine ⟨by rw [hpl]; simp only [List.length_cons,List.length_nil]; omega,?_⟩
  unfold m_iq
  have hr1:wa .i64 (c:Int) 1=((c+1:Nat):Int):=by rw [wa_i (by omega) (by omega)]; rfl
  rw [hr1]
  have hRl:∀ r j,r < k→Rk S C r r j=Rk A' col r r j:=fun r j hr=>Rk_congr (fun s hs=>by rw [← hC,setC_lt (by omega)]) (fun t j ht=>by rw [← hS]; unfold sw; rw [if_neg (by omega),if_neg (by omega)]) (fun j=>by rw [← hS]; unfold sw; rw [if_neg (by omega),if_neg (by omega)])
  have hRk:∀ j,Rk S C k k j=Rk S col k k j:=fun j=>by rw [← hC]; exact Rk_setC
  have hDl:∀ r,r≤k→det r (Pm_ S C)=det r (Pm_ A' col):=fun r hr=>det_congr fun i j hi hj=>by
   unfold Pm_
   rw [← hC,setC_lt (by omega),← hS]
   unfold sw; rw [if_neg (by omega),if_neg (by omega)]
  refine ⟨_,rfl,_,_,_,_,_,_,rfl,S,C,k+1,sn',hB',hG.congr (fun r j hr _=>?_) (fun r hr=>?_),?_,?_,hq2,fun s hs=>?_⟩
  ·unfold VT
   by_cases e:k < r
   ·rw [if_pos e,if_neg (by omega)]
   ·rw [if_neg e,if_pos (by omega)]
    by_cases e2:r < k
    ·show (if r < k then Rk A' col r r j else Rk S col k r j)=_
     rw [if_pos e2,hRl r j e2]
    ·obtain rfl:r=k:=by omega
     rw [hV1 r j (Nat.le_refl r),hRk]
  ·unfold DT
   by_cases e:k < r
   ·rw [if_pos e,if_neg (by omega)]
   ·rw [if_neg e,if_pos (show r < k+1 by omega),hDl r (by omega)]
    by_cases e2:r < k
    ·rw [if_pos e2]
    ·rw [if_neg e2]
     obtain rfl:r=k:=by omega
     rfl
  ·rw [hpv,List.range_succ,List.map_append]
   congr 1
   ·refine List.map_congr_left fun s hs=>?_
    rw [← hC,setC_lt (List.mem_range.1 hs)]
   ·show [(c:Int)]=[((C k:Nat):Int)]
    rw [← hC,setC_at]
  ·rw [hdet]; exact hq1
  ·by_cases e:s=k+1
   ·subst e; exact hD'
   ·rw [hDl s (by omega)]; exact hnz s (by omega)
theorem echelon08_ok (hM:M < pw 60) (hR:Okb n w A M) (hw:w≤900) (hn:n≤900) {F:List (List Fb)} (hF:Tf F n w A (fun _=>1)):
  Ret (m_iw F (w:Int)) (fun r=>EJ n w A w r.1 r.2.1 r.2.2.1 r.2.2.2.1 r.2.2.2.2.1 r.2.2.2.2.2):=by
 unfold m_iw
 rw [ret_bind]
 refine (fromR_bg (n:=1) (by omega) (by omega)).mono fun o1 ho1=>?_
 rw [ret_bind]
 refine (fromR_bg (n:=1) (by omega) (by omega)).mono fun o2 ho2=>?_
 rw [ret_bind]
 refine (ret_loop (Post:=fun r:List (List Fb)×Bool×List Int×Bool×List Int×List Int=>EJ n w A w r.1 r.2.2.2.2.2 r.2.1 r.2.2.1 r.2.2.2.1 r.2.2.2.2.1) w (fun c (s:List (List Fb)×Bool×List Int×Bool×List Int×List Int×Int)=>s.2.2.2.2.2.2=(c:Int)∧c≤w∧EJ n w A c s.1 s.2.2.2.2.2.1 s.2.1 s.2.2.1 s.2.2.2.1 s.2.2.2.2.1) ⟨rfl,by omega,A,id,0,1,Bar.start,hF.congr (fun r j _ _=>by unfold VT; rw [if_neg (by omega),Rk_zero]) (fun r _=>by unfold DT; rw [if_neg (by omega)]; rfl),rfl,ho1.cast (show (1:Int)=1*det 0 (Pm_ A id) from rfl),ho2,fun s hs=>by
  obtain rfl:s=0:=by omega
  show (1:Int)≠0; omega⟩ ?_ (by omega)).mono fun r hr=>⟨_,rfl,hr⟩
 rintro c ⟨F,ds,dl,es,el,pv,_⟩ hc ⟨rfl,hcc,A',col,k,sn,hB,hT,hpv,hd,he,hnz⟩
 simp only at hT hpv hd he
 unfold m_iv
 simp only
 rw [ret_if]
 refine ⟨fun hlt=>?_,fun hge=>⟨_,rfl,by have e:c=w:=(by omega); subst e; exact ⟨A',col,k,sn,hB,hT,hpv,hd,he,hnz⟩⟩⟩
 have hcw:c < w:=by omega
 have hpl:pv.length=k:=by rw [hpv,List.length_map,List.length_range]
 have hkn:=hB.kn
 have hrows:=bar_rows hB
 have hlt':∀ s,s < k→col s < w:=fun s hs=>by have:=hB.lt s hs; have:=hB.cw; omega
 have hwa:wa .i64 (c:Int) 1=((c+1:Nat):Int):=by rw [wa_i (by omega) (by omega)]; rfl
 have hVge:∀ r j,k≤r→VT A' col k r j=Rk A' col k r j:=fun r j hr=>if_neg (by omega)
 have hDge:∀ r,k≤r→DT A' col k r=det k (Pm_ A' col):=fun r hr=>if_neg (by omega)
 rw [ret_bind]
 refine (ret_loop (Post:=fun o:Int=>∃ i:Nat,o=(i:Int)∧k≤i∧i≤n∧(∀ j,k≤j→j < i→Rk A' col k j c=0)∧(i < n→Rk A' col k i c≠0)) (n - k) (fun t (s:Int)=>s=((k+t:Nat):Int)∧k+t≤n∧∀ j,k≤j→j < k+t→Rk A' col k j c=0) ⟨by rw [hpl]; rfl,by omega,fun j h1 h2=>absurd h2 (by omega)⟩ ?_ (by omega)).mono ?_
 ·rintro t _ ht ⟨rfl,htn,hz⟩
  unfold m_iu
  rw [hT.1]
  by_cases hl2:k+t < n
  ·obtain ⟨row,h1,h2⟩:=hT.2 (k+t) hl2
   obtain ⟨x,h3,h4⟩:=h2.2 c hcw
   rw [hVge _ _ (by omega),hDge _ (by omega)] at h4
   have bx:=hR _ _ _ _ _ hrows hkn hlt' hl2 hcw
   have lx:=h4.len hB.d (Bk.of bx.1 hM) (Bk.of bx.2 hM)
   obtain ⟨nn,dd,f1,f2,f3,f4⟩:=h4.num hB.d
   rw [if_pos (by omega),at_some h1 rfl,obs,at_some h3 rfl,obs]
   unfold m_h4
   rw [signR_bg f1.1 (by omega),obs,obs,obs,ret_if]
   refine ⟨fun h0=>⟨_,rfl,by omega,by rw [wa_i (by omega) (by omega)]; rfl,by omega,fun j hj1 hj2=>?_⟩,fun h0=>⟨_,rfl,k+t,rfl,by omega,by omega,hz,fun _ h=>?_⟩⟩
   ·by_cases e:j=k+t
    ·subst e
     refine f4.1 ?_
     have h0:(if nn < 0 then (-1:Int) else if 0 < nn then 1 else 0)=0:=by simpa using h0
     revert h0; split
     ·omega
     ·split
      ·omega
      ·intro _; omega
    ·exact hz j hj1 (by omega)
   ·have:nn=0:=f4.2 h
    subst this
    simp at h0
  ·rw [if_neg (by omega),obs,if_neg (by simp)]
   exact ⟨_,rfl,k+t,rfl,by omega,by omega,hz,fun h=>absurd h hl2⟩
 ·rintro _ ⟨i,rfl,hki,hin,hz,hne⟩
  rw [hT.1,ret_if]
  refine ⟨fun h0=>?_,fun h0=>?_⟩
  ·have:i=n:=by omega
   subst this
   unfold m_iq
   rw [hwa]
   exact ⟨_,rfl,hcw,rfl,by omega,A',col,k,sn,hB.none hcw fun j h1 h2=>hz j h1 h2,hT,hpv,hd,he,hnz⟩
  ·have hin2:i < n:=by omega
   rw [hpl,ret_if]
   have fin:∀ {m:Option _},Ret m (fun o=>∃ F' pv' ds' dl' es' el',o=.inl (F',ds',dl',es',el',pv',((c+1:Nat):Int))∧EJ n w A (c+1) F' pv' ds' dl' es' el')→Ret m (VQ (fun s:List (List Fb)×Bool×List Int×Bool×List Int×List Int×Int=>c < w∧s.2.2.2.2.2.2=((c+1:Nat):Int)∧c+1≤w∧EJ n w A (c+1) s.1 s.2.2.2.2.2.1 s.2.1 s.2.2.1 s.2.2.2.1 s.2.2.2.2.1) (fun r:List (List Fb)×Bool×List Int×Bool×List Int×List Int=>EJ n w A w r.1 r.2.2.2.2.2 r.2.1 r.2.2.1 r.2.2.2.1 r.2.2.2.2.1)):=fun h=>h.mono fun o ho=>by
    obtain ⟨F',pv',ds',dl',es',el',rfl,hE⟩:=ho
    exact ⟨hcw,rfl,by omega,hE⟩
   refine ⟨fun hik=>?_,fun hik=>?_⟩
   ·obtain rfl:i=k:=by omega
    refine fin (rpiv_ok (a:=i) hM hR hB hw hn hcw (Nat.le_refl i) hin2 (hne hin2) hnz (hT.congr (fun r j hr _=>?_) fun _ _=>rfl) hpv (by rw [if_pos rfl]; exact hd) he)
    unfold VT
    by_cases e:r < i
    ·rw [if_pos e,if_pos e]
    ·rw [if_neg e,if_neg e,Rk_sw (Nat.le_refl _)]
     by_cases e2:r=i
     ·subst e2; rw [if_pos rfl]
     ·rw [if_neg e2,if_neg e2]
   ·have hkn2:k < n:=by omega
    obtain ⟨la,h1,h2⟩:=hT.2 i hin2
    obtain ⟨lk,h3,h4⟩:=hT.2 k hkn2
    rw [at_some h3 rfl,obs,at_some h1 rfl,obs,set_some (by rw [hT.1]; exact hin2) rfl,obs,set_some (by rw [List.length_set,hT.1]; exact hkn2) rfl,obs,ret_bind]
    have bd:=hR _ _ _ 0 c hrows hkn hlt' (by omega) hcw
    have ld:dl.length≤60:=by
     have b0:Bk 60 (det k (Pm_ A' col)):=Bk.of bd.2 hM
     have:Bk 60 (sn*det k (Pm_ A' col)):=by
      rcases hB.sg.1 with e | e
      ·rw [e,Int.one_mul]; exact b0
      ·rw [e]; exact ⟨by have:=b0.2; omega,by have:=b0.1; omega⟩
     exact this.len hd
    refine (negR_bg (s:=ds) hd.1 (by omega)).mono fun r hr=>?_
    obtain ⟨hr,_⟩:=hr
    rw [hd.sv] at hr
    refine fin (rpiv_ok (a:=i) hM hR hB hw hn hcw hki hin2 (hne hin2) hnz ?_ hpv (hr.cast ?_) he)
    ·refine ((hT.set hin2 h4).set hkn2 h2).congr (fun r j hr _=>?_) fun r hr=>?_
     ·by_cases e1:r=k
      ·subst e1
       rw [up_in,if_neg (Nat.lt_irrefl r),Rk_sw hki,if_pos rfl,hVge _ _ hki]
      ·rw [up_out e1]
       by_cases e2:r=i
       ·subst e2
        rw [up_in,if_neg (by omega),Rk_sw hki,if_neg e1,if_pos rfl,hVge _ _ (Nat.le_refl k)]
       ·rw [up_out e2]
        unfold VT
        by_cases e3:r < k
        ·rw [if_pos e3,if_pos e3]
        ·rw [if_neg e3,if_neg e3,Rk_sw hki,if_neg e1,if_neg e2]
     ·by_cases e1:r=k
      ·subst e1; rw [if_pos rfl,hDge _ hki,hDge _ (Nat.le_refl r)]
      ·rw [if_neg e1]
       by_cases e2:r=i
       ·subst e2; rw [if_pos rfl,hDge _ (Nat.le_refl k),hDge _ hki]
       ·rw [if_neg e2]
    ·rw [if_neg (by omega)]; grind
end
end Km
namespace Km
open Sx Go M Vc Lm Dt
theorem getI_at {α:Type} {l:List α} {k:Nat} (h:k < l.length):getI l (k:Int)=some l[k]:=at_some (List.getElem?_eq_getElem h) rfl
theorem mL {n:Nat} (h:n≤maxLen):n < 9223372036854775808:=by
 have e:maxLen=9223372036854775807:=by decide
 omega
def cw (T:List (List Nb)):Nat:=match T with | []=>0 | l::_=>l.length
theorem xcontains_eq {T:List (List Nb)} (hT:T.length≤1000000):m_el T (cw T:Int)=some (!(T.all (fun l=>decide (l.length=cw T)))):=by
 refine Ret.eq ?_
 unfold m_el m_ek
 rw [ret_bind,ret_bind]
 refine (ret_loop (Post:=fun o:Unit⊕Int=>(T.all (fun l=>decide (l.length=cw T))=true∧o=.inl ())∨(T.all (fun l=>decide (l.length=cw T))=false∧∃ k:Nat,o=.inr (k:Int))) T.length (fun k (i:Int)=>i=(k:Int)∧k≤T.length∧∀ j (hj:j < T.length),j < k→T[j].length=cw T) ⟨rfl,by omega,fun j _ h=>by omega⟩ ?_ (by omega)).mono ?_
 ·rintro k _ hk ⟨rfl,hkl,hI⟩
  unfold m_ej
  rw [ret_if]
  refine ⟨fun hlt=>?_,fun hge=>⟨_,rfl,.inl ⟨List.all_eq_true.2 fun x hx=>?_,rfl⟩⟩⟩
  ·have hk':k < T.length:=by omega
   rw [getI_at hk',obs]
   unfold m_ei
   rw [obs,ret_if]
   refine ⟨fun hne=>⟨_,rfl,.inr ⟨?_,k,rfl⟩⟩,fun he=>⟨_,rfl,hk',by show wa .i64 (k:Int) 1=_; rw [wa_i (by omega) (by omega)]; rfl,by omega,fun j hj hjk=>?_⟩⟩
   ·rw [Bool.eq_false_iff]
    intro h
    have:=List.all_eq_true.1 h _ (List.getElem_mem hk')
    simp only [decide_eq_true_eq] at this
    rw [this] at hne
    simp at hne
   ·by_cases e:j=k
    ·subst e
     simp only [Bool.not_eq_true',decide_eq_false_iff_not,Classical.not_not] at he
     omega
    ·exact hI j hj (by omega)
  ·obtain ⟨j,hj,rfl⟩:=List.getElem_of_mem hx
   exact decide_eq_true (hI j hj (by omega))
 ·rintro _ (⟨h,rfl⟩ | ⟨h,k,rfl⟩)
  ·exact ⟨_,rfl,_,rfl,by rw [h]; rfl⟩
  ·refine ⟨_,rfl,_,rfl,?_⟩
   rw [h]
   show decide ((0:Int)≤(k:Int))=true
   exact decide_eq_true (by omega)
theorem Tr.bd {K n w:Nat} {T:List (List Nb)} {A:Mx} (h:Tr K T n w A):∀ i j,i < n→j < w→Bd (pw K) (A i j):=fun i j hi hj=>by
 obtain ⟨l,h1,h2⟩:=h.2 i hi
 obtain ⟨z,h3,h4⟩:=h2.2 j hj
 exact h4.bd
theorem Lr.bd {K w:Nat} {l:List Nb} {f:Nat→Int} (h:Lr K l w f):∀ j,j < w→Bd (pw K) (f j):=fun j hj=>by
 obtain ⟨z,h3,h4⟩:=h.2 j hj
 exact h4.bd
end Km
namespace Km
open Sx Go M Vc Lm Dt
section
variable {n w K:Nat} {A:Mx} {T:List (List Nb)} {M:Int}
theorem rrank_ok (hM:M < pw 60) (hR:Okb n w A M) (hT:Tr K T n w A) (hK:K≤400) (hn:n≤16) (hw:w≤16) (hn0:0 < n∨w=0):∃ k:Nat,m_ix T=some (k:Int)∧∃ A' col sn,Bar n w A A' col k w sn:=by
 obtain ⟨F,hF1,hF⟩:=fracs_ok hT hK (by omega) (by omega)
 obtain ⟨⟨F',pv,ds,dl,es,el⟩,h1,A',col,k,sn,hB,hT',hpv,hd,he,hnz⟩:=echelon08_ok hM hR (by omega) (by omega) hF
 simp only at hpv
 have hpl:pv.length=k:=by rw [hpv,List.length_map,List.length_range]
 refine ⟨k,?_,A',col,sn,hB⟩
 have hcol:m_h3 T=some (w:Int):=by
  rw [yrcols_ok hT.sh]
  split
  ·rename_i h0; have:w=0:=(by omega); rw [this]; rfl
  ·rfl
 unfold m_ix
 rw [hF1,obs,hcol,obs,h1,obs]
 simp only
 rw [hpl]
end
end Km
namespace Dt
section
open Sx Go M Vc Lm Km
variable {n w K:Nat} {A:Mx} {T:List (List Nb)} {M:Int}
end
end Dt
namespace Km
open Sx Go M Vc Lm Dt
section
variable {n w K:Nat} {A:Mx} {T:List (List Nb)} {M:Int}
theorem Lr.set {l:List Nb} {f:Nat→Int} (h:Lr K l w f) {c:Nat} (hc:c < w) {z:Nb} {v:Int} (hz:Rw K v z):Lr K (l.set c z) w (fun j=>if j=c then v else f j):=by
 refine ⟨by rw [List.length_set]; exact h.1,fun j hj=>?_⟩
 by_cases e:j=c
 ·subst e
  exact ⟨z,by rw [List.getElem?_set_self]; rw [h.1]; exact hc,by show Rw K (if j=j then v else f j) z; rw [if_pos rfl]; exact hz⟩
 ·obtain ⟨y,h1,h2⟩:=h.2 j hj
  exact ⟨y,by rw [List.getElem?_set_ne (fun h=>e h.symm)]; exact h1,by show Rw K (if j=c then v else f j) y; rw [if_neg e]; exact h2⟩
theorem Tr.snoc {k:Nat} (h:Tr K T k w A) {l:List Nb} (hl:Lr K l w (A k)):Tr K (T++[l]) (k+1) w A:=by
 refine ⟨by rw [List.length_append,h.1]; rfl,fun c hc=>?_⟩
 by_cases e:c < k
 ·obtain ⟨y,h1,h2⟩:=h.2 c e
  exact ⟨y,by rw [List.getElem?_append_left (by rw [h.1]; exact e)]; exact h1,h2⟩
 ·obtain rfl:c=k:=by omega
  exact ⟨l,by rw [List.getElem?_append_right (by rw [h.1]; omega),h.1,Nat.sub_self]; rfl,hl⟩
theorem Lr.snoc {l:List Nb} {k:Nat} {f:Nat→Int} (h:Lr K l k f) {z:Nb} (hz:Rw K (f k) z):Lr K (l++[z]) (k+1) f:=by
 refine ⟨by rw [List.length_append,h.1]; rfl,fun c hc=>?_⟩
 by_cases e:c < k
 ·obtain ⟨y,h1,h2⟩:=h.2 c e
  exact ⟨y,by rw [List.getElem?_append_left (by rw [h.1]; exact e)]; exact h1,h2⟩
 ·obtain rfl:c=k:=by omega
  exact ⟨z,by rw [List.getElem?_append_right (by rw [h.1]; omega),h.1,Nat.sub_self]; rfl,hz⟩
end
end Km
namespace Km
open Sx Go M Vc Lm Dt
section
variable {n w:Nat} {A:Mx} {T:List (List Nb)} {M:Int}
def KU (n w:Nat) (A:Mx) (M:Int) (fr:Nat) (l:List Nb):Prop:=∃ u:Nat→Int,Lg l w u∧(∀ j,j < w→Bd M (u j))∧(∀ r,r < n→sm w (fun j=>A r j*u j)=0)∧(∀ d:Int,(∀ j,j < w→d ∣ u j)→d ∣ 1)∧0 < u fr∧∀ j,fr < j→j < w→u j=0
theorem ykernel_ok {K:Nat} (hM:M < pw 190) (hR:Okb n w A M) (hT:Tr K T n w A) (hK:K≤400) (hn:n≤16) (hw:w≤16) (hn0:0 < n) (hw0:0 < w):
  ∃ l k A' col sn,m_f2 T=some (l,0)∧Bar n w A A' col k w sn∧((l=[]∧k=w)∨(k < w∧∃ fr,KU n w A M fr l∧fr < w∧fr≤k∧(∀ s,s < fr→col s=s)∧(fr < k→col fr≠fr))):=by
 obtain ⟨T',ht,hT'⟩:=ytwin0_ok hT hK (by omega) (by omega)
 obtain ⟨⟨R,pv,zs,zl,sn⟩,hel,A',col,k,hB,hTR,hpv,hd⟩:=eliminate_ok (cw:=w) hM hR (Nat.le_refl w) (by omega) (by omega) hT'
 simp only at hB hTR hpv hd
 have hpl:pv.length=k:=by rw [hpv,List.length_map,List.length_range]
 have hcol:m_eh T=some (w:Int):=by rw [ycolumns_ok hT.sh,if_neg (by omega)]
 have hchk:=ycheck_ok hT.sh hn hw
 have hpg:∀ s,s < k→getI pv (s:Int)=some (col s:Int):=fun s hs=>at_some (by rw [hpv,List.getElem?_map,List.getElem?_range hs]; rfl) rfl
 have hcols:∀ s,s < k→col s < w:=fun s hs=>hB.lt s hs
 have hge:∀ d s,s+d < k→col s+d≤col (s+d):=by
  intro d s
  induction d with
  | zero=>intro _; exact Nat.le_refl _
  | succ d ih=>intro hd; have:=hB.asc (s+d) (s+(d+1)) (by omega) (by omega); have:=ih (by omega); omega
 have hkw:k≤w:=by
  rcases Nat.eq_zero_or_pos k with h | h
  ·omega
  ·have h1:=hge (k - 1) 0 (by omega)
   have h2:=hcols (k - 1) (by omega)
   rw [Nat.zero_add] at h1
   omega
 have bD:=(hR A' col k 0 0 (bar_rows hB) hB.kn hcols hn0 hw0).2
 have bX:∀ i j,i < n→j < w→Bd M (Rk A' col k i j):=fun i j hi hj=>(hR A' col k i j (bar_rows hB) hB.kn hcols hi hj).1
 have hM0:=bD.nn
 have ld:=hd.lenB bD hM
 have hD0:=hB.d
 have hfree:Ret (loop (m_f1 (R,pv,zs,zl,sn)) 0) (fun o=>∃ fr:Nat,o=(fr:Int)∧fr≤k∧(∀ s,s < fr→col s=s)∧(fr < k→col fr≠fr)):=by
  refine ret_loop (Post:=fun o=>∃ fr:Nat,o=(fr:Int)∧fr≤k∧(∀ s,s < fr→col s=s)∧(fr < k→col fr≠fr)) k (fun j (i:Int)=>i=(j:Int)∧j≤k∧∀ s,s < j→col s=s) ⟨rfl,by omega,fun s hs=>absurd hs (by omega)⟩ ?_ (by omega)
  rintro j _ hj ⟨rfl,hjk,hI⟩
  unfold m_f1
  simp only
  rw [hpl]
  by_cases hlt:j < k
  ·rw [if_pos (by omega),hpg j hlt,obs,obs,ret_if]
   refine ⟨fun he=>⟨_,rfl,hlt,by rw [wa_i (by omega) (by omega)]; rfl,hlt,fun s hs=>?_⟩,fun he=>⟨_,rfl,j,rfl,hjk,hI,fun _ h=>he (by rw [h]; simp)⟩⟩
   have he:(col j:Int)=(j:Int):=by simpa using he
   by_cases e:s=j
   ·subst e; omega
   ·exact hI s (by omega)
  ·rw [if_neg (by omega),obs,if_neg (by simp)]
   exact ⟨_,rfl,j,rfl,hjk,hI,fun h=>absurd h hlt⟩
 obtain ⟨_,hfl,fr,rfl,hfk,hfs,hfn⟩:=hfree
 have hpre:∀ (f:Int→Option (List Nb×Int)),((loop (m_f1 (R,pv,zs,zl,sn)) 0).bind f)=f (fr:Int):=fun f=>by rw [hfl,obs]
 by_cases hfw:fr=w
 ·refine ⟨[],k,A',col,sn,?_,hB,.inl ⟨rfl,by omega⟩⟩
  unfold m_f2
  rw [hchk,obs,if_pos rfl,hcol,obs,ht,obs,hel,obs,hpre,if_pos (by omega)]
 ·have hno:∀ s,s < k→col s≠fr:=by
   intro s hs
   by_cases h1:s < fr
   ·rw [hfs s h1]; omega
   ·have h2:fr < k:=by omega
    have h3:=hfn h2
    have h4:=hge (s - fr) fr (by omega)
    rw [show fr+(s - fr)=s by omega] at h4
    have h5:fr≤col fr:=by
     rcases Nat.eq_zero_or_pos fr with h | h
     ·omega
     ·have h6:=hB.asc (fr - 1) fr (by omega) h2
      rw [hfs (fr - 1) (by omega)] at h6
      omega
    omega
  have hkw2:k < w:=by
   refine Classical.byContradiction fun hc=>?_
   have hk:k=w:=by omega
   have h2:fr < k:=by omega
   have h4:=hge (k - 1 - fr) fr (by omega)
   rw [show fr+(k - 1 - fr)=k - 1 by omega] at h4
   have h5:fr≤col fr:=by
    rcases Nat.eq_zero_or_pos fr with h | h
    ·omega
    ·have h6:=hB.asc (fr - 1) fr (by omega) h2
     rw [hfs (fr - 1) (by omega)] at h6
     omega
   have h3:=hfn h2
   have h7:=hcols (k - 1) (by omega)
   omega
  have hfrw:fr < w:=by omega
  generalize hDD:det k (Pm_ A' col)=D at*
  let a:Int:=if D < 0 then -D else D
  let X:Nat→Int:=fun s=>if D < 0 then Rk A' col k s fr else - Rk A' col k s fr
  have ha0:0 < a:=by show 0 < (if D < 0 then -D else D); split<;>omega
  have ba:Bd M a:=by show Bd M (if D < 0 then -D else D); split; exact bD.neg; exact bD
  have hkn:=hB.kn
  have bXs:∀ s,s < k→Bd M (X s):=fun s hs=>by
   show Bd M (if D < 0 then Rk A' col k s fr else - Rk A' col k s fr)
   split
   ·exact bX s fr (by omega) hfrw
   ·exact (bX s fr (by omega) hfrw).neg
  have key:Ret (m_f2 T) (fun r=>r.2=0∧KU n w A M fr r.1):=by
   unfold m_f2
   rw [hchk,obs,if_pos rfl,hcol,obs,ht,obs,hel,obs,hpre,if_neg (by omega),ret_bind,ret_mkL]
   refine ⟨by omega,by omega,?_⟩
   rw [Int.toNat_natCast,ret_bind]
   refine (absP_bg (s:=zs) hd.1 (by omega)).mono fun z hz=>?_
   have hz:Bg a z.1 z.2:=by rw [hd.abs] at hz; exact hz
   have h0:Lg ((List.replicate w ((false,[]):Nb)).set fr (z.1,z.2)) w (vk fr a col X 0):=((Lg.zeros w).set hfrw (z:=(z.1,z.2)) hz).congr fun c _=>rfl
   rw [set_some (by rw [List.length_replicate]; exact hfrw) rfl,obs]
   obtain ⟨y,hy1,hy2⟩:=h0.at hfrw (i:=(fr:Int)) rfl
   have hy2:Bg a y.1 y.2:=hy2.cast (if_pos rfl)
   rw [hy1,obs,ret_bind]
   refine (ret_loop (Post:=fun o:List Nb×Bool×List Int=>Lg o.1 w (vk fr a col X k)∧∃ G,Bg G o.2.1 o.2.2∧(0 < G∧G≤a)∧(G ∣ a∧∀ s,s < k→G ∣ X s)∧∀ d,d ∣ a→(∀ s,s < k→d ∣ X s)→d ∣ G) k (fun i (s:List Nb×Bool×List Int×Int)=>s.2.2.2=(i:Int)∧Lg s.1 w (vk fr a col X i)∧∃ G,Bg G s.2.1 s.2.2.1∧(0 < G∧G≤a)∧(G ∣ a∧∀ s,s < i→G ∣ X s)∧∀ d,d ∣ a→(∀ s,s < i→d ∣ X s)→d ∣ G) ⟨rfl,h0,a,hy2,⟨ha0,Int.le_refl a⟩,⟨Int.dvd_refl a,fun s hs=>absurd hs (by omega)⟩,fun d h _=>h⟩ ?_ (by omega)).mono ?_
   ·rintro i ⟨o,gs,gl,_⟩ hi ⟨rfl,hI,G,hG,⟨g0,g1⟩,⟨g2,g3⟩,g4⟩
    simp only at hI hG
    unfold m_f0
    simp only
    rw [hpl,ret_if]
    refine ⟨fun hlt=>?_,fun hge2=>⟨_,rfl,by have e:i=k:=(by omega); subst e; exact ⟨hI,G,hG,⟨g0,g1⟩,⟨g2,g3⟩,g4⟩⟩⟩
    have hik:i < k:=by omega
    obtain ⟨row,h1,h2⟩:=hTR.at (show i < n by omega) (i:=(i:Int)) rfl
    obtain ⟨x,h3,h4⟩:=h2.at hfrw (i:=(fr:Int)) rfl
    have lx:=h4.lenB (bX i fr (by omega) hfrw) hM
    rw [hpg i hik,obs,h1,obs,h3,obs,ret_bind]
    refine (turned_ok hd h4 (by omega) (by omega)).mono fun t ht2=>?_
    have bt:Bd M (if D < 0 then - Rk A' col k i fr else Rk A' col k i fr):=by
     split
     ·exact (bX i fr (by omega) hfrw).neg
     ·exact bX i fr (by omega) hfrw
    have lt:=ht2.lenB bt hM
    rw [ret_bind]
    refine (negP_bg (s:=t.1) ht2.1 (by omega)).mono fun q hq=>?_
    have hq:Bg (X i) q.1 q.2:=by
     rw [ht2.sv] at hq
     refine hq.cast ?_
     show -(if D < 0 then - Rk A' col k i fr else Rk A' col k i fr)=if D < 0 then Rk A' col k i fr else - Rk A' col k i fr
     split<;>omega
    have hci:=hcols i hik
    rw [set_some (by rw [hI.1]; exact hci) rfl,obs]
    have hS:Lg (o.set (col i) (q.1,q.2)) w (vk fr a col X (i+1)):=(hI.set hci (z:=(q.1,q.2)) hq).congr fun c _=>rfl
    obtain ⟨y2,hy3,hy4⟩:=hS.at hci (i:=(col i:Int)) rfl
    have hy4:Bg (X i) y2.1 y2.2:=hy4.cast (if_pos rfl)
    have ly2:=hy4.lenB (bXs i hik) hM
    have lG:=hG.lenB (show Bd M G from ⟨by omega,by have:=ba.2; omega⟩) hM
    rw [hy3,obs,ret_bind]
    refine (gcdP_ok (s:=gs) (t:=y2.1) hG.1 hy4.1 (by omega) (by omega)).mono fun g hg=>?_
    rw [hG.sv,hy4.sv] at hg
    obtain ⟨e1,e2⟩:=gcd_le (x:=G) (y:=X i) g0
    have d1:((Int.gcd G (X i):Nat):Int) ∣ G:=Int.gcd_dvd_left ..
    have d2:((Int.gcd G (X i):Nat):Int) ∣ X i:=Int.gcd_dvd_right ..
    refine ⟨_,rfl,hik,by show wa .i64 (i:Int) 1=_; rw [wa_i (by omega) (by omega)]; rfl,hS,_,hg,⟨e1,by omega⟩,⟨Int.dvd_trans d1 g2,fun s hs=>?_⟩,fun d hda hdx=>?_⟩
    ·by_cases e:s=i
     ·subst e; exact d2
     ·exact Int.dvd_trans d1 (g3 s (by omega))
    ·exact Int.dvd_coe_gcd (g4 d hda fun s hs=>hdx s (by omega)) (hdx i (by omega))
   ·rintro ⟨o,gs,gl⟩ ⟨hO,G,hG,⟨g0,g1⟩,⟨g2,g3⟩,g4⟩
    simp only at hO hG ⊢
    have bv:∀ j,Bd M (vk fr a col X k j):=vk_bd hM0 ba k bXs
    have hGd:∀ j,j < w→G ∣ vk fr a col X k j:=by
     intro j hj
     by_cases e:j=fr
     ·subst e; rw [vk_fr k hno]; exact g2
     ·by_cases hex:∃ s,s < k∧col s=j
      ·obtain ⟨s,hs,rfl⟩:=hex
       rw [vk_col k hB.asc s hs]; exact g3 s hs
      ·rw [vk_no e k fun s hs h=>hex ⟨s,hs,h⟩]; exact Int.dvd_zero _
    have hue:∀ j,j < w→G*(vk fr a col X k j / G)=vk fr a col X k j:=fun j hj=>Int.mul_ediv_cancel' (hGd j hj)
    have lG:=hG.lenB (show Bd M G from ⟨by omega,by have:=ba.2; omega⟩) hM
    have bu:∀ j,j < w→Bd M (vk fr a col X k j / G):=by
     intro j hj
     have h1:=hue j hj
     have h2:=bv j
     generalize vk fr a col X k j / G=u at*
     rw [← h1] at h2
     rcases Int.le_total 0 u with h3 | h3
     ·have:1*u≤G*u:=Int.mul_le_mul_of_nonneg_right (by omega) h3
      exact ⟨by omega,by have:=h2.2; omega⟩
     ·have:G*u≤1*u:=Int.mul_le_mul_of_nonpos_right (by omega) h3
      exact ⟨by have:=h2.1; omega,by omega⟩
    rw [ret_bind]
    refine (ret_loop (Post:=fun r:List Nb=>Lg r w (fun j=>vk fr a col X k j / G)) w (fun i (s:List Nb×Int)=>s.2=(i:Int)∧Lg s.1 w (fun j=>if j < i then vk fr a col X k j / G else vk fr a col X k j)) ⟨rfl,hO.congr fun c _=>(if_neg (by omega)).symm⟩ ?_ (by omega)).mono ?_
    ·rintro i ⟨r,_⟩ hi ⟨rfl,hI⟩
     simp only at hI
     unfold m_fz
     simp only
     rw [hO.1,ret_if]
     refine ⟨fun hlt=>?_,fun hge2=>⟨_,rfl,hI.congr fun c hc=>if_pos (by omega)⟩⟩
     have hiw:i < w:=by omega
     obtain ⟨x,h1,h2⟩:=hI.at hiw (i:=(i:Int)) rfl
     have h2:Bg (vk fr a col X k i) x.1 x.2:=h2.cast (if_neg (by omega))
     have lx:=h2.lenB (bv i) hM
     rw [h1,obs,ret_bind]
     refine (quoP_bg (s:=x.1) (t:=gs) (h:=vk fr a col X k i / G) h2.1 hG.1 (by omega) (by omega) (by rw [hG.sv]; omega) (by rw [h2.sv,hG.sv,hue i hiw])).mono ?_
     rintro ⟨t1,t2,t3⟩ ⟨ht3,_⟩
     simp only at ht3 ⊢
     rw [set_some (by rw [hI.1]; exact hiw) rfl,obs]
     refine ⟨_,rfl,hiw,by show wa .i64 (i:Int) 1=_; rw [wa_i (by omega) (by omega)]; rfl,(hI.set hiw (z:=(t1,t2)) ht3).congr fun c hc=>?_⟩
     by_cases e:c=i
     ·subst e; rw [if_pos rfl,if_pos (by omega)]
     ·rw [if_neg e]
      by_cases hck:c < i
      ·rw [if_pos hck,if_pos (by omega)]
      ·rw [if_neg hck,if_neg (by omega)]
    ·intro r hr
     refine ⟨_,rfl,rfl,_,hr,bu,fun i hi=>?_,fun d hdv=>?_,?_,fun j hj1 hj2=>?_⟩
     ·
      have hker:=hB.kernel hfrw hno (v:=fun j=>if D < 0 then - vk fr a col X k j else vk fr a col X k j) (by
       show (if D < 0 then - vk fr a col X k fr else vk fr a col X k fr)=det k (Pm_ A' col)
       rw [vk_fr k hno,hDD]
       show (if D < 0 then -(if D < 0 then -D else D) else (if D < 0 then -D else D))=D
       split<;>omega) (fun s hs=>by
       show (if D < 0 then - vk fr a col X k (col s) else vk fr a col X k (col s))=_
       rw [vk_col k hB.asc s hs]
       show (if D < 0 then -(if D < 0 then Rk A' col k s fr else - Rk A' col k s fr) else (if D < 0 then Rk A' col k s fr else - Rk A' col k s fr))=_
       split<;>omega) (fun j hj h1 h2=>by
       show (if D < 0 then - vk fr a col X k j else vk fr a col X k j)=0
       rw [vk_no h1 k h2]; split<;>omega) i hi
      have e1:sm w (fun j=>A i j*vk fr a col X k j)=0:=by
       by_cases hn2:D < 0
       ·have e2:sm w (fun j=>A i j*(if D < 0 then - vk fr a col X k j else vk fr a col X k j))= -1*sm w (fun j=>A i j*vk fr a col X k j):=by
         rw [← sm_mul]; exact sm_congr fun j _=>by rw [if_pos hn2]; grind
        rw [e2] at hker; omega
       ·have e2:sm w (fun j=>A i j*(if D < 0 then - vk fr a col X k j else vk fr a col X k j))=sm w (fun j=>A i j*vk fr a col X k j):=sm_congr fun j _=>by rw [if_neg hn2]
        rw [e2] at hker; exact hker
      have e3:sm w (fun j=>A i j*vk fr a col X k j)=G*sm w (fun j=>A i j*(vk fr a col X k j / G)):=by
       rw [← sm_mul]
       exact sm_congr fun j hj=>by
        have h9:=hue j hj
        have h8:A i j*vk fr a col X k j=A i j*(G*(vk fr a col X k j / G)):=by rw [h9]
        rw [h8]; grind
      rw [e3] at e1
      rcases Int.mul_eq_zero.1 e1 with h | h
      ·omega
      ·exact h
     ·
      have hdG:∀ j,j < w→d*G ∣ vk fr a col X k j:=by
       intro j hj
       obtain ⟨c,hc⟩:=hdv j hj
       refine ⟨c,?_⟩
       have h9:=hue j hj
       have hc:vk fr a col X k j / G=d*c:=hc
       rw [← h9,hc]; grind
      have h1:d*G ∣ a:=by have:=hdG fr hfrw; rwa [vk_fr k hno] at this
      have h2:∀ s,s < k→d*G ∣ X s:=fun s hs=>by have:=hdG (col s) (hcols s hs); rwa [vk_col k hB.asc s hs] at this
      obtain ⟨c,hc⟩:=g4 _ h1 h2
      have h3:G*(d*c - 1)=0:=by
       have:d*G*c=G*(d*c):=by grind
       rw [Int.mul_sub]; omega
      rcases Int.mul_eq_zero.1 h3 with h | h
      ·omega
      ·exact ⟨c,by omega⟩
     ·have h9:=hue fr hfrw
      rw [vk_fr k hno] at h9 ⊢
      refine Classical.byContradiction fun hc=>?_
      have:=Int.mul_nonpos_of_nonneg_of_nonpos (show 0≤G by omega) (show a / G≤0 by omega)
      omega
     ·have h0:vk fr a col X k j=0:=by
       by_cases hex:∃ s,s < k∧col s=j
       ·obtain ⟨s,hs,rfl⟩:=hex
        rw [vk_col k hB.asc s hs]
        have hl:Rk A' col k s fr=0:=hB.lead s fr hs hj1
        show (if D < 0 then Rk A' col k s fr else - Rk A' col k s fr)=0
        rw [hl]; split<;>omega
       ·exact vk_no (by omega) k fun s hs h=>hex ⟨s,hs,h⟩
      show vk fr a col X k j / G=0
      rw [h0,Int.zero_ediv]
  obtain ⟨⟨l,e⟩,hk1,he,hu⟩:=key
  simp only at he hu
  subst he
  exact ⟨l,k,A',col,sn,hk1,hB,.inr ⟨hkw2,fr,hu,hfrw,hfk,hfs,hfn⟩⟩
end
end Km
namespace Km
open Sx Go M Vc Dt
theorem ret_loopM {τ ρ:Type} {step:τ→Option (τ⊕ρ)} {Post:ρ→Prop} (I:τ→Prop) (μ:τ→Nat) {s:τ} (h0:I s) (hμ:μ s < 1099511627776)
  (h:∀ t,I t→Ret (step t) (VQ (fun t'=>I t'∧μ t' < μ t) Post)):Ret (loop step s) Post:=by
 have key:∀ (fuel:Nat) (t:τ),μ t < fuel→I t→Ret (loopN step fuel t) Post:=by
  intro fuel
  induction fuel with
  | zero=>intro t h1; omega
  | succ n ih=>
   intro t h1 h2
   obtain ⟨x,hx,h3⟩:=h t h2
   cases x with
   | inr r=>exact ⟨r,by simp [loopN,hx],h3⟩
   | inl t'=>
    obtain ⟨h4,h5⟩:=h3
    obtain ⟨y,hy,hp⟩:=ih t' (by omega) h4
    exact ⟨y,by simp [loopN,hx,hy],hp⟩
 exact key FUEL s (Nat.lt_of_lt_of_le hμ (by unfold FUEL; omega)) h0
structure PP (p:Int):Prop where
 two:2≤p
 max:p≤2147483647
 prm:Nt.Prm p.toNat
theorem tmod_nn {x p:Int} (h:0≤x):x.tmod p=x % p:=Int.tmod_eq_emod_of_nonneg h
theorem wr_nn {x p:Int} (h:0≤x) (hp:0 < p):wr x p=some (x % p):=by
 unfold wr; rw [if_neg (by omega),tmod_nn h]
theorem mod_rng {p:Int} (x:Int) (hp:0 < p):0≤x % p∧x % p < p:=⟨Int.emod_nonneg _ (by omega),Int.emod_lt_of_pos _ hp⟩
theorem emod_of {a p z k:Int} (h:a=z+p*k) (h0:0≤z) (h1:z < p):z=a % p:=by rw [h,Int.add_mul_emod_self_left,Int.emod_eq_of_lt h0 h1]
theorem mod_ok {a p:Int} (hp:0 < p) (hm:p≤2147483647):m_gu a p=some (a % p):=by
 unfold m_gu wr m_gt
 rw [if_neg (by omega),obs]
 have h1:=Int.lt_tmod_of_pos a hp
 have h2:=Int.tmod_lt_of_pos a hp
 have h3:=Int.mul_tdiv_add_tmod a p
 split
 ·rw [wa_i (by omega) (by omega)]
  refine congrArg some (emod_of (k:=a.tdiv p - 1) ?_ (by omega) (by omega))
  rw [Int.mul_sub]; omega
 ·exact congrArg some (emod_of (k:=a.tdiv p) (by omega) (by omega) h2)
theorem mul_rng {p x y:Int} (hm:p≤2147483647) (hx:0≤x∧x < p) (hy:0≤y∧y < p):0≤x*y∧x*y≤4611686014132420609:=
 ⟨Int.mul_nonneg hx.1 hy.1,by have:=Int.mul_le_mul (show x≤2147483647 by omega) (show y≤2147483647 by omega) hy.1 (by omega); omega⟩
theorem wmr {p x y:Int} (hm:p≤2147483647) (hx:0≤x∧x < p) (hy:0≤y∧y < p):wr (wm .i64 x y) p=some (x*y % p):=by
 have:=mul_rng hm hx hy
 rw [wm_i (by omega) (by omega),wr_nn this.1 (by omega)]
theorem raise_ok {p a:Nat} (hp:1 < p) (hm:p≤2147483647) (ha:a < p) {n:Nat} (hn:n < 1099511627776):m_g3 (a:Int) (n:Int) (p:Int)=some ((a ^ n % p:Nat):Int):=by
 refine Ret.eq ?_
 unfold m_g3
 rw [ret_bind]
 refine (ret_loopM (Post:=fun o=>o=((a ^ n % p:Nat):Int)) (fun (s:Int×Int×Int)=>∃ A m O:Nat,s=((A:Int),(m:Int),(O:Int))∧A < p∧O < p∧m < 1099511627776∧O*A ^ m % p=a ^ n % p) (fun s=>s.2.1.toNat) ⟨a,n,1,rfl,ha,hp,hn,by rw [Nat.one_mul]⟩ (by show ((n:Int)).toNat < _; omega) ?_).mono ?_
 ·rintro _ ⟨A,m,O,rfl,hA,hO,hm2,hI⟩
  unfold m_g2
  simp only
  have hAA:=mul_rng (p:=p) (x:=A) (y:=A) (by omega) ⟨by omega,by omega⟩ ⟨by omega,by omega⟩
  have hOA:=mul_rng (p:=p) (x:=O) (y:=A) (by omega) ⟨by omega,by omega⟩ ⟨by omega,by omega⟩
  have e1:wr (wm .i64 (A:Int) (A:Int)) (p:Int)=some ((A*A % p:Nat):Int):=by rw [wmr (by omega) ⟨by omega,by omega⟩ ⟨by omega,by omega⟩]; simp
  have e2:wr (wm .i64 (O:Int) (A:Int)) (p:Int)=some ((O*A % p:Nat):Int):=by rw [wmr (by omega) ⟨by omega,by omega⟩ ⟨by omega,by omega⟩]; simp
  have e3:wrc (m:Int) 2=((m % 2:Nat):Int):=by show Int.tmod (m:Int) 2=_; rw [tmod_nn (by omega)]; omega
  have e4:wqc .i64 (m:Int) 2=((m / 2:Nat):Int):=by
   show IntKind.wrap .i64 (Int.tdiv (m:Int) 2)=_
   rw [Int.tdiv_eq_ediv_of_nonneg (by omega),IntWalk.i64_in _ ⟨by omega,by omega⟩]; omega
  have hlt:∀ z:Nat,z % p < p:=fun z=>Nat.mod_lt _ (by omega)
  rw [ret_if]
  refine ⟨fun h0=>?_,fun h0=>?_⟩
  ·rw [e3,ret_if]
   refine ⟨fun h1=>?_,fun h1=>?_⟩
   ·rw [e2,obs]
    unfold m_g1
    rw [e1,obs,e4]
    refine ⟨_,rfl,⟨_,_,_,rfl,hlt _,hlt _,by omega,?_⟩,by show ((m / 2:Nat):Int).toNat < ((m:Int)).toNat; omega⟩
    rw [Nt.pow_odd (by omega)]; exact hI
   ·unfold m_g1
    rw [e1,obs,e4]
    refine ⟨_,rfl,⟨_,_,_,rfl,hlt _,hO,by omega,?_⟩,by show ((m / 2:Nat):Int).toNat < ((m:Int)).toNat; omega⟩
    rw [Nt.pow_even (by omega)]; exact hI
  ·refine ⟨_,rfl,?_⟩
   obtain rfl:m=0:=by omega
   rw [Nat.pow_zero,Nat.mul_one,Nat.mod_eq_of_lt hO] at hI
   show (O:Int)=_
   rw [hI]
 ·rintro _ rfl
  exact ⟨_,rfl,rfl⟩
theorem inverse_ok {p a:Int} (hp:PP p) (ha:0 < a∧a < p):∃ f,m_g4 a p=some f∧(0≤f∧f < p)∧a*f % p=1:=by
 have h2:=hp.two
 have h3:=hp.max
 obtain ⟨P,rfl⟩:=Int.eq_ofNat_of_zero_le (show 0≤p by omega)
 obtain ⟨A,rfl⟩:=Int.eq_ofNat_of_zero_le (show 0≤a by omega)
 refine ⟨((A ^ (P - 2) % P:Nat):Int),?_,⟨by omega,?_⟩,?_⟩
 ·unfold m_g4
  rw [ws_i (by omega) (by omega),show (P:Int) - 2=((P - 2:Nat):Int) by omega,raise_ok (by omega) (by omega) (by omega) (by omega),obs]
 ·have:=Nat.mod_lt (A ^ (P - 2)) (show P > 0 by omega); omega
 ·have:=Nt.inv_ok hp.prm (a:=A) (by omega) (by simpa using (show A < P by omega))
  rw [Int.toNat_natCast] at this
  exact_mod_cast this
def Ln (l:List Int) (w:Nat) (f:Nat→Int):Prop:=l.length=w∧∀ c,c < w→l[c]?=some (f c)
def Tb (T:List (List Int)) (n w:Nat) (A:Mx):Prop:=T.length=n∧∀ r,r < n→∃ l,T[r]?=some l∧Ln l w (A r)
theorem Ln.congr {l:List Int} {w:Nat} {f g:Nat→Int} (h:Ln l w f) (e:∀ c,c < w→f c=g c):Ln l w g:=⟨h.1,fun c hc=>by rw [h.2 c hc,e c hc]⟩
theorem Ln.set {l:List Int} {w:Nat} {f:Nat→Int} (h:Ln l w f) {c:Nat} (hc:c < w) (x:Int):Ln (l.set c x) w (fun j=>if j=c then x else f j):=by
 refine ⟨by rw [List.length_set]; exact h.1,fun j hj=>?_⟩
 rw [List.getElem?_set]
 by_cases e:c=j
 ·subst e
  show _=some (if c=c then x else f c)
  rw [if_pos rfl,if_pos (by rw [h.1]; exact hc),if_pos rfl]
 ·show _=some (if j=c then x else f j)
  rw [if_neg e,if_neg (Ne.symm e)]; exact h.2 j hj
theorem Tb.congr {T:List (List Int)} {n w:Nat} {A B:Mx} (h:Tb T n w A) (e:∀ r c,r < n→c < w→A r c=B r c):Tb T n w B:=⟨h.1,fun r hr=>by obtain ⟨l,h1,h2⟩:=h.2 r hr; exact ⟨l,h1,h2.congr fun c hc=>e r c hr hc⟩⟩
theorem Tb.set {T:List (List Int)} {n w:Nat} {A:Mx} (h:Tb T n w A) {k:Nat} (hk:k < n) {l:List Int} {g:Nat→Int} (hl:Ln l w g):Tb (T.set k l) n w (up A k g):=by
 refine ⟨by rw [List.length_set]; exact h.1,fun r hr=>?_⟩
 rw [List.getElem?_set]
 by_cases e:k=r
 ·subst e; rw [if_pos rfl,if_pos (by rw [h.1]; exact hk)]; exact ⟨l,rfl,hl.congr fun c _=>up_in.symm⟩
 ·rw [if_neg e]; obtain ⟨m,h1,h2⟩:=h.2 r hr; exact ⟨m,h1,h2.congr fun c _=>(up_out fun e'=>e e'.symm).symm⟩
theorem Ln.get {l:List Int} {w:Nat} {f:Nat→Int} (h:Ln l w f) {c:Nat} (hc:c < w) {Q:Int→Prop} (hQ:Q (f c)):Ret (getI l (c:Int)) Q:=by
 rw [ret_get]
 refine ⟨by omega,by rw [h.1]; omega,fun x hx=>?_⟩
 rw [Int.toNat_natCast,h.2 c hc] at hx
 obtain rfl:=Option.some.inj hx
 exact hQ
theorem Tb.get {T:List (List Int)} {n w:Nat} {A:Mx} (h:Tb T n w A) {r:Nat} (hr:r < n) {Q:List Int→Prop} (hQ:∀ l,T[r]?=some l→Ln l w (A r)→Q l):Ret (getI T (r:Int)) Q:=by
 rw [ret_get]
 refine ⟨by omega,by rw [h.1]; omega,fun x hx=>?_⟩
 rw [Int.toNat_natCast] at hx
 obtain ⟨l,h1,h2⟩:=h.2 r hr
 rw [h1] at hx
 obtain rfl:=Option.some.inj hx
 exact hQ l h1 h2
end Km
namespace Km
open Sx Go M Vc Dt
section
variable {p:Int} {n w:Nat}
theorem sub_mod (p a b:Int):(a - b % p) % p=(a - b) % p:=Cg.iff.1 ((Cg.refl p a).sub (Cg.mod p b))
theorem subtract_ok (hp:0 < p) (hm:p≤2147483647) {l o:List Int} {f g:Nat→Int} {x:Int} (hl:Ln l w f) (ho:Ln o w g) (hf:∀ c,c < w→0≤f c∧f c < p) (hg:∀ c,c < w→0≤g c∧g c < p) (hx:0≤x∧x < p) (hw:w≤1000):
  Ret (m_g6 l o x p) (fun l'=>Ln l' w (fun c=>(f c - x*g c) % p)):=by
 unfold m_g6
 rw [ret_bind]
 refine (ret_loop (Post:=fun l'=>Ln l' w (fun c=>(f c - x*g c) % p)) w (fun k (s:List Int×Int)=>s.2=(k:Int)∧Ln s.1 w (fun j=>if j < k then (f j - x*g j) % p else f j)) ⟨rfl,hl.congr fun c _=>by rw [if_neg (by omega)]⟩ ?_ (by omega)).mono fun _ h=>⟨_,rfl,h⟩
 rintro k ⟨l',_⟩ hk ⟨rfl,h⟩
 unfold m_g5
 simp only at h ⊢
 rw [ret_if,ho.1]
 refine ⟨fun hlt=>?_,fun hge=>⟨_,rfl,?_⟩⟩
 ·have hkw:k < w:=by omega
  rw [ret_bind]; refine ho.get hkw ?_
  rw [ret_bind]; refine h.get hkw ?_
  show Ret ((wr (wm .i64 x (g k)) p).bind _) _
  rw [if_neg (by omega),wmr hm hx (hg k hkw),obs]
  have h1:=mod_rng (x*g k) hp
  have h2:=hf k hkw
  rw [ws_i (by omega) (by omega),mod_ok hp hm,obs,ret_bind,ret_set]
  refine ⟨by omega,by rw [h.1]; omega,_,rfl,?_⟩
  refine ⟨by omega,by show wa .i64 (k:Int) 1=_; rw [wa_i (by omega) (by omega)]; omega,?_⟩
  show Ln (l'.set (k:Int).toNat _) w _
  rw [Int.toNat_natCast]
  refine (h.set hkw _).congr fun j _=>?_
  by_cases e:j=k
  ·subst e; rw [if_pos rfl,if_pos (by omega),sub_mod]
  ·rw [if_neg e]
   by_cases e2:j < k
   ·rw [if_pos e2,if_pos (by omega)]
   ·rw [if_neg e2,if_neg (by omega)]
 ·show Ln l' w _
  exact h.congr fun j hj=>by rw [if_pos (by omega)]
theorem scale_ok (hp:0 < p) (hm:p≤2147483647) {T:List (List Int)} {A:Mx} (hT:Tb T n w A) {k:Nat} (hk:k < n) (hr:∀ c,c < w→0≤A k c∧A k c < p) {f:Int} (hf:0≤f∧f < p) {top piv:List Int} (h1:top.length=w) (h2:piv.length=k) (hw:w≤1000):
  Ret (loop (m_ha top piv f p) (T,0)) (fun T'=>Tb T' n w (up A k (fun j=>A k j*f % p))):=by
 refine ret_loop w (fun m (s:List (List Int)×Int)=>s.2=(m:Int)∧Tb s.1 n w (up A k (fun j=>if j < m then A k j*f % p else A k j))) ⟨rfl,hT.congr fun r c hr hc=>?_⟩ ?_ (by omega)
 ·by_cases e:r=k
  ·subst e; rw [up_in,if_neg (by omega)]
  ·rw [up_out e]
 ·rintro m ⟨T',_⟩ hmw ⟨rfl,h⟩
  unfold m_ha
  simp only at h ⊢
  rw [ret_if,h1,h2]
  refine ⟨fun hlt=>?_,fun hge=>⟨_,rfl,?_⟩⟩
  ·have hmw:m < w:=by omega
   rw [ret_bind]; refine h.get hk fun l hl1 hl2=>?_
   rw [ret_bind]; refine h.get hk fun l' hl1' hl2'=>?_
   obtain rfl:=Option.some.inj (hl1.symm.trans hl1')
   rw [ret_bind]; refine hl2.get hmw ?_
   rw [up_in,if_neg (by omega),wmr hm (hr m hmw) hf,obs,ret_bind,ret_set]
   refine ⟨by omega,by rw [hl2.1]; omega,?_⟩
   rw [ret_bind,ret_set]
   refine ⟨by omega,by rw [h.1]; omega,_,rfl,?_⟩
   refine ⟨by omega,by show wa .i64 (m:Int) 1=_; rw [wa_i (by omega) (by omega)]; omega,?_⟩
   show Tb (T'.set (k:Int).toNat (l.set (m:Int).toNat _)) n w _
   rw [Int.toNat_natCast,Int.toNat_natCast]
   refine (h.set hk (hl2.set hmw _)).congr fun r c hr hc=>?_
   by_cases e:r=k
   ·subst e
    rw [up_in,up_in]
    by_cases e2:c=m
    ·subst e2; rw [if_pos rfl,up_in,if_pos (by omega)]
    ·rw [if_neg e2,up_in]
     by_cases e3:c < m
     ·rw [if_pos e3,if_pos (by omega)]
     ·rw [if_neg e3,if_neg (by omega)]
   ·rw [up_out e,up_out e,up_out e]
  ·show Tb T' n w _
   refine h.congr fun r c hr hc=>?_
   by_cases e:r=k
   ·subst e; rw [up_in,up_in,if_pos (by omega)]
   ·rw [up_out e,up_out e]
def Em (p:Int) (A:Mx) (k c m:Nat):Mx:=fun r j=>if r≠k∧r < m then (A r j - A r c*A k j) % p else A r j
theorem elim_ok (hp:0 < p) (hm:p≤2147483647) {T:List (List Int)} {A:Mx} (hT:Tb T n w A) {k c:Nat} (hk:k < n) (hc:c < w) (hr:∀ r j,r < n→j < w→0≤A r j∧A r j < p) {T0:List (List Int)} {piv:List Int} (h1:T0.length=n) (h2:piv.length=k) (hw:w≤1000) (hn:n≤1000):
  Ret (loop (m_g9 T0 piv (c:Int) p) (T,0)) (fun T'=>Tb T' n w (Em p A k c n)):=by
 refine ret_loop n (fun m (s:List (List Int)×Int)=>s.2=(m:Int)∧Tb s.1 n w (Em p A k c m)) ⟨rfl,hT.congr fun r j hr hc=>?_⟩ ?_ (by omega)
 ·unfold Em; rw [if_neg (by omega)]
 ·rintro m ⟨T',_⟩ hmw ⟨rfl,h⟩
  unfold m_g9 m_g8
  simp only at h ⊢
  rw [ret_if,h1,h2]
  refine ⟨fun hlt=>?_,fun hge=>⟨_,rfl,?_⟩⟩
  ·have hmn:m < n:=by omega
   have nxt:wa .i64 (m:Int) 1=((m+1:Nat):Int):=by rw [wa_i (by omega) (by omega)]; rfl
   have Emm:Em p A k c m m=A m:=by funext j; unfold Em; rw [if_neg (by omega)]
   have Emk:Em p A k c m k=A k:=by funext j; unfold Em; rw [if_neg (by omega)]
   rw [ret_bind]; refine h.get hmn fun l hl1 hl2=>?_
   rw [Emm] at hl2
   rw [ret_bind,ret_if]
   refine ⟨fun he=>?_,fun he=>?_⟩
   ·have he:m=k:=by omega
    rw [ret_some,if_neg (by simp)]
    refine ⟨_,rfl,by omega,nxt,?_⟩
    refine h.congr fun r j hr hc=>?_
    unfold Em
    by_cases e:r≠k∧r < m
    ·rw [if_pos e,if_pos (by omega)]
    ·rw [if_neg e,if_neg (by omega)]
   ·have he:m≠k:=by omega
    rw [ret_bind]; refine hl2.get hc ?_
    rw [ret_some,ret_if]
    have hz:=hr m c hmn hc
    refine ⟨fun hne=>?_,fun hne=>?_⟩
    ·rw [ret_bind]; refine h.get hk fun lk hk1 hk2=>?_
     rw [Emk] at hk2
     rw [ret_bind]; refine hl2.get hc ?_
     have hnei:neI (m:Int) (k:Int)=some ():=by unfold neI; rw [if_neg (by omega)]
     rw [hnei,obs,ret_bind]
     refine (subtract_ok hp hm hl2 hk2 (fun j hj=>hr m j hmn hj) (fun j hj=>hr k j hk hj) hz hw).mono fun l' hl'=>?_
     rw [ret_bind,ret_set]
     refine ⟨by omega,by rw [h.1]; omega,_,rfl,by omega,nxt,?_⟩
     show Tb (T'.set (m:Int).toNat l') n w _
     rw [Int.toNat_natCast]
     refine (h.set hmn hl').congr fun r j hr hc=>?_
     by_cases e:r=m
     ·subst e; rw [up_in]; unfold Em; rw [if_pos ⟨he,by omega⟩]
     ·rw [up_out e]; unfold Em
      by_cases e2:r≠k∧r < m
      ·rw [if_pos e2,if_pos (by omega)]
      ·rw [if_neg e2,if_neg (by omega)]
    ·have h0:A m c=0:=by simpa using hne
     refine ⟨_,rfl,by omega,nxt,?_⟩
     refine h.congr fun r j hr' hc=>?_
     unfold Em
     by_cases e:r=m
     ·subst e
      rw [if_neg (by omega),if_pos ⟨he,by omega⟩,h0,Int.zero_mul,Int.sub_zero]
      have:=hr r j hr' hc
      rw [Int.emod_eq_of_lt this.1 this.2]
     ·by_cases e2:r≠k∧r < m
      ·rw [if_pos e2,if_pos (by omega)]
      ·rw [if_neg e2,if_neg (by omega)]
  ·show Tb T' n w _
   refine h.congr fun r j hr hc=>?_
   unfold Em
   by_cases e:r≠k∧r < m
   ·rw [if_pos e,if_pos (by omega)]
   ·rw [if_neg e,if_neg (by omega)]
theorem find_ok {T:List (List Int)} {A:Mx} (hT:Tb T n w A) {c:Nat} (hc:c < w) (hn:n≤1000):
  Ret (m_g0 T (c:Int)) (fun i=>(i= -1∧∀ r,r < n→A r c=0)∨∃ r:Nat,i=(r:Int)∧r < n∧A r c≠0):=by
 unfold m_g0
 rw [ret_bind]
 refine (ret_loop (Post:=fun o=>(o=.inl ()∧∀ r,r < n→A r c=0)∨∃ r:Nat,o=.inr (r:Int)∧r < n∧A r c≠0) n (fun k (i:Int)=>i=(k:Int)∧k≤n∧∀ r,r < k→A r c=0) ⟨rfl,by omega,fun r h=>absurd h (by omega)⟩ ?_ (by omega)).mono ?_
 ·rintro k _ hk ⟨rfl,hkn,h0⟩
  unfold m_gz m_gy
  rw [ret_if,hT.1]
  refine ⟨fun hlt=>?_,fun hge=>⟨_,rfl,.inl ⟨rfl,fun r hr=>h0 r (by omega)⟩⟩⟩
  have hkn:k < n:=by omega
  rw [ret_bind]; refine hT.get hkn fun l hl1 hl2=>?_
  rw [ret_bind,ret_bind]; refine hl2.get hc ?_
  rw [ret_some,ret_if]
  refine ⟨fun hne=>⟨_,rfl,.inr ⟨k,rfl,hkn,by simpa using hne⟩⟩,fun hne=>⟨_,rfl,by omega,by rw [wa_i (by omega) (by omega)]; rfl,by omega,fun r hr=>?_⟩⟩
  by_cases e:r=k
  ·subst e; simpa using hne
  ·exact h0 r (by omega)
 ·rintro o (⟨rfl,h⟩ | ⟨r,rfl,h1,h2⟩)
  ·exact ⟨_,rfl,.inl ⟨rfl,h⟩⟩
  ·exact ⟨_,rfl,.inr ⟨r,rfl,h1,h2⟩⟩
end
end Km
namespace Km
open Sx Go M Vc Dt
section
variable {p:Int} {n w:Nat} {A B:Mx} {col:Nat→Nat} {k c:Nat}
end
end Km
namespace Dt
section
open Sx Go M Vc Km
variable {p:Int} {n w:Nat} {A B:Mx} {col:Nat→Nat} {k c:Nat}
theorem Rre.none (h:Rre p n w B col k c) (hc:c < w) (hz:∀ r,k≤r→r < n→B r c=0):Rre p n w B col k (c+1) where
 kn:=h.kn
 cw:=hc
 lt:=fun s hs=>by have:=h.lt s hs; omega
 asc:=h.asc
 unit:=h.unit
 zero:=fun r j h1 h2 h3=>by
  by_cases e:j=c
  ·subst e; exact hz r h1 h2
  ·exact h.zero r j h1 h2 (by omega)
 rng:=h.rng
 lead:=h.lead
end
end Dt
namespace Km
open Sx Go M Vc Dt
section
variable {p:Int} {n w:Nat} {A B:Mx} {col:Nat→Nat} {k c:Nat}
end
end Km
namespace Dt
section
open Sx Go M Vc Km
variable {p:Int} {n w:Nat} {A B:Mx} {col:Nat→Nat} {k c:Nat}
theorem Rre.full (h:Rre p n w B col n c):Rre p n w B col n w where
 kn:=h.kn
 cw:=Nat.le_refl w
 lt:=fun s hs=>by have:=h.lt s hs; have:=h.cw; omega
 asc:=h.asc
 unit:=h.unit
 zero:=fun r j h1 h2 h3=>absurd h1 (by omega)
 rng:=h.rng
 lead:=h.lead
end
end Dt
namespace Km
open Sx Go M Vc Dt
section
variable {p:Int} {n w:Nat} {A B:Mx} {col:Nat→Nat} {k c:Nat}
def St3 (p:Int) (n:Nat) (B:Mx) (k c:Nat) (f:Int):Mx:=Em p (up B k (fun j=>B k j*f % p)) k c n
theorem St3.self {f:Int} {j:Nat}:St3 p n B k c f k j=B k j*f % p:=by
 unfold St3 Em; rw [if_neg (by omega),up_in]
theorem St3.oth {f:Int} {r j:Nat} (hr:r≠k) (hn:r < n):St3 p n B k c f r j=(B r j - B r c*(B k j*f % p)) % p:=by
 unfold St3 Em; rw [if_pos ⟨hr,hn⟩,up_out hr,up_out hr,up_in]
theorem St3.cg {f:Int} {r j:Nat} (hn:r < n):Cg p (St3 p n B k c f r j) (Dt.adds (up B k (fun c=>f*B k c)) k (fun r=>-(B r c)) n r j):=by
 by_cases hr:r=k
 ·subst hr
  rw [St3.self,adds_out (by omega),up_in,Int.mul_comm]
  exact Cg.mod p _
 ·rw [St3.oth hr hn,adds_in ⟨hr,hn⟩,up_out hr,up_in]
  refine (Cg.mod p _).trans ?_
  have:B r j+ -(B r c)*(f*B k j)=B r j - B r c*(B k j*f):=by
   rw [Int.neg_mul,Int.mul_comm f]; rfl
  rw [this]
  exact (Cg.refl p _).sub ((Cg.refl p _).mul (Cg.mod p _))
theorem sw_low (h:Rre p n w B col k c) {t:Nat} (hk:k < n) (hkt:k≤t) (ht:t < n):∀ s r,s < k→r < n→sw B k t r (col s)=if r=s then 1 else 0:=by
 intro s r hs hr
 unfold sw
 by_cases h1:r=k
 ·rw [if_pos h1,h.unit s t hs ht,if_neg (by omega),if_neg (by omega)]
 ·rw [if_neg h1]
  by_cases h2:r=t
  ·rw [if_pos h2,h.unit s k hs hk,if_neg (by omega),if_neg (by omega)]
  ·rw [if_neg h2]; exact h.unit s r hs hr
theorem sw_zero (h:Rre p n w B col k c) {t:Nat} (hk:k < n) (hkt:k≤t) (ht:t < n):∀ r j,k≤r→r < n→j < c→sw B k t r j=0:=by
 intro r j h1 h2 h3
 unfold sw
 split
 ·exact h.zero t j hkt ht h3
 ·split
  ·exact h.zero k j (Nat.le_refl k) hk h3
  ·exact h.zero r j h1 h2 h3
end
end Km
namespace Dt
section
open Sx Go M Vc Km
variable {p:Int} {n w:Nat} {A B:Mx} {col:Nat→Nat} {k c:Nat}
theorem Rre.next (hp:2≤p) (h:Rre p n w B col k c) (hc:c < w) {t:Nat} (hk:k < n) (hkt:k≤t) (ht:t < n) {f:Int} (hf:sw B k t k c*f % p=1):
  Rre p n w (St3 p n (sw B k t) k c f) (fun s=>if s=k then c else col s) (k+1) (c+1):=by
 have pv:∀ r,r < n→r≠k→St3 p n (sw B k t) k c f r c=0:=by
  intro r hr hne
  rw [St3.oth hne hr,hf,Int.mul_one,Int.sub_self,Int.zero_emod]
 have lo:=sw_low h hk hkt ht
 have ze:=sw_zero h hk hkt ht
 have kc:∀ s,s < k→sw B k t s=B s:=by
  intro s hs; funext j; unfold sw; rw [if_neg (by omega),if_neg (by omega)]
 refine ⟨hk,hc,fun s hs=>?_,fun s u h1 h2=>?_,fun s r hs hr=>?_,fun r j h1 h2 h3=>?_,fun r j h1 h2=>?_,fun s j hs hj=>?_⟩
 ·split
  ·omega
  ·have:=h.lt s (by omega); omega
 ·rw [if_neg (show s≠k by omega)]
  split
  ·exact h.lt s (by omega)
  ·exact h.asc s u h1 (by omega)
 ·by_cases e:s=k
  ·subst e
   rw [if_pos rfl]
   by_cases e2:r=s
   ·subst e2; rw [if_pos rfl,St3.self]; exact hf
   ·rw [if_neg e2]; exact pv r hr e2
  ·rw [if_neg e]
   by_cases e2:r=k
   ·subst e2
    rw [St3.self,lo s r (by omega) hk,if_neg (by omega),Int.zero_mul,Int.zero_emod]
   ·rw [St3.oth e2 hr,lo s k (by omega) hk,if_neg (by omega),Int.zero_mul,Int.zero_emod,Int.mul_zero,Int.sub_zero,lo s r (by omega) hr]
    split
    ·exact Int.emod_eq_of_lt (by omega) (by omega)
    ·exact Int.zero_emod p
 ·by_cases e:j=c
  ·subst e; exact pv r h2 (by omega)
  ·rw [St3.oth (by omega) h2,ze r j (by omega) h2 (by omega),ze k j (Nat.le_refl k) hk (by omega),Int.zero_mul,Int.zero_emod,Int.mul_zero,Int.sub_zero,Int.zero_emod]
 ·by_cases e:r=k
  ·subst e; rw [St3.self]; exact mod_rng _ (by omega)
  ·rw [St3.oth e h1]; exact mod_rng _ (by omega)
 ·by_cases e:s=k
  ·subst e
   rw [if_pos rfl] at hj
   rw [St3.self,ze s j (Nat.le_refl s) hk hj,Int.zero_mul,Int.zero_emod]
  ·rw [if_neg e] at hj
   have:=h.lt s (by omega)
   rw [St3.oth e (by omega),ze k j (Nat.le_refl k) hk (by omega),Int.zero_mul,Int.zero_emod,Int.mul_zero,Int.sub_zero,kc s (by omega),h.lead s j (by omega) hj,Int.zero_emod]
end
end Dt
namespace Km
open Sx Go M Vc Dt
section
variable {p:Int} {n w:Nat} {A B:Mx} {col:Nat→Nat} {k c:Nat}
theorem sw_self (B:Mx) (k:Nat):sw B k k=B:=by
 funext r c; unfold sw; split
 ·rename_i h; rw [h]
 ·rfl
theorem Rq.sw3 {t:Nat} (hk:k < n) (ht:t < n) {f:Int} (hf:Cg p (sw B k t k c*f) 1):Rq p n w B (St3 p n (sw B k t) k c f):=by
 refine (Rq.sw B hk ht).trans ((Rq.step (Dt.sw B k t) hk hf fun r=>-(Dt.sw B k t r c)).trans (Rq.cg fun r j hr _=>(St3.cg hr).symm))
theorem det_next {t:Nat} (hk:k < n) (ht:t < n) {f d q:Int} (hf:Cg p (sw B k t k c*f) 1) (hd:Cg p d (q*det n B)):Cg p d (((if t=k then q else -q)*sw B k t k c)*det n (St3 p n (sw B k t) k c f)):=by
 have h1:Cg p (det n (St3 p n (sw B k t) k c f)) (f*det n (sw B k t)):=by
  rw [← det_step (Dt.sw B k t) hk f (fun r=>-(Dt.sw B k t r c))]
  exact Cg.det fun r j hr _=>St3.cg hr
 have h2:(if t=k then q else -q)*det n (sw B k t)=q*det n B:=by
  split
  ·rename_i e; subst e; rw [sw_self]
  ·rename_i e
   rw [(det_am n).swap hk ht (by omega) B,Int.neg_mul_neg]
 have h3:Cg p (((if t=k then q else -q)*sw B k t k c)*det n (St3 p n (sw B k t) k c f)) (q*det n B):=by
  refine ((Cg.refl p _).mul h1).trans ?_
  have e:(if t=k then q else -q)*sw B k t k c*(f*det n (sw B k t))=(sw B k t k c*f)*((if t=k then q else -q)*det n (sw B k t)):=by grind
  rw [e,h2]
  have:=hf.mul (Cg.refl p (q*det n B))
  rwa [Int.one_mul] at this
 exact hd.trans h3.symm
end
def Pv (l:List Int) (k:Nat) (col:Nat→Nat):Prop:=l.length=k∧∀ s,s < k→l[s]?=some (col s:Int)
theorem Pv.push {l:List Int} {k c:Nat} {col:Nat→Nat} (h:Pv l k col):Pv (l++[(c:Int)]) (k+1) (fun s=>if s=k then c else col s):=by
 refine ⟨by simp [h.1],fun s hs=>?_⟩
 by_cases e:s=k
 ·subst e; simp only [if_true]; rw [List.getElem?_append_right (by rw [h.1]; omega),h.1,Nat.sub_self]; rfl
 ·rw [List.getElem?_append_left (by rw [h.1]; omega),h.2 s (by omega)]; simp only [e,if_false]
theorem Tb.drop {n w:Nat} {T:List (List Int)} {A:Mx} (h:Tb T n w A) (k:Nat) (hk:k≤n):Tb ((T.take n).drop k) (n - k) w (fun r=>A (k+r)):=by
 refine ⟨by rw [List.length_drop,List.length_take,h.1]; omega,fun r hr=>?_⟩
 obtain ⟨l,h1,h2⟩:=h.2 (k+r) (by omega)
 exact ⟨l,by rw [List.getElem?_drop,List.getElem?_take,if_pos (by omega)]; exact h1,h2⟩
def Ech (p:Int) (n w:Nat) (A:Mx) (o:List (List Int)×List Int×Int) (k:Nat) (B:Mx) (col:Nat→Nat) (c:Nat):Prop:=
 Tb o.1 n w B∧Rre p n w B col k c∧Rq p n w A B∧Pv o.2.1 k col∧(0≤o.2.2∧o.2.2 < p)∧Cg p (det n A) (o.2.2*det n B)∧∃ u,Cg p (o.2.2*u) 1
theorem echelon_ok {p:Int} (hP:PP p) {n w:Nat} (hn:0 < n) (hn2:n≤1000) (hw:w≤1000) {T:List (List Int)} {A:Mx} (hT:Tb T n w A) (hA:∀ r j,r < n→j < w→0≤A r j∧A r j < p):
  Ret (m_hd T p) (fun o=>∃ k B col,Ech p n w A o k B col w):=by
 have hp:=hP.two
 have hm:=hP.max
 unfold m_hd m_gn
 rw [ret_bind,ret_if,hT.1]
 refine ⟨fun h=>absurd h (by omega),fun _=>?_⟩
 rw [ret_bind]
 have hg:=hT.get hn (Q:=fun l=>l.length=w) (fun l _ hl=>hl.1)
 refine hg.mono fun l0 hl0=>?_
 rw [ret_some,hl0,ret_bind]
 refine (ret_loop (Post:=fun o=>∃ k B col,Ech p n w A o k B col w) w (fun c (s:List (List Int)×List Int×Int×Int)=>s.2.2.2=(c:Int)∧∃ k B col,Ech p n w A (s.1,s.2.1,s.2.2.1) k B col c) ⟨rfl,0,A,fun _=>0,hT,⟨by omega,by omega,fun s h=>absurd h (by omega),fun s t h1 h2=>absurd h2 (by omega),fun s r h=>absurd h (by omega),fun r j _ _ h=>absurd h (by omega),hA,fun s j h=>absurd h (by omega)⟩,Rq.refl _ _ _ _,⟨rfl,fun s h=>absurd h (by omega)⟩,⟨by show (0:Int)≤1; omega,by show (1:Int) < p; omega⟩,⟨by show Cg p _ (1*_); rw [Int.one_mul]; exact .refl _ _,1,.refl _ _⟩⟩ ?_ (by omega)).mono ?_
 ·rintro c ⟨T',pv,q,_⟩ hcw ⟨rfl,k,B,col,h1,h2,h3,h4,h5,h6⟩
  simp only at h1 h4 h5 h6
  unfold m_hc m_g7
  simp only
  have hkn:=h2.kn
  rw [ret_if]
  refine ⟨fun hlt=>?_,fun hge=>⟨_,rfl,k,B,col,h1,(by have e:c=w:=(by omega); subst e; exact h2),h3,h4,h5,h6⟩⟩
  have hcw:c < w:=by omega
  have nxt:wa .i64 (c:Int) 1=((c+1:Nat):Int):=by rw [wa_i (by omega) (by omega)]; rfl
  rw [ret_if,h4.1,h1.1]
  refine ⟨fun he=>⟨_,rfl,k,B,col,h1,(by have e:k=n:=(by omega); subst e; exact h2.full),h3,h4,h5,h6⟩,fun he=>?_⟩
  have hkn:k < n:=by omega
  rw [ret_bind,ret_sli]
  refine ⟨by omega,by omega,by rw [h1.1]; omega,?_⟩
  rw [Int.toNat_natCast,Int.toNat_natCast,ret_bind]
  refine (find_ok (h1.drop k (by omega)) hcw (by omega)).mono fun i hi=>?_
  rw [wa_i (by rcases hi with ⟨rfl,_⟩ | ⟨r,rfl,_⟩<;>omega) (by rcases hi with ⟨rfl,_⟩ | ⟨r,rfl,h,_⟩<;>omega)]
  rw [ret_if]
  refine ⟨fun hlo=>?_,fun hlo=>?_⟩
  ·obtain ⟨rfl,hz⟩:i= -1∧∀ r,r < n - k→B (k+r) c=0:=by
    rcases hi with h | ⟨r,rfl,_⟩
    ·exact h
    ·omega
   refine ⟨_,rfl,by omega,nxt,k,B,col,h1,h2.none hcw (fun r hr1 hr2=>?_),h3,h4,h5,h6⟩
   have:=hz (r - k) (by omega)
   rwa [show k+(r - k)=r by omega] at this
  ·obtain ⟨r,rfl,hr,hne⟩:∃ r:Nat,i=(r:Int)∧r < n - k∧B (k+r) c≠0:=by
    rcases hi with ⟨rfl,_⟩ | h
    ·omega
    ·exact h
   have key:∀ (T1:List (List Int)) (q1:Int),Tb T1 n w (sw B k (k+r))→(0≤q1∧q1 < p)→Cg p q1 (if k+r=k then q else -q)→
     Ret (m_hb pv (c:Int) p T1 q1) (VQ (fun t':List (List Int)×List Int×Int×Int=>c < w∧t'.2.2.2=((c+1:Nat):Int)∧∃ k B col,Ech p n w A (t'.1,t'.2.1,t'.2.2.1) k B col (c+1)) (fun o=>∃ k B col,Ech p n w A o k B col w)):=by
    intro T1 q1 hT1 hq1 hqq
    have hB1:∀ r' j,r' < n→j < w→0≤sw B k (k+r) r' j∧sw B k (k+r) r' j < p:=by
     intro r' j hr' hj
     unfold sw
     split
     ·exact h2.rng _ _ (by omega) hj
     ·split
      ·exact h2.rng _ _ hkn hj
      ·exact h2.rng _ _ hr' hj
    have hpv:sw B k (k+r) k c=B (k+r) c:=by unfold sw; rw [if_pos rfl]
    have hb:=hB1 k c hkn hcw
    obtain ⟨f,hf1,hf2,hf3⟩:=inverse_ok hP (a:=sw B k (k+r) k c) ⟨by rw [hpv] at hb ⊢; omega,hb.2⟩
    have hfc:Cg p (sw B k (k+r) k c*f) 1:=by
     have e1:(1:Int) % p=1:=Int.emod_eq_of_lt (by omega) (by omega)
     exact Cg.iff.2 (by rw [hf3,e1])
    unfold m_hb
    rw [h4.1,ret_bind]; refine hT1.get hkn fun l1 hl1 hl1'=>?_
    rw [ret_bind]; refine hl1'.get hcw ?_
    rw [wmr hm hq1 hb,obs,ret_bind]; refine hT1.get hkn fun l2 hl2 hl2'=>?_
    rw [ret_bind]; refine hl2'.get hcw ?_
    rw [hf1,obs,ret_bind]; refine hT1.get hkn fun l3 hl3 hl3'=>?_
    rw [ret_bind]
    refine (scale_ok (by omega) hm hT1 hkn (fun j hj=>hB1 k j hkn hj) hf2 hl3'.1 h4.1 hw).mono fun T2 hT2=>?_
    rw [ret_bind]
    refine (elim_ok (by omega) hm hT2 hkn hcw (fun r' j hr' hj=>?_) hT2.1 h4.1 hw hn2).mono fun T3 hT3=>?_
    ·by_cases e:r'=k
     ·subst e; rw [up_in]; exact mod_rng _ (by omega)
     ·rw [up_out e]; exact hB1 r' j hr' hj
    rw [ret_bind,ret_app]
    have:=h2.kc
    refine ⟨by rw [h4.1]; simp only [List.length_cons,List.length_nil]; omega,_,rfl,hcw,nxt,k+1,_,_,hT3,h2.next hp hcw hkn (by omega) (by omega) hf3,h3.trans (Rq.sw3 hkn (by omega) hfc),h4.push,mod_rng _ (by omega),?_,?_⟩
    ·refine (det_next hkn (show k+r < n by omega) hfc h6.1).trans ?_
     refine Cg.mul ?_ (Cg.refl p _)
     exact ((hqq.symm.mul (Cg.refl p _))).trans (Cg.mod p _).symm
    ·obtain ⟨u,hu⟩:=h6.2
     refine ⟨(if k+r=k then u else -u)*f,?_⟩
     have e1:Cg p (q1*(if k+r=k then u else -u)) 1:=by
      refine (hqq.mul (Cg.refl p _)).trans ?_
      split
      ·exact hu
      ·rw [Int.neg_mul_neg]; exact hu
     have e2:=e1.mul hfc
     rw [Int.one_mul] at e2
     refine ((Cg.mod p _).mul (Cg.refl p _)).trans ?_
     have e3:q1*sw B k (k+r) k c*((if k+r=k then u else -u)*f)=q1*(if k+r=k then u else -u)*(sw B k (k+r) k c*f):=by grind
     show Cg p (q1*sw B k (k+r) k c*((if k+r=k then u else -u)*f)) 1
     rw [e3]; exact e2
   rw [ret_if]
   refine ⟨fun hgt=>?_,fun hgt=>?_⟩
   ·have hr0:0 < r:=by omega
    have ecast:(k:Int)+(r:Int)=((k+r:Nat):Int):=by omega
    rw [ecast,ret_bind]; refine h1.get (show k+r < n by omega) fun la hla hla'=>?_
    rw [ret_bind]; refine h1.get hkn fun lk hlk hlk'=>?_
    rw [ret_bind,ret_set]
    refine ⟨by omega,by rw [h1.1]; omega,?_⟩
    rw [ret_bind,ret_set]
    refine ⟨by omega,by rw [List.length_set,h1.1]; omega,?_⟩
    rw [mod_ok (by omega) hm,obs]
    refine key _ _ ?_ (mod_rng _ (by omega)) ?_
    ·rw [Int.toNat_natCast,Int.toNat_natCast]
     refine ((h1.set hkn hla').set (show k+r < n by omega) hlk').congr fun r' j _ _=>?_
     unfold sw up
     by_cases e1:r'=k
     ·rw [if_neg (by omega),if_pos e1,if_pos e1]
     ·by_cases e2:r'=k+r
      ·rw [if_pos e2,if_neg e1,if_pos e2]
      ·rw [if_neg e2,if_neg e1,if_neg e1,if_neg e2]
    ·rw [if_neg (by omega)]
     have:wneg .i64 q= -q:=IntWalk.i64_in _ ⟨by omega,by omega⟩
     rw [this]
     exact Cg.mod p _
   ·have hr0:r=0:=by omega
    subst hr0
    refine key _ _ ?_ h5 ?_
    ·rw [Nat.add_zero,sw_self]; exact h1
    ·rw [if_pos (Nat.add_zero k)]; exact .refl _ _
 ·rintro ⟨T',pv,q⟩ h
  exact ⟨_,rfl,h⟩
end Km
namespace Km
open Sx Go M Vc Dt
theorem sqd {i:Int} (h2:2≤i) (h3:i≤46342):0≤i*i∧i*i≤46342*46342:=⟨Int.mul_nonneg (by omega) (by omega),Int.mul_le_mul h3 h3 (by omega) (by omega)⟩
theorem isPrime_ok {p:Int} (hP:PP p):m_gb p=some true:=by
 have hp:=hP.two
 have hm:=hP.max
 refine Ret.eq ?_
 unfold m_gb
 rw [ret_if]
 refine ⟨fun h=>?_,fun _=>?_⟩
 ·simp only [Bool.or_eq_true,decide_eq_true_eq] at h; omega
 ·rw [ret_bind]
  refine (ret_loopM (Post:=fun o=>o=.inl ()) (fun i=>2≤i∧i≤46342) (fun i=>(46342 - i).toNat) (by decide) (by decide) ?_).mono ?_
  ·rintro i ⟨h2,h3⟩
   obtain ⟨h4,h5⟩:=sqd h2 h3
   unfold m_ga
   rw [wm_i (by omega) (by omega)]
   split
   ·rename_i hle
    have h6:i≤46341:=by
     refine Classical.byContradiction fun hc=>?_
     obtain rfl:i=46342:=by omega
     omega
    rw [wr_nn (by omega) (by omega),obs]
    split
    ·rename_i h0
     exfalso
     have hd:i ∣ p:=Int.dvd_of_emod_eq_zero h0
     obtain ⟨P,rfl⟩:=Int.eq_ofNat_of_zero_le (show 0≤p by omega)
     obtain ⟨I,rfl⟩:=Int.eq_ofNat_of_zero_le (show 0≤i by omega)
     have hd':I ∣ P:=by exact_mod_cast hd
     have:=hP.prm.div I (by simpa using hd')
     rw [Int.toNat_natCast] at this
     rcases this with e | e
     ·omega
     ·subst e
      have:(I:Int)*2≤(I:Int)*(I:Int):=Int.mul_le_mul_of_nonneg_left (by omega) (by omega)
      omega
    ·refine ⟨_,rfl,?_⟩
     rw [wa_i (by omega) (by omega)]
     exact ⟨⟨by omega,by omega⟩,by show (46342 - (i+1)).toNat < (46342 - i).toNat; omega⟩
   ·exact ⟨_,rfl,rfl⟩
  ·rintro _ rfl
   exact ⟨_,rfl,rfl⟩
section
variable {p:Int} {n w:Nat} {T:List (List Int)} {X:Mx}
theorem columns_ok (hn:0 < n) (hT:Tb T n w X):m_gn T=some (w:Int):=by
 refine Ret.eq ?_
 unfold m_gn
 rw [ret_if,hT.1]
 refine ⟨fun h=>absurd h (by omega),fun _=>?_⟩
 rw [ret_bind]
 refine (hT.get hn (Q:=fun l=>l.length=w) (fun l _ hl=>hl.1)).mono fun l hl=>?_
 rw [ret_some,hl]
theorem check_ok (hP:PP p) (hn:0 < n) (hn2:n≤200) (hw:w≤200) (hT:Tb T n w X):m_gs T p=some 0:=by
 refine Ret.eq ?_
 unfold m_gs
 rw [columns_ok hn hT,obs,isPrime_ok hP,obs,if_pos rfl,ret_bind]
 have hc:m_gr T (w:Int)=some false:=by
  refine Ret.eq ?_
  unfold m_gr m_gq
  rw [ret_bind,ret_bind]
  refine (ret_loop (Post:=fun o=>o=.inl ()) n (fun k (i:Int)=>i=(k:Int)) rfl ?_ (by omega)).mono ?_
  ·rintro k _ hk rfl
   unfold m_gp m_go
   rw [ret_if,hT.1]
   refine ⟨fun hlt=>?_,fun _=>⟨_,rfl,rfl⟩⟩
   rw [ret_bind]; refine hT.get (show k < n by omega) fun l _ hl=>?_
   rw [obs,hl.1,if_neg (by simp)]
   exact ⟨_,rfl,by omega,by rw [wa_i (by omega) (by omega)]; rfl⟩
  ·rintro _ rfl
   exact ⟨_,rfl,_,rfl,rfl⟩
 rw [ret_of hc,if_neg (by simp),hT.1,if_neg (by simp; omega),ret_some]
theorem reduced_ok (hp:0 < p) (hm:p≤2147483647) (hn2:n≤1000) (hw:w≤1000) (hT:Tb T n w X):Ret (m_gx T p) (fun R=>Tb R n w (fun r c=>X r c % p)):=by
 unfold m_gx
 rw [ret_bind]
 refine (ret_loop (Post:=fun R=>Tb R n w (fun r c=>X r c % p)) n (fun k (s:List (List Int)×Int)=>s.2=(k:Int)∧Tb s.1 k w (fun r c=>X r c % p)) ⟨rfl,rfl,fun r h=>absurd h (by omega)⟩ ?_ (by omega)).mono fun R h=>⟨_,rfl,h⟩
 rintro k ⟨R,_⟩ hk ⟨rfl,h⟩
 unfold m_gw
 simp only at h ⊢
 rw [ret_if,hT.1]
 refine ⟨fun hlt=>?_,fun _=>⟨_,rfl,by show Tb R n w _; have:k=n:=(by omega); exact this▸h⟩⟩
 have hkn:k < n:=by omega
 rw [ret_bind]; refine hT.get hkn fun l _ hl=>?_
 rw [ret_bind]
 refine (ret_loop (Post:=fun o=>Ln o w (fun c=>X k c % p)) w (fun j (s:List Int×Int)=>s.2=(j:Int)∧Ln s.1 j (fun c=>X k c % p)) ⟨rfl,rfl,fun c h=>absurd h (by omega)⟩ ?_ (by omega)).mono fun o ho=>?_
 ·rintro j ⟨o,_⟩ hj ⟨rfl,ho⟩
  unfold m_gv
  simp only at ho ⊢
  rw [ret_if,hl.1]
  refine ⟨fun hlt=>?_,fun _=>⟨_,rfl,by show Ln o w _; have:j=w:=(by omega); exact this▸ho⟩⟩
  rw [ret_bind]; refine hl.get (show j < w by omega) ?_
  rw [mod_ok hp hm,obs,ret_bind,ret_app]
  refine ⟨by rw [ho.1]; simp only [List.length_cons,List.length_nil]; omega,_,rfl,by omega,by show wa .i64 (j:Int) 1=_; rw [wa_i (by omega) (by omega)]; rfl,by show (o++[_]).length=j+1; rw [List.length_append,ho.1]; rfl,fun c hc=>?_⟩
  show (o++[X k j % p])[c]?=_
  by_cases e:c=j
  ·subst e; rw [List.getElem?_append_right (by rw [ho.1]; omega),ho.1,Nat.sub_self]; rfl
  ·rw [List.getElem?_append_left (by rw [ho.1]; omega),ho.2 c (by omega)]
 ·rw [ret_bind,ret_app]
  refine ⟨by rw [h.1]; simp only [List.length_cons,List.length_nil]; omega,_,rfl,by omega,by show wa .i64 (k:Int) 1=_; rw [wa_i (by omega) (by omega)]; rfl,by show (R++[_]).length=k+1; rw [List.length_append,h.1]; rfl,fun r hr=>?_⟩
  show ∃ l,(R++[o])[r]?=some l∧_
  by_cases e:r=k
  ·subst e; exact ⟨o,by rw [List.getElem?_append_right (by rw [h.1]; omega),h.1,Nat.sub_self]; rfl,ho⟩
  ·obtain ⟨l,h1,h2⟩:=h.2 r (by omega)
   exact ⟨l,by rw [List.getElem?_append_left (by rw [h.1]; omega)]; exact h1,h2⟩
def Rd (p:Int) (X:Mx):Mx:=fun r c=>X r c % p
theorem ech_ex (hP:PP p) (hn:0 < n) (hn2:n≤200) (hw:w≤201) (hT:Tb T n w X):∃ R o,m_gx T p=some R∧Tb R n w (Rd p X)∧m_hd R p=some o∧∃ k B col,Ech p n w (Rd p X) o k B col w:=by
 have hp:=hP.two
 obtain ⟨R,h1,h2⟩:=reduced_ok (p:=p) (by omega) hP.max (by omega) (by omega) hT
 obtain ⟨o,h3,h4⟩:=echelon_ok hP hn (by omega) (by omega) h2 fun r j _ _=>mod_rng _ (by omega)
 exact ⟨R,o,h1,h2,h3,h4⟩
theorem rank_eq (hP:PP p) (hn:0 < n) (hn2:n≤200) (hw:w≤200) (hT:Tb T n w X) {R:List (List Int)} {o:List (List Int)×List Int×Int} (hR:m_gx T p=some R) (hE:m_hd R p=some o):m_he T p=some ((o.2.1.length:Int),0):=by
 unfold m_he
 rw [check_ok hP hn hn2 hw hT,obs,if_pos rfl,hR,obs,hE,obs]
end
end Km
namespace Km
open Sx Go M Vc Dt
section
variable {p:Int} {n:Nat} {T:List (List Int)} {X Y:Mx}
theorem squareD_ok (hP:PP p) (hn:0 < n) (hn2:n≤200) (hT:Tb T n n X):m_i0 T p=some 0:=by
 unfold m_i0
 rw [check_ok hP hn hn2 hn2 hT,obs,if_pos rfl,columns_ok hn hT,obs,obs,hT.1,if_neg (by simp)]
end
end Km
namespace Dt
section
open Sx Go M Vc Km
variable {p:Int} {n:Nat} {T:List (List Int)} {X Y:Mx}
theorem Rre.id {B:Mx} {col:Nat→Nat} (h:Rre p n n B col n n):∀ s,s < n→col s=s:=by
 intro s hs
 have h1:=h.ge s hs
 have h2:∀ d,s+d < n→col s+d≤col (s+d):=by
  intro d
  induction d with
  | zero=>intro _; exact Nat.le_refl _
  | succ d ih=>intro hd; have:=h.asc (s+d) (s+(d+1)) (by omega) (by omega); have:=ih (by omega); omega
 have h3:=h2 (n - 1 - s) (by omega)
 have h4:=h.lt (n - 1) (by omega)
 rw [show s+(n - 1 - s)=n - 1 by omega] at h3
 omega
end
end Dt
namespace Km
open Sx Go M Vc Dt
section
variable {p:Int} {n:Nat} {T:List (List Int)} {X Y:Mx}
theorem det_zrow {B:Mx} {r:Nat} (hr:r < n) (hz:∀ j,j < n→B r j=0):det n B=0:=by
 have h1:=(det_am n).scale hr B 0
 rw [Int.zero_mul] at h1
 rw [← h1]
 refine det_congr fun i j hi hj=>?_
 by_cases e:i=r
 ·subst e; rw [up_in,Int.zero_mul,hz j hj]
 ·rw [up_out e]
theorem det_ok (hP:PP p) (hn:0 < n) (hn2:n≤200) (hT:Tb T n n X):∃ d R o,m_i1 T p=some (d,0)∧(0≤d∧d < p)∧Cg p (det n X) d∧m_gx T p=some R∧m_hd R p=some o∧(d≠0↔o.2.1.length=n):=by
 have hp:=hP.two
 obtain ⟨R,o,hR,hRT,hEo,k,B,col,e1,e2,e3,e4,e5,e6,u,hu⟩:=ech_ex hP hn hn2 (by omega) hT
 have hX:Cg p (det n X) (det n (Rd p X)):=Cg.det fun i j _ _=>(Cg.mod p _).symm
 have hkn:=e2.kn
 by_cases hk:k=n
 ·subst hk
  refine ⟨o.2.2,R,o,?_,e5,?_,hR,hEo,⟨fun _=>e4.1,fun _ h0=>?_⟩⟩
  ·unfold m_i1
   rw [squareD_ok hP hn hn2 hT,obs,if_pos rfl,hR,obs,hEo,obs,e4.1,hT.1,if_neg (by omega)]
  ·have h1:det k B=1:=by
    rw [← det_one k]
    refine det_congr fun i j hi hj=>?_
    have:=e2.unit j i hj hi
    rw [e2.id j hj] at this
    rw [this]; rfl
   rw [h1,Int.mul_one] at e6
   exact hX.trans e6
  ·rw [h0,Int.zero_mul] at hu
   have:=Cg.iff.1 hu
   rw [Int.zero_emod,Int.emod_eq_of_lt (by omega) (by omega)] at this
   omega
 ·refine ⟨0,R,o,?_,⟨by omega,by omega⟩,?_,hR,hEo,⟨fun h=>absurd rfl h,fun h=>absurd (e4.1.symm.trans h) hk⟩⟩
  ·unfold m_i1
   rw [squareD_ok hP hn hn2 hT,obs,if_pos rfl,hR,obs,hEo,obs,e4.1,hT.1,if_pos (by omega)]
  ·have h1:det n B=0:=det_zrow (r:=n - 1) (by omega) fun j hj=>e2.zero (n - 1) j (by omega) (by omega) hj
   rw [h1,Int.mul_zero] at e6
   exact hX.trans e6
theorem det_nil (hP:PP p):m_i1 [] p=some (1,0):=by
 unfold m_i1 m_i0 m_gs
 have h1:m_gn []=some 0:=rfl
 have h2:m_gr [] 0=some false:=by kernel_rfl
 have h3:m_gx [] p=some []:=by
  refine Ret.eq ?_
  unfold m_gx
  rw [ret_bind]
  refine (ret_loop (Post:=fun R=>R=[]) 0 (fun k (s:List (List Int)×Int)=>s=([],0)) rfl ?_ (by omega)).mono fun R h=>⟨_,rfl,h⟩
  rintro k _ hk rfl
  exact ⟨_,rfl,rfl⟩
 have h4:m_hd [] p=some ([],[],1):=by
  refine Ret.eq ?_
  unfold m_hd
  rw [h1,obs,ret_bind]
  refine (ret_loop (Post:=fun o=>o=([],[],1)) 0 (fun k (s:List (List Int)×List Int×Int×Int)=>s=([],[],1,0)) rfl ?_ (by omega)).mono fun o h=>by subst h; exact ⟨_,rfl,rfl⟩
  rintro k _ hk rfl
  exact ⟨_,rfl,rfl⟩
 rw [h1,obs,isPrime_ok hP,obs,if_pos rfl,h2,obs,if_neg (by simp),if_neg (by decide),obs,if_pos rfl,obs,obs,if_neg (by decide),obs,if_pos rfl,h3,obs,h4,obs]
 rfl
end
end Km
namespace Km
open Sx Go M Vc Lm Dt
theorem sqb {i:Int} (h2:2≤i) (h3:i≤46342):0≤i*i∧i*i≤46342*46342:=⟨Int.mul_nonneg (by omega) (by omega),Int.mul_le_mul h3 h3 (by omega) (by omega)⟩
theorem isPrime_cases (x:Int):m_gb x=some false∨(m_gb x=some true∧PP x):=by
 by_cases hx:x < 2∨2147483647 < x
 ·refine .inl ?_
  unfold m_gb
  rw [if_pos (by simpa using hx)]
 ·have hx:2≤x∧x≤2147483647:=by omega
  obtain ⟨P,rfl⟩:=Int.eq_ofNat_of_zero_le (show 0≤x by omega)
  have h:Ret (loop (m_ga (P:Int)) 2) (fun o=>o=.inl ()→∀ d,2≤d→d*d≤P→¬ d ∣ P):=by
   refine ret_loopM (fun i=>(2≤i∧i≤46342)∧∀ d:Nat,2≤d→(d:Int) < i→¬ d ∣ P) (fun i=>(46342 - i).toNat) ⟨by decide,fun d h1 h2=>absurd h2 (by omega)⟩ (by decide) ?_
   rintro i ⟨⟨h2,h3⟩,h0⟩
   obtain ⟨h4,h5⟩:=sqb h2 h3
   unfold m_ga
   rw [wm_i (by omega) (by omega)]
   split
   ·rename_i hle
    have h6:i≤46341:=by
     refine Classical.byContradiction fun hc=>?_
     obtain rfl:i=46342:=by omega
     omega
    rw [wr_nn (by omega) (by omega),obs]
    split
    ·exact ⟨_,rfl,fun h=>by cases h⟩
    ·rename_i hne
     refine ⟨_,rfl,?_⟩
     rw [wa_i (by omega) (by omega)]
     refine ⟨⟨⟨by omega,by omega⟩,fun d hd1 hd2 hd3=>?_⟩,by show (46342 - (i+1)).toNat < (46342 - i).toNat; omega⟩
     by_cases e:(d:Int)=i
     ·apply hne
      rw [← e]
      exact Int.emod_eq_zero_of_dvd (by exact_mod_cast hd3)
     ·exact h0 d hd1 (by omega) hd3
   ·rename_i hgt
    refine ⟨_,rfl,fun _ d hd1 hd2=>h0 d hd1 ?_⟩
    refine Classical.byContradiction fun hc=>?_
    have:i*i≤(d:Int)*(d:Int):=Int.mul_le_mul (by omega) (by omega) (by omega) (by omega)
    have h9:((d*d:Nat):Int)≤(P:Int):=by omega
    simp at h9
    omega
  obtain ⟨o,ho,hpo⟩:=h
  unfold m_gb
  rw [if_neg (by simp; omega),ho,obs]
  cases o with
  | inr u=>exact .inl rfl
  | inl u=>exact .inr ⟨rfl,hx.1,hx.2,Nt.Prm.of (by rw [Int.toNat_natCast]; omega) (by rw [Int.toNat_natCast]; exact hpo rfl)⟩
theorem pp_true {p:Int} (hp:PP p):m_gb p=some true:=by
 rcases isPrime_cases p with h | ⟨h,_⟩
 ·exfalso
  unfold m_gb at h
  have h2:=hp.two
  have h3:=hp.max
  rw [if_neg (by simp; omega)] at h
  obtain ⟨P,rfl⟩:=Int.eq_ofNat_of_zero_le (show 0≤p by omega)
  have key:Ret (loop (m_ga (P:Int)) 2) (fun o=>o=.inl ()):=by
   refine ret_loopM (fun i=>2≤i∧i≤46342) (fun i=>(46342 - i).toNat) (by decide) (by decide) ?_
   rintro i ⟨h2,h3⟩
   obtain ⟨h4,h5⟩:=sqb h2 h3
   unfold m_ga
   rw [wm_i (by omega) (by omega)]
   split
   ·rename_i hle
    have h6:i≤46341:=by
     refine Classical.byContradiction fun hc=>?_
     obtain rfl:i=46342:=by omega
     omega
    rw [wr_nn (by omega) (by omega),obs]
    split
    ·rename_i h0
     exfalso
     have hd:i ∣ (P:Int):=Int.dvd_of_emod_eq_zero h0
     obtain ⟨I,rfl⟩:=Int.eq_ofNat_of_zero_le (show 0≤i by omega)
     have hd':I ∣ P:=by exact_mod_cast hd
     have:=hp.prm.div I (by simpa using hd')
     rw [Int.toNat_natCast] at this
     rcases this with e | e
     ·omega
     ·subst e
      have:(I:Int)*2≤(I:Int)*(I:Int):=Int.mul_le_mul_of_nonneg_left (by omega) (by omega)
      omega
    ·refine ⟨_,rfl,?_⟩
     rw [wa_i (by omega) (by omega)]
     exact ⟨⟨by omega,by omega⟩,by show (46342 - (i+1)).toNat < (46342 - i).toNat; omega⟩
   ·exact ⟨_,rfl,rfl⟩
  obtain ⟨o,ho,rfl⟩:=key
  rw [ho,obs] at h
  cases h
 ·exact h
end Km
namespace Km
open Sx Go M Vc Lm Dt
theorem ppMax:PP 2147483647:=⟨by decide,by decide,Nt.prm_max⟩
theorem isp:m_gb 2147483647=some true:=pp_true ppMax
theorem redP (s:Bool) (l:List Int):m_gi s l 2147483647=(m_gh s l 2147483647).bind fun r=>some (r,0):=by
 unfold m_gi
 rw [isp,obs,if_pos rfl]
theorem chkMax (T:List (List Int)):m_gs T 2147483647=(m_gn T).bind fun r4=>(m_gr T r4).bind fun r8=>if r8=true then some 5 else if ((decide ((200:Int) < (T.length:Int))) || (decide ((200:Int) < r4)))=true then some 6 else some 0:=by
 unfold m_gs
 rw [isp]
 cases m_gn T with
 | none=>rfl
 | some c=>rw [obs,obs,obs,if_pos rfl]
theorem primes42:Ret (m_ge 2147483648 5) (fun l=>l.length≤5∧l[0]?=some 2147483647∧∀ p,p∈l→PP p):=by
 have e1:imin (ws .i64 2147483648 1) 2147483647=2147483647:=by kernel_rfl
 have e5:imin 5 100=5:=by kernel_rfl
 unfold m_ge
 rw [if_neg (by omega),e1,ret_bind]
 refine (ret_loopM (Post:=fun (l:List Int)=>l.length≤5∧l[0]?=some 2147483647∧∀ p,p∈l→PP p) (fun (s:List Int×Int)=>s.1.length≤5∧s.2≤2147483647∧(s.1=[]∧s.2=2147483647∨s.1[0]?=some 2147483647)∧∀ p,p∈s.1→PP p) (fun s=>s.2.toNat) ⟨by decide,by decide,.inl ⟨rfl,rfl⟩,fun p hp=>by cases hp⟩ (by decide) ?_).mono fun l h=>⟨_,rfl,h⟩
 rintro ⟨l,i⟩ ⟨h1,h2,h3,h4⟩
 simp only at h1 h2 h3 h4
 unfold m_gd
 simp only
 rw [e5,ret_if]
 refine ⟨fun hc=>?_,fun hc=>⟨_,rfl,h1,?_,h4⟩⟩
 ·simp only [Bool.and_eq_true,decide_eq_true_eq] at hc
  obtain ⟨hc1,hc2⟩:=hc
  have ew:ws .i64 i 1=i - 1:=ws_i (by omega) (by omega)
  rcases isPrime_cases i with hp | ⟨hp,hP⟩
  ·rw [hp,obs,if_neg (by simp)]
   refine ⟨_,rfl,⟨h1,by show ws .i64 i 1≤_; omega,?_,h4⟩,by show (ws .i64 i 1).toNat < i.toNat; omega⟩
   rcases h3 with ⟨_,rfl⟩ | h3
   ·rw [isp] at hp; cases hp
   ·exact .inr h3
  ·rw [hp,obs,if_pos rfl,ret_bind,ret_app]
   refine ⟨by simp only [List.length_cons,List.length_nil]; omega,_,rfl,⟨by show (l++[i]).length≤5; rw [List.length_append]; simp only [List.length_cons,List.length_nil]; omega,by show ws .i64 i 1≤_; omega,?_,?_⟩,by show (ws .i64 i 1).toNat < i.toNat; omega⟩
   ·rcases h3 with ⟨rfl,rfl⟩ | h3
    ·exact .inr rfl
    ·exact .inr (by show (l++[i])[0]?=_; rw [List.getElem?_append_left (by have:=(List.getElem?_eq_some_iff.1 h3).1; exact this)]; exact h3)
   ·intro p hp
    rcases List.mem_append.1 hp with hp | hp
    ·exact h4 p hp
    ·rw [List.mem_singleton.1 hp]; exact hP
 ·rcases h3 with ⟨rfl,rfl⟩ | h3
  ·exfalso; apply hc; decide
  ·exact h3
def exM:List (List (Bool×List Int)):=[[(false,[1]),(false,[2])],[(false,[2]),(false,[4])]]
def exK:List (List (Bool×List Int)):=[[(true,[2]),(false,[1])]]
theorem ex_red:m_gl exM 2147483647=some [[1,2],[2,4]]:=by
 delta m_gl m_gk m_gj
 simp only [redP]
 kernel_rfl
theorem ex_ind:m_hh [[1,2],[2,4]] 2147483647=some [0]:=by
 delta m_hh m_hg m_he
 simp only [chkMax]
 kernel_rfl
theorem ex_tr:m_hk [[1,2],[2,4]] 2=some [[1,2],[2,4]]:=by kernel_rfl
theorem ex_min:m_i4 exM 1 2147483647 [0] [0] exK=some true:=by
 delta m_i4 m_i3 m_i2 m_i1 m_i0
 simp only [redP,chkMax]
 kernel_rfl
def exV:List Int:=[4607182418800017408,4611686018427387904,4611686018427387904,4616189618054758400]
theorem ex_int:m_ee 2 2 [0,2,4] [0,1,0,1] exV=some (exM,0,0):=by kernel_rfl
theorem ex_ker:m_f9 exM 2=some exK:=by kernel_rfl
theorem ex_sing:m_ja 2 2 [0,2,4] [0,1,0,1] exV=some ([(true,[2]),(false,[1])],true,0):=by kernel_rfl
theorem loop_now {σ ρ:Type} {step:σ→Option (σ⊕ρ)} {s:σ} {o:ρ} (h:step s=some (.inr o)):loop step s=some o:=
 Ret.eq (ret_loop 0 (fun _ t=>t=s) rfl (by rintro k _ hk rfl; rw [h]; exact ⟨_,rfl,rfl⟩) (by omega))
theorem ex_rank:m_hm 2 2 [0,2,4] [0,1,0,1] exV=some (1,2147483647,[0],[0],exK,0):=by
 obtain ⟨l,h1,h2,h3,h4⟩:=primes42
 have hl:0 < l.length:=(List.getElem?_eq_some_iff.1 h3).1
 have hg:getI l 0=some 2147483647:=h3
 unfold m_hm
 rw [ex_int,obs]
 simp only [if_true]
 rw [ex_ker,obs,h1,obs,loop_now (o:=.inr (2147483647,[0],[0]))]
 ·rfl
 ·unfold m_hl
  rw [if_pos (by omega),hg,obs]
  simp only
  rw [ex_red,obs,ex_ind,obs,if_pos (by kernel_rfl),ex_tr,obs,ex_ind,obs]
theorem ex_check:m_i9 2 2 [0,2,4] [0,1,0,1] exV 1 2147483647 [0] [0] exK=some true:=by
 unfold m_i9
 rw [ex_int,obs]
 simp only [if_true]
 rw [isp,obs,obs,if_neg (by simp),show m_iz [0] 1 2=some true by kernel_rfl,obs,if_pos rfl,obs,obs,if_neg (by simp),ex_min,obs,obs,if_neg (by simp)]
 kernel_rfl
theorem ex_b:((getI [(true,[(2:Int)]),(false,[1])] 0).bind fun x39=>(m_j (-2)).bind fun r41=>(m_jd x39.1 x39.2 r41.1 r41.2).bind fun r43=>some r43)=some true:=by kernel_rfl
theorem awake42:m_je=some true:=by
 unfold m_je
 rw [show m_bz 2 0=some 4611686018427387904 by kernel_rfl,obs,show m_bz 4 0=some 4616189618054758400 by kernel_rfl,obs]
 have hR:=ex_rank
 have hS:=ex_sing
 have hC:=ex_check
 unfold exV at hR hS hC
 rw [hR,obs,hS,obs]
 simp only [hC,ex_b,if_true,decide_true,obs,show exK.length=1 from rfl,List.length_cons,List.length_nil]
 rfl
end Km
namespace Km
open Sx Go M Vc Lm
namespace Gm
theorem getI_lt {α:Type} {l:List α} {k:Nat} (h:k < l.length):getI l (k:Int)=some l[k]:=by show l[k]?=_; simp [h]
theorem bindS {α β:Type} {e:Option α} {f:α→Option β} {x:α} (h:e=some x):e.bind f=f x:=by rw [h,obs]
def InW (n:Int):Prop:=-9223372036854775808≤n∧n≤9223372036854775807
theorem ws_in {x y:Int} (h:InW (x - y)):ws .i64 x y=x - y:=IntWalk.i64_in _ h
theorem wa1 {k:Nat} (h:k < 4611686018427387904):wa .i64 (k:Int) 1=((k+1:Nat):Int):=by rw [wa_i (by omega) (by omega)]; rfl
theorem less_ok (x y:Int):m_cr x y=some (decide (x < y)):=by
 unfold m_cr m_cq; simp
theorem asc_get {l:List Int} (h:l.Pairwise (· < ·)) {i j:Nat} (hj:j < l.length) (hij:i < j):l[i] < l[j]:=
 List.pairwise_iff_getElem.1 h i j (by omega) hj hij
theorem asc_len {l:List Int} {n:Nat} (h:l.Pairwise (· < ·)) (hr:∀ x,x∈l→0≤x∧x < n):l.length≤n:=by
 have key:∀ i,∀ hi:i < l.length,(i:Int)≤l[i]:=by
  intro i
  induction i with
  | zero=>intro hi; have:=hr _ (List.getElem_mem hi); omega
  | succ i ih=>
   intro hi
   have h1:=ih (by omega)
   have h2:=asc_get h hi (i:=i) (by omega)
   omega
 by_cases h0:l.length=0
 ·omega
 ·have h1:=key (l.length - 1) (by omega)
  have h2:=hr _ (List.getElem_mem (show l.length - 1 < l.length by omega))
  omega
def off (E:List (List Int)) (j:Nat):Nat:=(E.take j).flatten.length
structure Mv (R C:Nat) (E:List (List Int)) (st ix vl:List Int):Prop where
 len:E.length=C
 asc:∀ l,l∈E→l.Pairwise (· < ·)
 rng:∀ l,l∈E→∀ i,i∈l→0≤i∧i < (R:Int)
 ixe:ix=E.flatten
 sl:st.length=C+1
 ste:∀ j,j≤C→st[j]?=some (off E j:Int)
 vle:vl.length=ix.length
 fin:∀ v,v∈vl→m_cz v=some false
theorem off_succ {E:List (List Int)} {j:Nat} {l:List Int} (h:E[j]?=some l):off E (j+1)=off E j+l.length:=by
 unfold off
 rw [tks h,List.flatten_append,List.length_append]
 simp
theorem off_le {E:List (List Int)} {i j:Nat} (h:i≤j):off E i≤off E j:=by
 unfold off
 have:E.take i <+: E.take j:=by
  rw [show i=min i j by omega,← List.take_take]
  exact List.take_prefix _ _
 obtain ⟨t,ht⟩:=this
 rw [← ht,List.flatten_append,List.length_append]
 omega
theorem off_top (E:List (List Int)) {j:Nat}:off E j≤E.flatten.length:=by
 have h:=off_le (E:=E) (i:=j) (j:=max j E.length) (by omega)
 unfold off at h ⊢
 rw [List.take_of_length_le (l:=E) (i:=max j E.length) (by omega)] at h
 exact h
theorem off_all (E:List (List Int)):off E E.length=E.flatten.length:=by
 unfold off; rw [List.take_length]
theorem slice_at:∀ {E:List (List Int)} {j:Nat} {l:List Int},E[j]?=some l→(E.flatten.take (off E (j+1))).drop (off E j)=l
 | [],j,l,h=>by simp at h
 | x::E,0,l,h=>by
  have:x=l:=by simpa using h
  subst this
  simp [off]
 | x::E,j+1,l,h=>by
  have h1:=slice_at (E:=E) (j:=j) (l:=l) (by simpa using h)
  have e1:∀ j,off (x::E) (j+1)=x.length+off E j:=fun j=>by simp [off]
  rw [e1,e1,List.flatten_cons,List.take_length_add_append,List.drop_length_add_append]
  exact h1
theorem sorted_ok {st:List Int} (hl:st.length≤100000) (h:∀ k,∀ hk:k+1 < st.length,st[k]≤st[k+1]):m_ct st=some true:=by
 unfold m_ct
 cases st with
 | nil=>
  have h1:loop (m_cs []) (ws .i64 (([]:List Int).length:Int) 1)=some (.inl ()):=by
   refine Ret.eq ?_
   refine ret_loop 0 (fun k (t:Int)=>t= -1) (by rw [ws_in (by constructor<;>simp)]; rfl) ?_
   rintro k _ hk rfl
   unfold m_cs
   rw [if_neg (by omega),ret_some,vq_r]
  rw [bindS h1]
 | cons x r=>
  have e0:ws .i64 (((x::r).length:Nat):Int) 1=(r.length:Int):=by
   simp only [List.length_cons] at hl ⊢
   rw [ws_in (by constructor<;>omega)]
   omega
  have hrl:r.length≤100000:=by simp at hl; omega
  have h1:loop (m_cs (x::r)) (ws .i64 (((x::r).length:Nat):Int) 1)=some (.inl ()):=by
   refine Ret.eq ?_
   refine ret_loop r.length (fun k (t:Int)=>t=((r.length - k:Nat):Int)) (by rw [e0]; simp) ?_
   rintro k _ hk rfl
   unfold m_cs
   simp only [List.length_cons] at hl
   by_cases hkn:k < r.length
   ·have e1:ws .i64 ((r.length - k:Nat):Int) 1=((r.length - (k+1):Nat):Int):=by
     rw [ws_in (by constructor<;>omega)]
     omega
    have i1:r.length - k < (x::r).length:=by simp; omega
    have i2:r.length - (k+1) < (x::r).length:=by simp; omega
    have h2:=h (r.length - (k+1)) (by simp; omega)
    have h3:¬ (x::r)[r.length - k] < (x::r)[r.length - (k+1)]:=by
     have:(x::r)[r.length - (k+1)+1]'(by simp; omega)=(x::r)[r.length - k]:=by congr 1; omega
     rw [this] at h2
     omega
    rw [if_pos (by omega),bindS (getI_lt i1),e1,bindS (getI_lt i2),bindS (less_ok _ _),if_neg (by simpa using h3),ret_some,vq_l]
    exact ⟨hkn,rfl⟩
   ·rw [if_neg (by omega),ret_some,vq_r]
  rw [bindS h1]
theorem col_ok {l:List Int} {R:Nat} (h:l.Pairwise (· < ·)) (hr:∀ x,x∈l→0≤x∧x < (R:Int)) (hl:l.length≤100000):loop (m_cu l (R:Int)) (-1,0)=some (.inl ()):=by
 refine Ret.eq ?_
 refine ret_loop l.length (fun k (t:Int×Int)=>t.2=(k:Int)∧(t.1= -1∨(0 < k∧l[k - 1]?=some t.1))∧(k=0→t.1= -1)) ⟨rfl,.inl rfl,fun _=>rfl⟩ ?_
 rintro k ⟨a,b⟩ hk ⟨e1,e2,e3⟩
 simp only at e1 e2 e3
 subst e1
 unfold m_cu
 simp only
 by_cases hkn:k < l.length
 ·have hw:wa .i64 (k:Int) 1=((k+1:Nat):Int):=wa1 (by omega)
  have hx:=hr _ (List.getElem_mem hkn)
  have hlt:a < l[k]:=by
   rcases e2 with h1 | ⟨h1,h2⟩
   ·omega
   ·rw [List.getElem?_eq_getElem (by omega)] at h2
    have:=asc_get h (i:=k - 1) (j:=k) hkn (by omega)
    have:=Option.some.inj h2
    omega
  have hc:¬ ((decide (l[k]≤a)) || (decide ((R:Int)≤l[k])))=true:=by
   simp only [Bool.or_eq_true,decide_eq_true_eq]
   omega
  rw [if_pos (by omega),bindS (getI_lt hkn),if_neg hc,hw,ret_some,vq_l]
  exact ⟨hkn,rfl,.inr ⟨by omega,by simp⟩,fun h=>by omega⟩
 ·rw [if_neg (by omega),ret_some,vq_r]
theorem nonan_ok {vl:List Int} (h:∀ v,v∈vl→m_cz v=some false) (hl:vl.length≤100000):m_c2 vl=some false:=by
 have h1:loop (m_c0 vl) 0=some (.inl ()):=by
  refine Ret.eq ?_
  refine ret_loop vl.length (fun k (t:Int)=>t=(k:Int)) rfl ?_
  rintro k _ hk rfl
  unfold m_c0
  by_cases hkn:k < vl.length
  ·have hw:wa .i64 (k:Int) 1=((k+1:Nat):Int):=wa1 (by omega)
   rw [if_pos (by omega),bindS (getI_lt hkn),bindS (h _ (List.getElem_mem hkn)),if_neg (by simp),hw,ret_some,vq_l]
   exact ⟨hkn,rfl⟩
  ·rw [if_neg (by omega),ret_some,vq_r]
 unfold m_c2 m_c1
 rw [bindS h1]
 rfl
theorem matrixCheck_ok {R C:Nat} {E:List (List Int)} {st ix vl:List Int} (h:Mv R C E st ix vl) (hR:R≤200) (hC:C≤200) (hix:ix.length≤10000):m_c3 (R:Int) (C:Int) st ix vl=some 0:=by
 have hlen:=h.len
 have hsl:=h.sl
 have w1:m_cp (R:Int) 0 200=some true:=by
  unfold m_cp
  have a1:decide ((0:Int)≤(R:Int))=true:=by simp
  have a2:decide ((R:Int)≤200)=true:=by simp; omega
  rw [a1,a2]; rfl
 have w2:m_cp (C:Int) 0 200=some true:=by
  unfold m_cp
  have a1:decide ((0:Int)≤(C:Int))=true:=by simp
  have a2:decide ((C:Int)≤200)=true:=by simp; omega
  rw [a1,a2]; rfl
 have hcols:loop (m_cv (C:Int) st ix (R:Int)) 0=some (.inl ()):=by
  refine Ret.eq ?_
  refine ret_loop C (fun k (t:Int)=>t=(k:Int)) rfl ?_
  rintro k _ hk rfl
  unfold m_cv
  by_cases hkn:k < C
  ·have hw:wa .i64 (k:Int) 1=((k+1:Nat):Int):=wa1 (by omega)
   have g1:getI st (k:Int)=some (off E k:Int):=h.ste k (by omega)
   have g2:getI st ((k+1:Nat):Int)=some (off E (k+1):Int):=h.ste (k+1) (by omega)
   have hl:E[k]?=some E[k]:=by simp [hlen,hkn]
   have o1:=off_le (E:=E) (i:=k) (j:=k+1) (by omega)
   have o2:=off_top E (j:=k+1)
   have hsl:sli ix (off E k:Int) (off E (k+1):Int)=some E[k]:=by
    unfold sli subL
    rw [if_pos (by rw [h.ixe]; omega),h.ixe]
    simp only [Int.toNat_natCast]
    rw [slice_at hl]
   have hm:=List.getElem_mem (l:=E) (n:=k) (by omega)
   have:=asc_len (h.asc _ hm) (h.rng _ hm)
   rw [if_pos (by omega),bindS g1,hw,bindS g2,bindS hsl,bindS (col_ok (h.asc _ hm) (h.rng _ hm) (by omega)),ret_some,vq_l]
   exact ⟨hkn,rfl⟩
  ·rw [if_neg (by omega),ret_some,vq_r]
 have g0:getI st 0=some 0:=by
  have:=h.ste 0 (by omega)
  exact this
 have gC:getI st (C:Int)=some (ix.length:Int):=by
  have:=h.ste C (by omega)
  rw [← hlen,off_all,← h.ixe] at this
  rw [← hlen]
  exact this
 have hsrt:m_ct st=some true:=by
  refine sorted_ok (by omega) fun k hk=>?_
  have a1:=h.ste k (by omega)
  have a2:=h.ste (k+1) (by omega)
  rw [List.getElem?_eq_getElem (by omega)] at a1 a2
  have:=Option.some.inj a1
  have:=Option.some.inj a2
  have:=off_le (E:=E) (i:=k) (j:=k+1) (by omega)
  omega
 have hmc:m_cw (R:Int) (C:Int) st ix vl=some true:=by
  unfold m_cw
  have hw:wa .i64 (C:Int) 1=((C+1:Nat):Int):=wa1 (by omega)
  rw [hw,if_pos (by omega),bindS g0,obs]
  simp only [decide_true,Bool.not_true]
  rw [if_neg (by simp),bindS hsrt,obs]
  simp only [Bool.not_true]
  rw [if_neg (by simp),bindS gC,obs]
  simp only [decide_true,Bool.not_true]
  rw [if_neg (by simp),obs,h.vle]
  simp only [decide_true,Bool.not_true]
  rw [if_neg (by simp),bindS hcols]
 unfold m_c3
 rw [bindS w1,if_pos rfl,bindS w2,obs]
 have hc:¬ ((!true) || (decide ((10000:Int) < (ix.length:Int))))=true:=by
  simp only [Bool.or_eq_true,decide_eq_true_eq,Bool.not_true]
  rintro (h | h)
  ·cases h
  ·omega
 rw [if_neg hc,bindS hmc,if_pos rfl,bindS (nonan_ok h.fin (by have:=h.vle; omega)),if_neg (by simp)]
section
variable {R C:Nat} {E:List (List Int)} {st ix vl:List Int}
theorem Mv.at_ (h:Mv R C E st ix vl) {j:Nat} {l:List Int} (hl:E[j]?=some l) {k:Nat} (hk:k < l.length):ix[off E j+k]?=l[k]?:=by
 have h1:=slice_at hl
 have h2:=off_succ hl
 rw [h.ixe]
 have:l[k]?=((E.flatten.take (off E (j+1))).drop (off E j))[k]?:=by rw [h1]
 rw [this,List.getElem?_drop,List.getElem?_take]
 rw [if_pos (by omega)]
theorem Mv.start (h:Mv R C E st ix vl) {j:Nat} (hj:j≤C):getI st (j:Int)=some (off E j:Int):=h.ste j hj
end
def RF (vl:List Int):Prop:=∀ v,v∈vl→m_d v=some true
theorem finite_ok {vl:List Int} (h:RF vl) (hl:vl.length≤100000):m_b7 vl=some true:=by
 have h1:loop (m_b6 vl) 0=some (.inl ()):=by
  refine Ret.eq ?_
  refine ret_loop vl.length (fun k (t:Int)=>t=(k:Int)) rfl ?_
  rintro k _ hk rfl
  unfold m_b6
  by_cases hkn:k < vl.length
  ·have hw:wa .i64 (k:Int) 1=((k+1:Nat):Int):=wa1 (by omega)
   rw [if_pos (by omega),bindS (getI_lt hkn),bindS (h _ (List.getElem_mem hkn)),if_pos rfl,hw,ret_some,vq_l]
   exact ⟨hkn,rfl⟩
  ·rw [if_neg (by omega),ret_some,vq_r]
 unfold m_b7
 rw [bindS h1]
section
variable {R C:Nat} {E:List (List Int)} {st ix vl:List Int}
theorem fcheck_col (h:Mv R C E st ix vl) (hR:R≤100000) (hx:ix.length≤100000) (hC:C≤100000) {j:Nat} (hj:j < C):loop (m_b8 st (j:Int) ix (R:Int)) (off E j:Int)=some (.inl ()):=by
 have hl:E[j]?=some (E[j]'(by rw [h.len]; exact hj)):=List.getElem?_eq_getElem (by rw [h.len]; exact hj)
 generalize E[j]'(by rw [h.len]; exact hj)=l at hl
 have hos:=off_succ hl
 have hot:=off_top E (j:=j+1)
 have hxl:off E (j+1)≤100000:=by rw [← h.ixe] at hot; omega
 have hasc:=h.asc l (mem_get hl)
 have hrng:=h.rng l (mem_get hl)
 refine Ret.eq ?_
 refine ret_loop l.length (fun k (t:Int)=>t=((off E j+k:Nat):Int)) rfl ?_
 rintro k _ hk rfl
 unfold m_b8
 have hwj:wa .i64 (j:Int) 1=((j+1:Nat):Int):=wa1 (by omega)
 rw [hwj,bindS (h.start (by omega))]
 by_cases hkl:k < l.length
 ·have hw:wa .i64 ((off E j+k:Nat):Int) 1=((off E j+(k+1):Nat):Int):=by rw [wa1 (by omega)]; omega
  have hg:getI ix ((off E j+k:Nat):Int)=some l[k]:=(h.at_ hl hkl).trans (List.getElem?_eq_getElem hkl)
  have hr:=hrng _ (List.getElem_mem hkl)
  rw [if_pos (by omega),bindS hg,if_neg (by omega),bindS hg,obs,decide_eq_false (by omega),if_neg (by simp),bindS (h.start (by omega))]
  by_cases hk0:k=0
  ·subst hk0
   rw [if_neg (by omega),obs,obs,if_neg (by simp),hw,ret_some,vq_l]
   exact ⟨hkl,rfl⟩
  ·have hws:ws .i64 ((off E j+k:Nat):Int) 1=((off E j+(k - 1):Nat):Int):=by rw [ws_in (by constructor<;>omega)]; omega
   have hg2:getI ix ((off E j+(k - 1):Nat):Int)=some (l[k - 1]'(by omega)):=(h.at_ hl (by omega)).trans (List.getElem?_eq_getElem (by omega))
   have hlt:=asc_get hasc (i:=k - 1) (j:=k) hkl (by omega)
   rw [if_pos (by omega),bindS hg,hws,bindS hg2,obs,decide_eq_false (by omega),obs,if_neg (by simp),hw,ret_some,vq_l]
   exact ⟨hkl,rfl⟩
 ·rw [if_neg (by omega),ret_some,vq_r]
theorem fcheck_ok (h:Mv R C E st ix vl) (hR:R≤200) (hC:C≤200) (hx:ix.length≤10000) (hf:RF vl):m_cb (R:Int) (C:Int) st ix vl=some 0:=by
 have hsl:=h.sl
 have hvl:=h.vle
 have g0:getI st 0=some 0:=h.ste 0 (by omega)
 have gC:getI st (C:Int)=some (ix.length:Int):=by
  have:=h.ste C (by omega)
  rw [← h.len,off_all,← h.ixe] at this
  rw [← h.len]
  exact this
 have hw:wa .i64 (C:Int) 1=((C+1:Nat):Int):=wa1 (by omega)
 have l1:loop (m_ca (C:Int) st) 0=some (.inl ()):=by
  refine Ret.eq ?_
  refine ret_loop C (fun k (t:Int)=>t=(k:Int)) rfl ?_
  rintro k _ hk rfl
  unfold m_ca
  by_cases hkn:k < C
  ·have hwk:wa .i64 (k:Int) 1=((k+1:Nat):Int):=wa1 (by omega)
   have o1:=off_le (E:=E) (i:=k) (j:=k+1) (by omega)
   rw [if_pos (by omega),bindS (h.start (by omega)),hwk,bindS (h.start (by omega)),if_neg (by omega),ret_some,vq_l]
   exact ⟨hkn,rfl⟩
  ·rw [if_neg (by omega),ret_some,vq_r]
 have l2:loop (m_b9 (C:Int) st ix (R:Int)) 0=some (.inl ()):=by
  refine Ret.eq ?_
  refine ret_loop C (fun k (t:Int)=>t=(k:Int)) rfl ?_
  rintro k _ hk rfl
  unfold m_b9
  by_cases hkn:k < C
  ·have hwk:wa .i64 (k:Int) 1=((k+1:Nat):Int):=wa1 (by omega)
   rw [if_pos (by omega),bindS (h.start (by omega)),bindS (fcheck_col h (by omega) (by omega) (by omega) hkn),hwk,ret_some,vq_l]
   exact ⟨hkn,rfl⟩
  ·rw [if_neg (by omega),ret_some,vq_r]
 unfold m_cb
 rw [if_neg (by simp only [Bool.or_eq_true,decide_eq_true_eq]; omega),hw,if_neg (by simp only [Bool.or_eq_true,Bool.not_eq_true',decide_eq_false_iff_not]; omega),bindS g0,obs]
 simp only [decide_true,Bool.not_true]
 rw [if_neg (by simp),bindS gC,obs]
 simp only [decide_true,Bool.not_true]
 rw [if_neg (by simp),bindS l1]
 simp only
 rw [bindS l2]
 simp only
 rw [bindS (finite_ok hf (by omega)),if_pos rfl]
end
end Gm
end Km
namespace Km
open Sx Go M Vc Lm Gm
theorem modG_ok (x:Int) {n:Nat} (h0:0 < n) (h1:n < 9223372036854775808):∃ z:Nat,m_a x (n:Int)=some (z:Int)∧z < n:=by
 unfold m_a
 rw [wc_u64_in (x:=(n:Int)) ⟨by omega,by omega⟩,wc_u64]
 have h2:=Int.emod_nonneg x (show (18446744073709551616:Int)≠0 by omega)
 generalize x % 18446744073709551616=y at*
 unfold wr
 rw [if_neg (by omega),obs,Int.tmod_eq_emod_of_nonneg h2]
 have h3:=Int.emod_nonneg y (show (n:Int)≠0 by omega)
 have h4:=Int.emod_lt_of_pos y (show (0:Int) < n by omega)
 exact ⟨(y % n).toNat,by rw [wc_i64_in ⟨by omega,by omega⟩]; congr 1; omega,by omega⟩
def U64 (x:Int):Prop:=0≤x∧x < 18446744073709551616
theorem wxor_u64 (x y:Int):U64 (wxor .u64 x y):=by
 unfold wxor U64
 rw [IntKind.wrap_u64]
 omega
theorem word_ok (l:List Int) (k:Int) (hl:l.length < 9223372036854775808):Ret (m_c l k) U64:=by
 have hj:∀ x,Ret (m_b x) U64:=fun x=>⟨_,rfl,wxor_u64 _ _⟩
 unfold m_c
 rw [ret_if]
 refine ⟨fun h0=>?_,fun _=>hj _⟩
 obtain ⟨z,h1,h2⟩:=modG_ok k (n:=l.length) (by omega) hl
 rw [h1,obs,bindS (getI_lt h2)]
 exact hj _
theorem Gf.mono {a b a' b':Nat} {f:Int} (h:Gf a b f) (h1:a'≤a) (h2:b≤b'):Gf a' b' f:=by
 rcases h with h | ⟨s,e,m,hs,h3,h4,hm,hf⟩
 ·exact .inl h
 ·exact .inr ⟨s,e,m,hs,by omega,by omega,hm,hf⟩
theorem Gf.fin {a b:Nat} {f:Int} (h:Gf a b f) (ha:0 < a) (hb:b < 2047):m_cz f=some false∧m_d f=some true:=by
 rcases h with rfl | ⟨s,e,m,hs,h1,h2,hm,rfl⟩
 ·exact ⟨by kernel_rfl,by kernel_rfl⟩
 ·unfold m_cz m_cy m_cx m_d
  rw [obs,obs,fl_exp hs (by omega) hm,wc_i64_in ⟨by omega,by omega⟩]
  simp only
  rw [decide_eq_false (by omega)]
  exact ⟨rfl,rfl⟩
def gfB (f:Int):Bool:=decide (0≤f∧f < 18446744073709551616) && (decide (f=0) || decide (980≤f / 4503599627370496 % 2048∧f / 4503599627370496 % 2048≤1066))
theorem gfB_ok {f:Int} (h:gfB f=true):Gf 980 1066 f:=by
 unfold gfB at h
 simp only [Bool.and_eq_true,Bool.or_eq_true,decide_eq_true_eq] at h
 obtain ⟨⟨h0,h1⟩,h2 | h2⟩:=h
 ·exact .inl h2
 ·obtain ⟨s,e,m,hs,he,hm,rfl⟩:=fl_ex h0 h1
  refine .inr ⟨s,e,m,hs,?_,?_,hm,rfl⟩<;>(unfold Fl Fn_ at h2; omega)
theorem small_all:(List.range 19).all (fun n=>match m_bz ((n:Int) - 9) 0 with | some f=>gfB f | none=>false)=true:=by kernel_rfl
theorem smallG_ok {x:Int} (hx:U64 x):Ret (m_b0 x) (Gf 980 1066):=by
 unfold U64 at hx
 have e1:wrc x 19=x % 19:=Int.tmod_eq_emod_of_nonneg hx.1
 have h2:=Int.emod_nonneg x (show (19:Int)≠0 by omega)
 have h3:=Int.emod_lt_of_pos x (show (0:Int) < 19 by omega)
 have h4:=List.all_eq_true.1 small_all (x % 19).toNat (List.mem_range.2 (by omega))
 rw [Int.toNat_of_nonneg h2] at h4
 unfold m_b0
 rw [e1,wc_i64_in ⟨by omega,by omega⟩,ws_i (by omega) (by omega)]
 split at h4
 ·rename_i f hf
  rw [hf,obs]
  exact ⟨f,rfl,gfB_ok h4⟩
 ·cases h4
theorem numG_ok {x:Int} (hx:U64 x) {st:Nat} (hst:st < 3):Ret (m_b1 x (st:Int)) (Gf 980 1066):=by
 obtain ⟨z,h1,h2⟩:=modG_ok (st:Int) (n:=4) (by omega) (by omega)
 have hz:(z:Int)=(st:Int):=by
  have:m_a (st:Int) ((4:Nat):Int)=some (st:Int):=by
   rcases (show st=0∨st=1∨st=2 by omega) with rfl | rfl | rfl<;>kernel_rfl
  rw [this] at h1
  exact (Option.some.inj h1).symm
 rw [hz] at h1
 unfold U64 at hx
 obtain ⟨s,e,m,hs,he,hm,rfl⟩:=fl_ex hx.1 hx.2
 unfold m_b1
 rw [show (4:Int)=((4:Nat):Int) from rfl,h1,obs]
 rcases (show st=0∨st=1∨st=2 by omega) with rfl | rfl | rfl
 ·rw [if_neg (by omega),if_neg (by omega),if_neg (by omega),ret_bind]
  exact (smallG_ok hx).mono fun f hf=>⟨f,rfl,hf⟩
 ·rw [if_pos (by omega)]
  have e1:wand .u64 (wsrc .u64 (Fl s e m) 52) 7=(((2048*s+e) % 8:Nat):Int):=by
   rw [fl_shr hs he hm,show (7:Int)=((7:Nat):Int) from rfl,wand64 (x:=2048*s+e) (y:=7) (by omega) (by omega)]
   exact congrArg _ (Nat.and_two_pow_sub_one_eq_mod (2048*s+e) 3)
  have e2:wslc .u64 (wa .u64 1019 (((2048*s+e) % 8:Nat):Int)) 52=((4503599627370496*(1019+(2048*s+e) % 8):Nat):Int):=by
   rw [wa_u64 ⟨by omega,by omega⟩]
   unfold wslc
   show IntKind.u64.wrap (_*2 ^ 52)=_
   rw [IntWalk.u64_in _ (by omega)]
   omega
  have e3:=fl_keep hs he hm (q:=0) (by omega) (e':=1019+(2048*s+e) % 8) (by omega) (y:=9227875636482146303) (by decide) (by decide)
  rw [e1,e2]
  exact ⟨_,rfl,.inr ⟨s,1019+(2048*s+e) % 8,m / 1 ,hs,by omega,by omega,by omega,by rw [show (9227875636482146303:Int)=((9227875636482146303:Nat):Int) from rfl,e3]; congr 1; omega⟩⟩
 ·rw [if_neg (by omega),if_pos (by omega)]
  have e0:wsrc .u64 (Fl s e m) 8=((Fn_ s e m / 256:Nat):Int):=by
   unfold wsrc Fl
   show Int.fdiv _ (2 ^ 8)=_
   rw [Int.fdiv_eq_ediv_of_nonneg _ (by omega)]
   rfl
  have e1:wrc (wsrc .u64 (Fl s e m) 8) 81=((Fn_ s e m / 256 % 81:Nat):Int):=by
   rw [e0]
   show Int.tmod _ 81=_
   rw [Int.tmod_eq_emod_of_nonneg (by omega)]
   rfl
  generalize hr:Fn_ s e m / 256 % 81=r at e1
  have hr2:r < 81:=by omega
  have e2:wslc .u64 (wa .u64 983 (r:Int)) 52=((4503599627370496*(983+r):Nat):Int):=by
   rw [wa_u64 ⟨by omega,by omega⟩]
   unfold wslc
   show IntKind.u64.wrap (_*2 ^ 52)=_
   rw [IntWalk.u64_in _ (by omega)]
   omega
  have e3:=fl_keep hs he hm (q:=51) (by omega) (e':=983+r) (by omega) (y:=9225623836668461056) (by decide) (by decide)
  rw [e1,e2]
  exact ⟨_,rfl,.inr ⟨s,983+r,2 ^ 51*(m / 2 ^ 51),hs,by omega,by omega,by omega,by rw [show (9225623836668461056:Int)=((9225623836668461056:Nat):Int) from rfl,e3]⟩⟩
structure Pm (a b R C:Nat) (E:List (List Int)) (st ix vl:List Int):Prop where
 mv:Mv R C E st ix vl
 gf:∀ v,v∈vl→Gf a b v
 le:ix.length≤R*C
theorem Pm.zero (a b R:Nat):Pm a b R 0 [] [0] [] []:=⟨⟨rfl,(by intro l h; cases h),(by intro l h; cases h),rfl,rfl,(by
 intro j hj
 obtain rfl:j=0:=by omega
 rfl),rfl,(by intro l h; cases h)⟩,(by intro l h; cases h),Nat.zero_le _⟩
theorem Pm.snoc {a b R C:Nat} {E:List (List Int)} {st ix vl l u:List Int} (h:Pm a b R C E st ix vl) (ha:0 < a) (hb:b < 2047) (hs:l.Pairwise (· < ·)) (hr:∀ x,x∈l→0≤x∧x < (R:Int)) (hu:u.length=l.length) (hg:∀ v,v∈u→Gf a b v):Pm a b R (C+1) (E++[l]) (st++[((ix++l).length:Int)]) (ix++l) (vl++u):=by
 have hl:=asc_len hs hr
 refine ⟨⟨by rw [List.length_append,h.mv.len]; rfl,?_,?_,by rw [List.flatten_append,← h.mv.ixe]; simp,by rw [List.length_append,h.mv.sl]; rfl,?_,by rw [List.length_append,List.length_append,h.mv.vle,hu],?_⟩,?_,?_⟩
 ·intro m hm
  rcases List.mem_append.1 hm with hm | hm
  ·exact h.mv.asc m hm
  ·rw [List.mem_singleton.1 hm]; exact hs
 ·intro m hm
  rcases List.mem_append.1 hm with hm | hm
  ·exact h.mv.rng m hm
  ·rw [List.mem_singleton.1 hm]; exact hr
 ·intro j hj
  have hoff:∀ j,j≤C→off (E++[l]) j=off E j:=by
   intro j hj
   unfold off
   rw [List.take_append_of_le_length (by rw [h.mv.len]; exact hj)]
  by_cases hj2:j≤C
  ·rw [List.getElem?_append_left (by rw [h.mv.sl]; omega),h.mv.ste j hj2,hoff j hj2]
  ·obtain rfl:j=C+1:=by omega
   rw [List.getElem?_append_right (by rw [h.mv.sl]; omega),h.mv.sl,Nat.sub_self]
   have e1:off (E++[l]) (C+1)=(ix++l).length:=by
    unfold off
    rw [List.take_of_length_le (by rw [List.length_append,h.mv.len]; exact Nat.le_refl _),List.flatten_append,← h.mv.ixe]
    simp
   rw [e1]; rfl
 ·intro v hv
  rcases List.mem_append.1 hv with hv | hv
  ·exact h.mv.fin v hv
  ·exact ((hg v hv).fin ha hb).1
 ·intro v hv
  rcases List.mem_append.1 hv with hv | hv
  ·exact h.gf v hv
  ·exact hg v hv
 ·rw [List.length_append,Nat.mul_add,Nat.mul_one]
  have:=h.le
  omega
theorem general_ok (l:List Int) (hl:l.length < 9223372036854775808) {r c st:Nat} (hr:r≤20) (hc:c≤20) (hst:st < 3):Ret (m_b5 l (r:Int) (c:Int) (st:Int)) (fun o=>o.1=(r:Int)∧o.2.1=(c:Int)∧∃ E,Pm 980 1066 r c E o.2.2.1 o.2.2.2.1 o.2.2.2.2):=by
 unfold m_b5
 rw [ret_bind]
 refine (ret_loop (Post:=fun o:List Int×List Int×List Int=>∃ E,Pm 980 1066 r c E o.1 o.2.1 o.2.2) c (fun k (t:List Int×List Int×List Int×Int)=>t.2.2.2=(k:Int)∧∃ E,Pm 980 1066 r k E t.1 t.2.1 t.2.2.1) ⟨rfl,[],Pm.zero ..⟩ ?_ (by omega)).mono ?_
 ·rintro k ⟨sl,ix,vl,_⟩ hk ⟨rfl,E,hE⟩
  simp only at hE
  unfold m_b4
  simp only
  rw [ret_if]
  refine ⟨fun hlt=>?_,fun hge=>⟨_,rfl,by obtain rfl:k=c:=(by omega); exact ⟨E,hE⟩⟩⟩
  have hrk:r*k≤400:=Nat.le_trans (Nat.mul_le_mul hr (by omega:k≤20)) (by omega)
  have hle:=hE.le
  have hvl:=hE.mv.vle
  have hsl:=hE.mv.sl
  rw [ret_bind]
  refine (ret_loop (Post:=fun o:List Int×List Int=>∃ u v:List Int,o=(ix++u,vl++v)∧u.Pairwise (· < ·)∧(∀ x,x∈u→0≤x∧x < (r:Int))∧v.length=u.length∧∀ f,f∈v→Gf 980 1066 f) r (fun i (t:List Int×List Int×Int)=>t.2.2=(i:Int)∧∃ u v:List Int,t.1=ix++u∧t.2.1=vl++v∧u.Pairwise (· < ·)∧(∀ x,x∈u→0≤x∧x < (i:Int))∧v.length=u.length∧∀ f,f∈v→Gf 980 1066 f) ⟨rfl,[],[],by simp,by simp,List.Pairwise.nil,(by intro x h; cases h),rfl,(by intro x h; cases h)⟩ ?_ (by omega)).mono ?_
  ·rintro i ⟨_,_,_⟩ hi ⟨rfl,u,v,rfl,rfl,h1,h2,h3,h4⟩
   unfold m_b3
   simp only
   rw [ret_if]
   refine ⟨fun hlt=>?_,fun hge=>⟨_,rfl,u,v,rfl,h1,fun x hx=>by have:=h2 x hx; omega,h3,h4⟩⟩
   have hul:=asc_len h1 h2
   rw [ret_bind]
   refine (word_ok l _ hl).mono fun x hx=>?_
   have hnext:wa .i64 (i:Int) 1=((i+1:Nat):Int):=wa1 (by omega)
   rw [ret_if]
   refine ⟨fun hp=>?_,fun hp=>?_⟩
   ·rw [ret_bind,ret_app]
    refine ⟨by rw [List.length_append]; simp only [List.length_cons,List.length_nil]; omega,?_⟩
    rw [ret_bind]
    refine (numG_ok hx hst).mono fun f hf=>?_
    rw [ret_bind,ret_app]
    refine ⟨by rw [List.length_append]; simp only [List.length_cons,List.length_nil]; omega,_,rfl,by omega,hnext,u++[(i:Int)],v++[f],by simp,by simp,?_,?_,by simp [h3],?_⟩
    ·rw [List.pairwise_append]
     exact ⟨h1,List.pairwise_singleton ..,fun x hx y hy=>by rw [List.mem_singleton.1 hy]; exact (h2 x hx).2⟩
    ·intro y hy
     rcases List.mem_append.1 hy with hy | hy
     ·have:=h2 y hy; omega
     ·rw [List.mem_singleton.1 hy]; omega
    ·intro y hy
     rcases List.mem_append.1 hy with hy | hy
     ·exact h4 y hy
     ·rw [List.mem_singleton.1 hy]; exact hf
   ·exact ⟨_,rfl,by omega,hnext,u,v,rfl,rfl,h1,fun x hx=>by have:=h2 x hx; omega,h3,h4⟩
  ·rintro _ ⟨u,v,rfl,h1,h2,h3,h4⟩
   simp only
   have hul:=asc_len h1 h2
   rw [ret_bind,ret_app]
   refine ⟨by simp only [List.length_cons,List.length_nil]; omega,_,rfl,by omega,wa1 (by omega),E++[u],hE.snoc (by omega) (by omega) h1 h2 h3 h4⟩
 ·rintro ⟨sl,ix,vl⟩ ⟨E,hE⟩
  exact ⟨_,rfl,rfl,rfl,E,hE⟩
section
variable {a b R C:Nat} {E:List (List Int)} {st ix vl:List Int}
theorem Pm.rf (h:Pm a b R C E st ix vl) (ha:0 < a) (hb:b < 2047):RF vl:=fun v hv=>((h.gf v hv).fin ha hb).2
theorem Pm.chk (h:Pm a b R C E st ix vl) (hR:R≤20) (hC:C≤20):m_c3 (R:Int) (C:Int) st ix vl=some 0:=
 matrixCheck_ok h.mv (by omega) (by omega) (by have:=h.le; have:=Nat.mul_le_mul hR hC; omega)
theorem Pm.rchk (h:Pm a b R C E st ix vl) (ha:0 < a) (hb:b < 2047) (hR:R≤20) (hC:C≤20):m_cb (R:Int) (C:Int) st ix vl=some 0:=
 fcheck_ok h.mv (by omega) (by omega) (by have:=h.le; have:=Nat.mul_le_mul hR hC; omega) (h.rf ha hb)
theorem at_ok (h:Pm a b R C E st ix vl) (ha:0 < a) (hb:b < 2047) (hR:R≤20) (hC:C≤20) (i:Int) {j:Nat} (hj:j < C):Ret (m_cd (R:Int) (C:Int) st ix vl i (j:Int)) (Gf a b):=by
 have hle:ix.length≤400:=Nat.le_trans h.le (Nat.mul_le_mul hR hC)
 have hvl:=h.mv.vle
 unfold m_cd
 rw [h.rchk ha hb hR hC,obs,if_neg (by simp; omega),bindS (h.mv.start (by omega))]
 have o1:=off_le (E:=E) (i:=j) (j:=j+1) (by omega)
 have o2:=off_top E (j:=j+1)
 rw [← h.mv.ixe] at o2
 have hL:Ret (loop (m_cc st (j:Int) ix i vl) (off E j:Int)) (fun o=>∀ v,o=.inr v→Gf a b v):=by
  refine ret_loop (off E (j+1) - off E j) (fun k (t:Int)=>t=((off E j+k:Nat):Int)) rfl ?_ (by omega)
  rintro k _ hk rfl
  unfold m_cc
  rw [wa1 (by omega),bindS (h.mv.start (by omega)),ret_if]
  refine ⟨fun hlt=>?_,fun _=>⟨_,rfl,fun v hv=>by cases hv⟩⟩
  rw [bindS (getI_lt (by omega)),ret_if]
  refine ⟨fun _=>?_,fun _=>⟨_,rfl,by omega,by rw [wa1 (by omega)]; rfl⟩⟩
  rw [bindS (getI_lt (by omega))]
  exact ⟨_,rfl,fun v hv=>by cases hv; exact h.gf _ (List.getElem_mem _)⟩
 rw [ret_bind]
 refine hL.mono fun o ho=>?_
 cases o with
 | inl u=>exact ⟨_,rfl,.inl rfl⟩
 | inr v=>exact ⟨_,rfl,ho v rfl⟩
end
theorem scaleG_ok {f:Int} (h:Gf 980 1066 f) {k:Int} (hk: -3≤k∧k≤3):Ret (m_ck f k 0) (Gf 977 1069):=by
 rcases h with rfl | ⟨s,e,m,hs,h1,h2,hm,rfl⟩
 ·exact ⟨0,scale_zero k,.inl rfl⟩
 ·obtain ⟨s',m',a1,a2,a3⟩:=scaleF_ok hs (e:=e) (by omega) (by omega) hm (k:=k) (by omega)
  exact ⟨_,a3,.inr ⟨s',_,m',a1,by omega,by omega,a2,rfl⟩⟩
theorem pick_ok (l:List Int) (hl:l.length < 9223372036854775808) (x3 x4 x5:Int) (low:Bool):Ret (m_co l x3 x4 x5 low) (fun o=>∃ R C E,R≤4∧C≤4∧o.1=((R:Nat):Int)∧o.2.1=((C:Nat):Int)∧Pm 977 1069 R C E o.2.2.1 o.2.2.2.1 o.2.2.2.2):=by
 obtain ⟨st,a1,a2⟩:=modG_ok x5 (n:=3) (by omega) (by omega)
 obtain ⟨R,b1,b2⟩:=modG_ok x3 (n:=5) (by omega) (by omega)
 obtain ⟨C,c1,c2⟩:=modG_ok x4 (n:=5) (by omega) (by omega)
 obtain ⟨g,d1,d2,d3,E,d4⟩:=general_ok l hl (r:=R) (c:=C) (st:=st) (by omega) (by omega) a2
 unfold m_co
 rw [show (3:Int)=((3:Nat):Int) from rfl,a1,obs,show (5:Int)=((5:Nat):Int) from rfl,b1,obs,c1,obs,d1,obs,ret_if]
 refine ⟨fun _=>?_,fun _=>⟨_,rfl,R,C,E,by omega,by omega,d2,d3,⟨d4.mv,fun v hv=>(d4.gf v hv).mono (by omega) (by omega),d4.le⟩⟩⟩
 rw [ret_bind]
 refine (ret_loop (Post:=fun o:List Int×List Int×List Int=>∃ E,Pm 977 1069 R C E o.1 o.2.1 o.2.2) C (fun k (t:List Int×List Int×List Int×Int)=>t.2.2.2=(k:Int)∧∃ E,Pm 977 1069 R k E t.1 t.2.1 t.2.2.1) ⟨rfl,[],Pm.zero ..⟩ ?_ (by omega)).mono ?_
 ·rintro k ⟨sl,ix,vl,_⟩ hk ⟨rfl,E',hE⟩
  simp only at hE
  unfold m_cn
  simp only
  rw [d3,ret_if]
  refine ⟨fun hlt=>?_,fun hge=>⟨_,rfl,by obtain rfl:k=C:=(by omega); exact ⟨E',hE⟩⟩⟩
  have hrk:R*k≤400:=Nat.le_trans (Nat.mul_le_mul (by omega:R≤20) (by omega:k≤20)) (by omega)
  have hle:=hE.le
  have hvl:=hE.mv.vle
  have hsl:=hE.mv.sl
  have hj9:∀ j:Nat,j < C→Ret (m_cm l (k:Int) g ix vl sl (j:Int)) (VQ (fun t':List Int×List Int×List Int×Int=>k < C∧t'.2.2.2=((k+1:Nat):Int)∧∃ E,Pm 977 1069 R (k+1) E t'.1 t'.2.1 t'.2.2.1) (fun o:List Int×List Int×List Int=>∃ E,Pm 977 1069 R C E o.1 o.2.1 o.2.2)):=by
   intro j hj
   unfold m_cm
   rw [ret_bind]
   refine (word_ok l _ hl).mono fun x hx=>?_
   unfold U64 at hx
   have e1:wrc x 7=x % 7:=Int.tmod_eq_emod_of_nonneg hx.1
   have h2:=Int.emod_nonneg x (show (7:Int)≠0 by omega)
   have h3:=Int.emod_lt_of_pos x (show (0:Int) < 7 by omega)
   rw [ret_bind]
   refine (ret_loop (Post:=fun o:List Int×List Int=>∃ u v:List Int,o=(ix++u,vl++v)∧u.Pairwise (· < ·)∧(∀ x,x∈u→0≤x∧x < (R:Int))∧v.length=u.length∧∀ f,f∈v→Gf 977 1069 f) R (fun i (t:List Int×List Int×Int)=>t.2.2=(i:Int)∧∃ u v:List Int,t.1=ix++u∧t.2.1=vl++v∧u.Pairwise (· < ·)∧(∀ x,x∈u→0≤x∧x < (i:Int))∧v.length=u.length∧∀ f,f∈v→Gf 977 1069 f) ⟨rfl,[],[],by simp,by simp,List.Pairwise.nil,(by intro x h; cases h),rfl,(by intro x h; cases h)⟩ ?_ (by omega)).mono ?_
   ·rintro i ⟨_,_,_⟩ hi ⟨rfl,u,v,rfl,rfl,h1,h2',h3',h4⟩
    unfold m_cl
    simp only
    rw [d2,d3,ret_if]
    refine ⟨fun hlt=>?_,fun hge=>⟨_,rfl,u,v,rfl,h1,fun x hx=>by have:=h2' x hx; omega,h3',h4⟩⟩
    have hul:=asc_len h1 h2'
    have hnext:wa .i64 (i:Int) 1=((i+1:Nat):Int):=wa1 (by omega)
    rw [ret_bind,ret_app]
    refine ⟨by rw [List.length_append]; simp only [List.length_cons,List.length_nil]; omega,?_⟩
    rw [ret_bind]
    refine (at_ok d4 (by omega) (by omega) (by omega) (by omega) (i:Int) hj).mono fun f hf=>?_
    rw [e1,wc_i64_in ⟨by omega,by omega⟩,ws_i (by omega) (by omega),ret_bind]
    refine (scaleG_ok hf (by omega)).mono fun f' hf'=>?_
    rw [ret_bind,ret_app]
    refine ⟨by rw [List.length_append]; simp only [List.length_cons,List.length_nil]; omega,_,rfl,by omega,hnext,u++[(i:Int)],v++[f'],by simp,by simp,?_,?_,by simp [h3'],?_⟩
    ·rw [List.pairwise_append]
     exact ⟨h1,List.pairwise_singleton ..,fun x hx y hy=>by rw [List.mem_singleton.1 hy]; exact (h2' x hx).2⟩
    ·intro y hy
     rcases List.mem_append.1 hy with hy | hy
     ·have:=h2' y hy; omega
     ·rw [List.mem_singleton.1 hy]; omega
    ·intro y hy
     rcases List.mem_append.1 hy with hy | hy
     ·exact h4 y hy
     ·rw [List.mem_singleton.1 hy]; exact hf'
   ·rintro _ ⟨u,v,rfl,h1,h2,h3,h4⟩
    simp only
    have hul:=asc_len h1 h2
    rw [ret_bind,ret_app]
    refine ⟨by simp only [List.length_cons,List.length_nil]; omega,_,rfl,by omega,wa1 (by omega),E'++[u],hE.snoc (by omega) (by omega) h1 h2 h3 h4⟩
  have hB:Ret (if (0:Int) < (k:Int) then (m_c l (wa .i64 800 (k:Int))).bind fun r158=>some (decide ((wrc r158 2)=0)) else some false) (fun r=>r=true→0 < k):=by
   rw [ret_if]
   refine ⟨fun h0=>?_,fun _=>⟨_,rfl,fun h=>by cases h⟩⟩
   rw [ret_bind]
   exact (word_ok l _ hl).mono fun x _=>⟨_,rfl,fun _=>by omega⟩
  rw [ret_bind]
  refine hB.mono fun r155 h155=>?_
  rw [ret_if]
  refine ⟨fun h1=>?_,fun _=>hj9 k (by omega)⟩
  have h0:=h155 h1
  rw [ret_bind]
  refine (word_ok l _ hl).mono fun x hx=>?_
  unfold U64 at hx
  rw [wc_u64_in (x:=(k:Int)) ⟨by omega,by omega⟩]
  unfold wr
  have h3:=Int.emod_nonneg x (show (k:Int)≠0 by omega)
  have h4:=Int.emod_lt_of_pos x (show (0:Int) < k by omega)
  rw [if_neg (by omega),obs,Int.tmod_eq_emod_of_nonneg hx.1,wc_i64_in ⟨by omega,by omega⟩,show x % (k:Int)=((x % (k:Int)).toNat:Int) by omega]
  exact hj9 _ (by omega)
 ·rintro ⟨sl,ix,vl⟩ ⟨E',hE⟩
  exact ⟨_,rfl,R,C,E',by omega,by omega,d2,d3,hE⟩
end Km
namespace Km
open Sx Go M Vc Lm Gm Dt
def ex (f:Int):Option Int:=(m_ci f).bind fun d=>(m_hn d.1 d.2.1 d.2.2.1 d.2.2.2).bind fun g=>if g=0 then none else some d.2.2.2
def nm (sh f:Int):Int:=((ex f).bind fun e=>(m_ci f).bind fun d=>some (sv d.2.1 d.2.2.1*2 ^ (e - sh).toNat)).getD 0
theorem Gf.ex {f:Int} (h:Gf 977 1069 f):∃ d g,m_d4 f=some d∧m_ci f=some d∧m_d5 d.1 d.2.1 d.2.2.1 d.2.2.2=some g∧m_hn d.1 d.2.1 d.2.2.1 d.2.2.2=some g∧((g=0∧Km.ex f=none)∨(g≠0∧Km.ex f=some d.2.2.2∧∃ (k:Nat) (u:Int),d.2.2.2= -98+k∧k≤300∧Bg u d.2.1 d.2.2.1∧(-9007199254740992 < u∧u < 9007199254740992)∧-(2 ^ 145) < u*2 ^ k∧u*2 ^ k < 2 ^ 145)):=by
 obtain ⟨v,d,hF⟩:=h.dy (by omega) (by omega) (by omega)
 obtain ⟨g,g1,g2,g3⟩:=hF.sign (by omega)
 have e1:Km.ex f=if g=0 then none else some d.2.2.2:=by
  unfold Km.ex
  rw [hF.r,obs,g2,obs]
 refine ⟨d,g,hF.p,hF.r,g1,g2,?_⟩
 by_cases h0:g=0
 ·exact .inl ⟨h0,by rw [e1,if_pos h0]⟩
 ·refine .inr ⟨h0,by rw [e1,if_neg h0],?_⟩
  obtain ⟨k,u,b1,b2,b3,b4,b5,b6⟩:=hF.bg fun hv=>h0 (g3.2 hv)
  rw [b4] at b6
  exact ⟨k,u,by rw [b1]; rfl,b2,b3,b5,b6⟩
def st (a:Int×Bool) (f:Int):Int×Bool:=match ex f with
 | none=>a
 | some e=>if a.2=true∨e < a.1 then (e,false) else a
def shf (l:List Int):Int:=(l.foldl st (0,true)).1
theorem st_take {l:List Int} {k:Nat} {f:Int} (h:l[k]?=some f):(l.take (k+1)).foldl st (0,true)=st ((l.take k).foldl st (0,true)) f:=by
 rw [tks h,List.foldl_append]; rfl
def Sp (l:List Int) (a:Int×Bool):Prop:=(a.2=true→a.1=0∧∀ f,f∈l→ex f=none)∧(a.2=false→-98≤a.1∧∀ f e,f∈l→ex f=some e→a.1≤e)
theorem st_prop {l:List Int} (hg:∀ f,f∈l→Gf 977 1069 f):∀ k,k≤l.length→Sp (l.take k) ((l.take k).foldl st (0,true)):=by
 intro k
 induction k with
 | zero=>exact fun _=>⟨fun _=>⟨rfl,by intro f hf; simp at hf⟩,fun h=>by simp at h⟩
 | succ k ih=>
  intro hk
  obtain ⟨f,hf⟩:∃ f,l[k]?=some f:=⟨_,List.getElem?_eq_getElem (by omega)⟩
  have hi:=ih (by omega)
  rw [st_take hf]
  generalize (l.take k).foldl st (0,true)=a at hi
  obtain ⟨h1,h2⟩:=hi
  obtain ⟨d,g,_,_,_,_,hd⟩:=(hg f (mem_get hf)).ex
  unfold st
  rcases hd with ⟨_,he⟩ | ⟨_,he,k',u,hk',_⟩
  ·rw [he]
   refine ⟨fun h=>⟨(h1 h).1,fun x hx=>?_⟩,fun h=>⟨(h2 h).1,fun x e hx hxe=>?_⟩⟩
   ·rcases (mts hf).1 hx with hx | hx
    ·exact (h1 h).2 x hx
    ·rw [hx]; exact he
   ·rcases (mts hf).1 hx with hx | hx
    ·exact (h2 h).2 x e hx hxe
    ·rw [hx,he] at hxe; cases hxe
  ·rw [he]
   simp only
   split
   ·rename_i hc
    refine ⟨fun h=>by simp at h,fun _=>⟨by show -98≤d.2.2.2; omega,fun x e hx hxe=>?_⟩⟩
    show d.2.2.2≤e
    rcases (mts hf).1 hx with hx | hx
    ·rcases hc with hc | hc
     ·rw [(h1 hc).2 x hx] at hxe; cases hxe
     ·cases ha:a.2
      ·have:=(h2 ha).2 x e hx hxe; omega
      ·rw [(h1 ha).2 x hx] at hxe; cases hxe
    ·rw [hx,he] at hxe; cases hxe; exact Int.le_refl _
   ·rename_i hc
    rw [not_or] at hc
    have ha:a.2=false:=by cases h:a.2 with | true=>exact absurd h hc.1 | false=>rfl
    refine ⟨fun h=>(by rw [ha] at h; cases h),fun _=>⟨(h2 ha).1,fun x e hx hxe=>?_⟩⟩
    rcases (mts hf).1 hx with hx | hx
    ·exact (h2 ha).2 x e hx hxe
    ·rw [hx,he] at hxe; cases hxe; omega
theorem shf_prop {l:List Int} (hg:∀ f,f∈l→Gf 977 1069 f): -98≤shf l∧∀ f e,f∈l→ex f=some e→shf l≤e:=by
 have h:=st_prop hg l.length (Nat.le_refl _)
 rw [List.take_length] at h
 unfold shf
 generalize l.foldl st (0,true)=a at h
 cases ha:a.2
 ·exact h.2 ha
 ·have:=h.1 ha
  exact ⟨by omega,fun f e hf he=>by rw [this.2 f hf] at he; cases he⟩
theorem shP_ok {l:List Int} (hl:l.length≤100000) (hg:∀ f,f∈l→Gf 977 1069 f):loop (m_ed l) (0,true,0)=some (shf l):=by
 refine Ret.eq (ret_loop l.length (fun k (t:Int×Bool×Int)=>t.2.2=(k:Int)∧(t.1,t.2.1)=(l.take k).foldl st (0,true)) ⟨rfl,rfl⟩ ?_ (by omega))
 rintro k ⟨s,b,_⟩ hk ⟨rfl,h1⟩
 simp only at h1
 unfold m_ed
 simp only
 rw [ret_if]
 refine ⟨fun hlt=>?_,fun hge=>⟨_,rfl,?_⟩⟩
 ·have hkl:k < l.length:=by omega
  have hf:l[k]?=some l[k]:=List.getElem?_eq_getElem hkl
  obtain ⟨d,g,d1,_,d3,_,hd⟩:=(hg _ (List.getElem_mem hkl)).ex
  rw [bindS (getI_lt hkl),d1,obs,d3,obs]
  unfold m_ec
  have hw:wa .i64 (k:Int) 1=((k+1:Nat):Int):=wa1 (by omega)
  rw [ret_if]
  refine ⟨fun hc=>⟨_,rfl,hkl,hw,?_⟩,fun hc=>⟨_,rfl,hkl,hw,?_⟩⟩
  ·simp only [Bool.and_eq_true,Bool.or_eq_true,Bool.not_eq_true',decide_eq_false_iff_not,decide_eq_true_eq] at hc
   rw [st_take hf,← h1]
   unfold st
   rcases hd with ⟨h0,_⟩ | ⟨_,he,_⟩
   ·exact absurd h0 hc.1
   ·rw [he]; simp only; rw [if_pos hc.2]
  ·simp only [Bool.and_eq_true,Bool.or_eq_true,Bool.not_eq_true',decide_eq_false_iff_not,decide_eq_true_eq] at hc
   rw [st_take hf,← h1]
   unfold st
   rcases hd with ⟨_,he⟩ | ⟨h0,he,_⟩
   ·rw [he]
   ·rw [he]; simp only; rw [if_neg (fun h=>hc ⟨h0,h⟩)]
 ·rw [List.take_of_length_le (by omega)] at h1
  exact congrArg (·.1) h1
theorem shR_ok {l:List Int} (hl:l.length≤100000) (hg:∀ f,f∈l→Gf 977 1069 f):loop (m_hy l) (0,false,0)=some (shf l):=by
 refine Ret.eq (ret_loop l.length (fun k (t:Int×Bool×Int)=>t.2.2=(k:Int)∧(t.1,!t.2.1)=(l.take k).foldl st (0,true)) ⟨rfl,rfl⟩ ?_ (by omega))
 rintro k ⟨s,b,_⟩ hk ⟨rfl,h1⟩
 simp only at h1
 unfold m_hy
 simp only
 rw [ret_if]
 refine ⟨fun hlt=>?_,fun hge=>⟨_,rfl,?_⟩⟩
 ·have hkl:k < l.length:=by omega
  have hf:l[k]?=some l[k]:=List.getElem?_eq_getElem hkl
  obtain ⟨d,g,_,d1,_,d3,hd⟩:=(hg _ (List.getElem_mem hkl)).ex
  rw [bindS (getI_lt hkl),d1,obs,d3,obs]
  unfold m_hx
  have hw:wa .i64 (k:Int) 1=((k+1:Nat):Int):=wa1 (by omega)
  rw [ret_if]
  refine ⟨fun hc=>⟨_,rfl,hkl,hw,?_⟩,fun hc=>⟨_,rfl,hkl,hw,?_⟩⟩
  ·simp only [Bool.and_eq_true,Bool.or_eq_true,Bool.not_eq_true',decide_eq_false_iff_not,decide_eq_true_eq] at hc
   rw [st_take hf,← h1]
   unfold st
   rcases hd with ⟨h0,_⟩ | ⟨_,he,_⟩
   ·exact absurd h0 hc.1
   ·rw [he]; simp only; rw [if_pos (by rw [Bool.not_eq_true']; exact hc.2)]; rfl
  ·simp only [Bool.and_eq_true,Bool.or_eq_true,Bool.not_eq_true',decide_eq_false_iff_not,decide_eq_true_eq] at hc
   rw [st_take hf,← h1]
   unfold st
   rcases hd with ⟨_,he⟩ | ⟨h0,he,_⟩
   ·rw [he]
   ·rw [he]; simp only; rw [if_neg (fun h=>hc ⟨h0,by rw [Bool.not_eq_true'] at h; exact h⟩)]
 ·rw [List.take_of_length_le (by omega)] at h1
  exact congrArg (·.1) h1
def look (l:List (Int×Int×Int)) (i j:Int):Int:=match l.find? (fun e=>decide (e.1=i∧e.2.1=j)) with | some e=>e.2.2 | none=>0
structure Ent (R C:Nat) (vl:List Int) (l:List (Int×Int×Int)):Prop where
 rng:∀ e,e∈l→(0≤e.1∧e.1 < (R:Int))∧(0≤e.2.1∧e.2.1 < (C:Int))∧e.2.2∈vl
 dis:l.Pairwise fun a b=>¬ (a.1=b.1∧a.2.1=b.2.1)
theorem look_next {R C:Nat} {vl:List Int} {l:List (Int×Int×Int)} (h:Ent R C vl l) {k:Nat} {e:Int×Int×Int} (he:l[k]?=some e):look (l.take k) e.1 e.2.1=0∧∀ i j,look (l.take (k+1)) i j=if i=e.1∧j=e.2.1 then e.2.2 else look (l.take k) i j:=by
 have hd:∀ x,x∈l.take k→¬ (x.1=e.1∧x.2.1=e.2.1):=by
  intro x hx
  have h1:(l.take (k+1)).Pairwise fun a b=>¬ (a.1=b.1∧a.2.1=b.2.1):=h.dis.sublist (List.take_sublist _ _)
  rw [tks he,List.pairwise_append] at h1
  exact h1.2.2 x hx e (by simp)
 have hn:(l.take k).find? (fun x=>decide (x.1=e.1∧x.2.1=e.2.1))=none:=by
  rw [List.find?_eq_none]
  intro x hx
  simpa using hd x hx
 refine ⟨by unfold look; rw [hn],fun i j=>?_⟩
 unfold look
 rw [tks he,List.find?_append]
 by_cases hij:i=e.1∧j=e.2.1
 ·rw [if_pos hij,hij.1,hij.2,hn]
  simp
 ·rw [if_neg hij]
  have:[e].find? (fun x=>decide (x.1=i∧x.2.1=j))=none:=by
   rw [List.find?_eq_none]
   intro x hx
   rw [List.mem_singleton.1 hx]
   simp only [decide_eq_true_eq]
   exact fun h=>hij ⟨h.1.symm,h.2.symm⟩
  rw [this,Option.or_none]
section
variable {R C:Nat} {E:List (List Int)} {st ix vl:List Int}
theorem entries_loop (h:Pm 977 1069 R C E st ix vl) (hR:R≤20) (hC:C≤20):∃ l,loop (m_d7 (C:Int) st ix vl) ([],0)=some l∧Ent R C vl l∧l.length≤400:=by
 have hle:ix.length≤400:=Nat.le_trans h.le (Nat.mul_le_mul hR hC)
 have hvl:=h.mv.vle
 refine (ret_loop (Post:=fun l=>Ent R C vl l∧l.length≤400) C (fun k (t:List (Int×Int×Int)×Int)=>t.2=(k:Int)∧Ent R k vl t.1∧t.1.length=off E k) ⟨rfl,⟨(by intro e he; cases he),List.Pairwise.nil⟩,by simp [off]⟩ ?_ (by omega)).mono fun l h=>h
 rintro k ⟨L,_⟩ hk ⟨rfl,h1,h2⟩
 simp only at h1 h2
 have o3:=off_top E (j:=k)
 rw [← h.mv.ixe] at o3
 unfold m_d7
 simp only
 rw [ret_if]
 refine ⟨fun hlt=>?_,fun hge=>⟨_,rfl,by obtain rfl:k=C:=(by omega); exact ⟨h1,by omega⟩⟩⟩
 have hkC:k < C:=by omega
 have hl:E[k]?=some (E[k]'(by rw [h.mv.len]; exact hkC)):=List.getElem?_eq_getElem (by rw [h.mv.len]; exact hkC)
 generalize E[k]'(by rw [h.mv.len]; exact hkC)=c at hl
 have hos:=off_succ hl
 have o2:=off_top E (j:=k+1)
 rw [← h.mv.ixe] at o2
 have hasc:=h.mv.asc c (mem_get hl)
 have hrng:=h.mv.rng c (mem_get hl)
 rw [bindS (h.mv.start (by omega)),ret_bind]
 refine (ret_loop (Post:=fun l=>Ent R (k+1) vl l∧l.length=off E (k+1)) c.length (fun i (t:List (Int×Int×Int)×Int)=>t.2=((off E k+i:Nat):Int)∧Ent R (k+1) vl t.1∧t.1.length=off E k+i∧∀ e,e∈t.1→e.2.1 < (k:Int)∨∃ i',i' < i∧c[i']?=some e.1) ⟨rfl,⟨fun e he=>by have:=h1.rng e he; exact ⟨this.1,by omega,this.2.2⟩,h1.dis⟩,by show L.length=_; omega,fun e he=>.inl (h1.rng e he).2.1.2⟩ ?_ (by omega)).mono ?_
 ·rintro i ⟨M,_⟩ hi ⟨rfl,g1,g2,g3⟩
  simp only at g1 g2 g3
  unfold m_d6
  simp only
  rw [wa1 (by omega),bindS (h.mv.start (by omega)),ret_if]
  refine ⟨fun hlt=>?_,fun hge=>⟨_,rfl,g1,by omega⟩⟩
  have hic:i < c.length:=by omega
  have hg:getI ix ((off E k+i:Nat):Int)=some c[i]:=(h.mv.at_ hl hic).trans (List.getElem?_eq_getElem hic)
  rw [bindS hg,bindS (getI_lt (by omega)),ret_bind,ret_app]
  refine ⟨by rw [g2]; simp only [List.length_cons,List.length_nil]; omega,_,rfl,hic,by rw [wa1 (by omega)]; rfl,⟨?_,?_⟩,by rw [List.length_append,g2]; rfl,?_⟩
  ·intro e he
   rcases List.mem_append.1 he with he | he
   ·exact g1.rng e he
   ·rw [List.mem_singleton.1 he]
    exact ⟨hrng _ (List.getElem_mem hic),⟨by show (0:Int)≤k; omega,by show (k:Int) < _; omega⟩,List.getElem_mem _⟩
  ·rw [List.pairwise_append]
   refine ⟨g1.dis,List.pairwise_singleton ..,fun e he y hy=>?_⟩
   rw [List.mem_singleton.1 hy]
   rintro ⟨q1,q2⟩
   rcases g3 e he with g | ⟨i',hi',hc⟩
   ·have:e.2.1=(k:Int):=q2
    omega
   ·have:=asc_get hasc hic hi'
    rw [List.getElem?_eq_getElem (by omega)] at hc
    have h9:=Option.some.inj hc
    have:e.1=c[i]:=q1
    omega
  ·intro e he
   rcases List.mem_append.1 he with he | he
   ·rcases g3 e he with g | ⟨i',hi',hc⟩
    ·exact .inl g
    ·exact .inr ⟨i',by omega,hc⟩
   ·rw [List.mem_singleton.1 he]
    exact .inr ⟨i,by omega,List.getElem?_eq_getElem hic⟩
 ·rintro M ⟨g1,g2⟩
  exact ⟨_,rfl,hkC,wa1 (by omega),g1,g2⟩
theorem rentries_eq (h:Pm 977 1069 R C E st ix vl) (hR:R≤20) (hC:C≤20) {l:List (Int×Int×Int)} (hl:loop (m_d7 (C:Int) st ix vl) ([],0)=some l):m_hq (R:Int) (C:Int) st ix vl=some l:=by
 have e1:m_hp=m_d7:=rfl
 unfold m_hq
 rw [h.rchk (by omega) (by omega) hR hC,obs,if_pos rfl,e1,hl,obs]
end
theorem nm_some {sh f:Int} (h:Gf 977 1069 f) (h1: -98≤sh) (h2:∀ e,ex f=some e→sh≤e):∃ d g,m_d4 f=some d∧m_ci f=some d∧m_d5 d.1 d.2.1 d.2.2.1 d.2.2.2=some g∧m_hn d.1 d.2.1 d.2.2.1 d.2.2.2=some g∧Bd (pw 5) (nm sh f)∧((g=0∧nm sh f=0)∨(g≠0∧Ret (m_dx d.2.1 d.2.2.1 (ws .i64 d.2.2.2 sh)) (fun r=>Bg (nm sh f) r.1 r.2.1)∧Ret (m_9 d.2.1 d.2.2.1 (ws .i64 d.2.2.2 sh)) (fun r=>Bg (nm sh f) r.1 r.2))):=by
 obtain ⟨d,g,a1,a2,a3,a4,hd⟩:=h.ex
 refine ⟨d,g,a1,a2,a3,a4,?_⟩
 rcases hd with ⟨h0,he⟩ | ⟨h0,he,k,u,b1,b2,b3,⟨b4,b5⟩,b6,b7⟩
 ·have e0:nm sh f=0:=by unfold nm; rw [he]; rfl
  exact ⟨by rw [e0]; have:=pw_pos 5; exact ⟨by omega,by omega⟩,.inl ⟨h0,e0⟩⟩
 ·have hs:=h2 _ he
  have hn:nm sh f=u*2 ^ (d.2.2.2 - sh).toNat:=by unfold nm; rw [he,obs,a2,obs,b3.sv]; rfl
  have hl:=b3.len2 b4 b5
  have hw:ws .i64 d.2.2.2 sh=(((d.2.2.2 - sh).toNat:Nat):Int):=by rw [ws_i (by omega) (by omega)]; omega
  have s1:=shiftP_up (s:=d.2.1) b3.1 (by omega) (N:=(d.2.2.2 - sh).toNat) (by omega)
  have s2:=shiftR_up (s:=d.2.1) b3.1 (by omega) (N:=(d.2.2.2 - sh).toNat) (by omega)
  rw [b3.sv,← hn,← hw] at s1 s2
  refine ⟨?_,.inr ⟨h0,s1.mono fun r hr=>hr.1,s2⟩⟩
  rw [hn]
  have hp:=pw_two_le (N:=(d.2.2.2 - sh).toNat) (M:=k) (by omega)
  have hp0:(0:Int) < 2 ^ (d.2.2.2 - sh).toNat:=Int.pow_pos (by omega)
  have h5:(2:Int) ^ 145≤pw 5:=by rw [pw_two]; exact pw_two_le (by omega)
  generalize (2:Int) ^ 145=P at*
  generalize (2:Int) ^ (d.2.2.2 - sh).toNat=Q at*
  generalize (2:Int) ^ k=S at*
  by_cases hu:0≤u
  ·have c1:u*Q≤u*S:=Int.mul_le_mul_of_nonneg_left hp hu
   have c2:0≤u*Q:=Int.mul_nonneg hu (by omega)
   exact ⟨by omega,by omega⟩
  ·have c1:u*S≤u*Q:=Int.mul_le_mul_of_nonpos_left (by omega) hp
   have c2:u*Q≤0:=Int.mul_nonpos_of_nonpos_of_nonneg (by omega) (by omega)
   exact ⟨by omega,by omega⟩
theorem nm_zero (sh:Int):nm sh 0=0:=by
 unfold nm ex
 rw [of_zero.2,obs,dsign_zero.2,obs,if_pos rfl]
 rfl
theorem Lg.ext {l m:List Nb} {w:Nat} {f:Nat→Int} (h:Lg l w f) (h':Lg m w f):l=m:=by
 refine List.ext_getElem? fun c=>?_
 by_cases hc:c < w
 ·obtain ⟨z,h1,h2⟩:=h.2 c hc
  obtain ⟨y,h3,h4⟩:=h'.2 c hc
  have:=h2.uniq h4
  rw [h1,h3,show z=y from Prod.ext this.1 this.2]
 ·rw [List.getElem?_eq_none (by rw [h.1]; omega),List.getElem?_eq_none (by rw [h'.1]; omega)]
theorem Tg.ext {T U:List (List Nb)} {n w:Nat} {A:Mx} (h:Tg T n w A) (h':Tg U n w A):T=U:=by
 refine List.ext_getElem? fun r=>?_
 by_cases hr:r < n
 ·obtain ⟨l,h1,h2⟩:=h.2 r hr
  obtain ⟨m,h3,h4⟩:=h'.2 r hr
  rw [h1,h3,h2.ext h4]
 ·rw [List.getElem?_eq_none (by rw [h.1]; omega),List.getElem?_eq_none (by rw [h'.1]; omega)]
section
variable {R C:Nat} {E:List (List Int)} {st ix vl:List Int}
def im (vl:List Int) (l:List (Int×Int×Int)):Mx:=fun i j=>nm (shf vl) (look l i j)
theorem look_mem {vl:List Int} {l:List (Int×Int×Int)} (h:Ent R C vl l) (i j:Int):look l i j=0∨look l i j∈vl:=by
 unfold look
 split
 ·rename_i e he
  exact .inr (h.rng e (List.mem_of_find?_eq_some he)).2.2
 ·exact .inl rfl
theorem pints_ok (h:Pm 977 1069 R C E st ix vl) (hR:R≤16) (hC:C≤16) {l:List (Int×Int×Int)} (hl:loop (m_d7 (C:Int) st ix vl) ([],0)=some l) (hE:Ent R C vl l) (hll:l.length≤400):∃ T,m_ee (R:Int) (C:Int) st ix vl=some (T,shf vl,0)∧Tg T R C (im vl l):=by
 have hle:ix.length≤400:=Nat.le_trans h.le (Nat.mul_le_mul (by omega:R≤20) (by omega:C≤20))
 have hvl:=h.mv.vle
 obtain ⟨s1,s2⟩:=shf_prop h.gf
 have hT0:Ret (loop (m_eb (List.replicate R ([]:List Nb)) (C:Int)) (List.replicate R ([]:List Nb),0)) (fun T=>Tg T R C (fun _ _=>0)):=by
  refine ret_loop R (fun k (t:List (List Nb)×Int)=>t.2=(k:Int)∧t.1.length=R∧∀ i,i < k→t.1[i]?=some (List.replicate C ((false,[]):Nb))) ⟨rfl,List.length_replicate ..,by intro i hi; omega⟩ ?_ (by omega)
  rintro k ⟨T,_⟩ hk ⟨rfl,g1,g2⟩
  simp only at g1 g2
  unfold m_eb
  simp only
  rw [List.length_replicate,ret_if]
  refine ⟨fun hlt=>?_,fun hge=>⟨_,rfl,g1,fun r hr=>⟨_,g2 r (by omega),Lg.zeros' C⟩⟩⟩
  rw [ret_bind,ret_mkL]
  refine ⟨by omega,by omega,?_⟩
  rw [Int.toNat_natCast,ret_bind,ret_set,Int.toNat_natCast]
  refine ⟨by omega,by omega,_,rfl,by omega,wa1 (by omega),by show (T.set k _).length=R; rw [List.length_set,g1],fun i hi=>?_⟩
  show (T.set k _)[i]?=_
  by_cases e:i=k
  ·subst e; rw [List.getElem?_set_self (by omega)]
  ·rw [List.getElem?_set_ne (by omega)]; exact g2 i (by omega)
 have hT:∀ T0,Tg T0 R C (fun _ _=>0)→Ret (loop (m_ea l (shf vl)) (T0,0)) (fun T=>Tg T R C (im vl l)):=by
  intro T0 hT0
  refine ret_loop l.length (fun k (t:List (List Nb)×Int)=>t.2=(k:Int)∧Tg t.1 R C (im vl (l.take k))) ⟨rfl,hT0.congr fun r c _ _=>(nm_zero _).symm⟩ ?_ (by omega)
  rintro k ⟨T,_⟩ hk ⟨rfl,g1⟩
  simp only at g1
  unfold m_ea
  simp only
  rw [ret_if]
  refine ⟨fun hlt=>?_,fun hge=>⟨_,rfl,by rw [List.take_of_length_le (by omega)] at g1; exact g1⟩⟩
  have hkl:k < l.length:=by omega
  have he:l[k]?=some l[k]:=List.getElem?_eq_getElem hkl
  rw [bindS (getI_lt hkl)]
  have hr:=hE.rng _ (List.getElem_mem hkl)
  obtain ⟨n1,n2⟩:=look_next hE he
  generalize l[k]=e at*
  obtain ⟨d,g,a1,a2,a3,a4,_,hd⟩:=nm_some (sh:=shf vl) (h.gf _ hr.2.2) s1 (fun x hx=>s2 _ x hr.2.2 hx)
  unfold m_d9
  have hw:wa .i64 (k:Int) 1=((k+1:Nat):Int):=wa1 (by omega)
  rw [a1,obs,a3,obs,ret_if]
  have key:∀ i j:Nat,im vl (l.take (k+1)) i j=if (i:Int)=e.1∧(j:Int)=e.2.1 then nm (shf vl) e.2.2 else im vl (l.take k) i j:=by
   intro i j
   unfold im
   rw [n2]
   split<;>rfl
  obtain ⟨I,hI⟩:=Int.eq_ofNat_of_zero_le hr.1.1
  obtain ⟨J,hJ⟩:=Int.eq_ofNat_of_zero_le hr.2.1.1
  rcases hd with ⟨h0,hz⟩ | ⟨h0,hs,_⟩
  ·refine ⟨fun _=>⟨_,rfl,hkl,hw,g1.congr fun i j _ _=>?_⟩,fun hc=>absurd h0 hc⟩
   rw [key]
   split
   ·rename_i hij
    rw [hz]
    unfold im
    rw [hij.1,hij.2,n1,nm_zero]
   ·rfl
  ·refine ⟨fun hc=>absurd hc h0,fun _=>?_⟩
   obtain ⟨row,r1,r2⟩:=g1.at (r:=I) (by omega) hI
   rw [r1,obs,ret_bind]
   refine hs.mono fun q hq=>?_
   have hrl:=r2.1
   have hTl:=g1.1
   rw [set_some (l:=row) (k:=J) (by omega) hJ,obs,set_some (l:=T) (k:=I) (by omega) hI,obs]
   refine ⟨_,rfl,hkl,hw,(g1.set (k:=I) (by omega) (r2.set (c:=J) (z:=(q.1,q.2.1)) (by omega) hq)).congr fun i j _ _=>?_⟩
   rw [key]
   unfold up
   by_cases e1:i=I
   ·subst e1
    rw [if_pos rfl]
    simp only
    by_cases e2:j=J
    ·subst e2; rw [if_pos rfl,if_pos ⟨hI.symm,hJ.symm⟩]
    ·rw [if_neg e2,if_neg (fun h=>e2 (by have:=h.2; omega))]
   ·rw [if_neg e1,if_neg (fun h=>e1 (by have:=h.1; omega))]
 obtain ⟨T0,t1,t2⟩:=hT0
 obtain ⟨T,t3,t4⟩:=hT T0 t2
 refine ⟨T,?_,t4⟩
 unfold m_ee
 rw [h.chk (by omega) (by omega),obs,if_pos rfl,if_neg (by simp only [Bool.or_eq_true,decide_eq_true_eq]; omega),shP_ok (by omega) h.gf,obs]
 have hmk:mkL ([]:List Nb) (R:Int)=some (List.replicate R []):=Ret.eq (by rw [ret_mkL]; exact ⟨by omega,by omega,by rw [Int.toNat_natCast]⟩)
 have hent:m_d8 (R:Int) (C:Int) st ix vl=some l:=by unfold m_d8; rw [hl,obs]
 rw [hmk,obs,t1,obs,hent,obs,t3,obs]
def Di (D:List (List Int)) (R C:Nat) (F:Nat→Nat→Int):Prop:=D.length=R∧∀ i,i < R→∃ row,D[i]?=some row∧row.length=C∧∀ j,j < C→row[j]?=some (F i j)
theorem rdense_ok (h:Pm 977 1069 R C E st ix vl) (hR:R≤16) (hC:C≤16) {l:List (Int×Int×Int)} (hl:loop (m_d7 (C:Int) st ix vl) ([],0)=some l) (hE:Ent R C vl l) (hll:l.length≤400):∃ D,m_ht (R:Int) (C:Int) st ix vl=some (D,0)∧Di D R C (fun i j=>look l i j):=by
 have hT0:Ret (loop (m_hs (R:Int) (C:Int)) ([],0)) (fun D=>Di D R C (fun _ _=>0)):=by
  refine ret_loop R (fun k (t:List (List Int)×Int)=>t.2=(k:Int)∧t.1=List.replicate k (List.replicate C 0)) ⟨rfl,rfl⟩ ?_ (by omega)
  rintro k ⟨T,_⟩ hk ⟨rfl,g1⟩
  simp only at g1
  subst g1
  unfold m_hs
  simp only
  rw [ret_if]
  refine ⟨fun hlt=>?_,fun hge=>⟨_,rfl,by rw [List.length_replicate]; omega,fun i hi=>⟨List.replicate C 0,by rw [List.getElem?_replicate,if_pos (by omega)],List.length_replicate ..,fun j hj=>by rw [List.getElem?_replicate,if_pos hj]⟩⟩⟩
  rw [ret_bind,ret_mkL]
  refine ⟨by omega,by omega,?_⟩
  rw [Int.toNat_natCast,ret_bind,ret_app]
  refine ⟨by rw [List.length_replicate]; simp only [List.length_cons,List.length_nil]; omega,_,rfl,by omega,wa1 (by omega),?_⟩
  show List.replicate k (List.replicate C (0:Int))++[List.replicate C 0]=_
  exact List.replicate_succ'.symm
 have hT:∀ T0,Di T0 R C (fun _ _=>0)→Ret (loop (m_hr l) (T0,0)) (fun T=>Di T R C (fun i j=>look l i j)):=by
  intro T0 hT0
  refine ret_loop l.length (fun k (t:List (List Int)×Int)=>t.2=(k:Int)∧Di t.1 R C (fun i j=>look (l.take k) i j)) ⟨rfl,hT0⟩ ?_ (by omega)
  rintro k ⟨T,_⟩ hk ⟨rfl,g1,g2⟩
  simp only at g1 g2
  unfold m_hr
  simp only
  rw [ret_if]
  refine ⟨fun hlt=>?_,fun hge=>⟨_,rfl,by rw [List.take_of_length_le (by omega)] at g2; exact ⟨g1,g2⟩⟩⟩
  have hkl:k < l.length:=by omega
  have he:l[k]?=some l[k]:=List.getElem?_eq_getElem hkl
  have hg:getI l (k:Int)=some l[k]:=getI_lt hkl
  have hr:=hE.rng _ (List.getElem_mem hkl)
  obtain ⟨n1,n2⟩:=look_next hE he
  generalize l[k]=e at*
  obtain ⟨I,hI⟩:=Int.eq_ofNat_of_zero_le hr.1.1
  obtain ⟨J,hJ⟩:=Int.eq_ofNat_of_zero_le hr.2.1.1
  obtain ⟨row,r1,r2,r3⟩:=g2 I (by omega)
  rw [hg,obs,at_some r1 hI,obs,obs,obs,set_some (l:=row) (k:=J) (by omega) hJ,obs,set_some (l:=T) (k:=I) (by omega) hI,obs]
  refine ⟨_,rfl,hkl,wa1 (by omega),by show (T.set I _).length=R; rw [List.length_set,g1],fun i hi=>?_⟩
  show ∃ row',(T.set I (row.set J e.2.2))[i]?=some row'∧_
  by_cases e1:i=I
  ·subst e1
   refine ⟨_,by rw [List.getElem?_set_self (by omega)],by rw [List.length_set]; exact r2,fun j hj=>?_⟩
   show _=some (look (l.take (k+1)) i j)
   rw [n2]
   by_cases e2:j=J
   ·subst e2; rw [List.getElem?_set_self (by omega),if_pos ⟨hI.symm,hJ.symm⟩]
   ·rw [List.getElem?_set_ne (by omega),if_neg (fun h=>e2 (by have:=h.2; omega))]; exact r3 j hj
  ·obtain ⟨row',q1,q2,q3⟩:=g2 i hi
   refine ⟨row',by rw [List.getElem?_set_ne (by omega)]; exact q1,q2,fun j hj=>?_⟩
   show _=some (look (l.take (k+1)) i j)
   rw [n2,if_neg (fun h=>e1 (by have:=h.1; omega))]
   exact q3 j hj
 obtain ⟨T0,t1,t2⟩:=hT0
 obtain ⟨T,t3,t4⟩:=hT T0 t2
 refine ⟨T,?_,t4⟩
 unfold m_ht
 rw [h.rchk (by omega) (by omega) (by omega) (by omega),obs,if_pos rfl,t1,obs,rentries_eq h (by omega) (by omega) hl,obs,t3,obs]
theorem rints_ok (h:Pm 977 1069 R C E st ix vl) (hR:R≤16) (hC:C≤16) {l:List (Int×Int×Int)} (hl:loop (m_d7 (C:Int) st ix vl) ([],0)=some l) (hE:Ent R C vl l) (hll:l.length≤400):∃ T,m_hz (R:Int) (C:Int) st ix vl=some (T,shf vl,0)∧Tg T R C (im vl l):=by
 have hle:ix.length≤400:=Nat.le_trans h.le (Nat.mul_le_mul (by omega:R≤20) (by omega:C≤20))
 have hvl:=h.mv.vle
 obtain ⟨s1,s2⟩:=shf_prop h.gf
 obtain ⟨D,d1,d2,d3⟩:=rdense_ok h hR hC hl hE hll
 have hrow:∀ i,i < R→Ret (loop (m_hv (C:Int) (D,0) (i:Int) (shf vl)) ([],0)) (fun r=>Lg r C (im vl l i)):=by
  intro i hi
  obtain ⟨row,q1,q2,q3⟩:=d3 i hi
  refine ret_loop C (fun k (t:List Nb×Int)=>t.2=(k:Int)∧Lg t.1 k (im vl l i)) ⟨rfl,rfl,by intro c hc; omega⟩ ?_ (by omega)
  rintro k ⟨T,_⟩ hk ⟨rfl,g1⟩
  simp only at g1
  unfold m_hv
  simp only
  rw [ret_if]
  refine ⟨fun hlt=>?_,fun hge=>⟨_,rfl,by obtain rfl:k=C:=(by omega); exact g1⟩⟩
  have hgf:Gf 977 1069 (look l i k):=by
   rcases look_mem hE (i:Int) (k:Int) with h0 | h0
   ·exact .inl h0
   ·exact h.gf _ h0
  have hsh:∀ e,ex (look l i k)=some e→shf vl≤e:=by
   intro e he
   rcases look_mem hE (i:Int) (k:Int) with h0 | h0
   ·exfalso
    rw [h0] at he
    unfold ex at he
    rw [of_zero.2,obs,dsign_zero.2,obs,if_pos rfl] at he
    cases he
   ·exact s2 _ e h0 he
  obtain ⟨d,g,_,a2,_,a4,_,hd⟩:=nm_some (sh:=shf vl) hgf s1 hsh
  have hw:wa .i64 (k:Int) 1=((k+1:Nat):Int):=wa1 (by omega)
  have hTl:=g1.1
  rw [at_some q1 rfl,obs,at_some (q3 k (by omega)) rfl,obs,a2,obs,a4,obs,ret_if]
  unfold m_hu
  rcases hd with ⟨h0,hz⟩ | ⟨h0,_,hs⟩
  ·refine ⟨fun _=>?_,fun hc=>absurd h0 hc⟩
   rw [ret_bind,ret_app]
   exact ⟨by rw [hTl]; simp only [List.length_cons,List.length_nil]; omega,_,rfl,by omega,hw,g1.snoc (z:=(false,[])) (bg_zero.cast hz.symm)⟩
  ·refine ⟨fun hc=>absurd hc h0,fun _=>?_⟩
   rw [ret_bind]
   refine hs.mono fun q hq=>?_
   rw [ret_bind,ret_app]
   exact ⟨by rw [hTl]; simp only [List.length_cons,List.length_nil]; omega,_,rfl,by omega,hw,g1.snoc (z:=(q.1,q.2)) hq⟩
 have hT:Ret (loop (m_hw (R:Int) (C:Int) (D,0) (shf vl)) ([],0)) (fun T=>Tg T R C (im vl l)):=by
  refine ret_loop R (fun k (t:List (List Nb)×Int)=>t.2=(k:Int)∧Tg t.1 k C (im vl l)) ⟨rfl,rfl,by intro c hc; omega⟩ ?_ (by omega)
  rintro k ⟨T,_⟩ hk ⟨rfl,g1⟩
  simp only at g1
  unfold m_hw
  simp only
  rw [ret_if]
  refine ⟨fun hlt=>?_,fun hge=>⟨_,rfl,by obtain rfl:k=R:=(by omega); exact g1⟩⟩
  have hTl:=g1.1
  rw [ret_bind]
  refine (hrow k (by omega)).mono fun r hr=>?_
  rw [ret_bind,ret_app]
  exact ⟨by rw [hTl]; simp only [List.length_cons,List.length_nil]; omega,_,rfl,by omega,wa1 (by omega),g1.snoc hr⟩
 obtain ⟨T,t3,t4⟩:=hT
 refine ⟨T,?_,t4⟩
 unfold m_hz
 rw [h.rchk (by omega) (by omega) (by omega) (by omega),obs,if_pos rfl,if_neg (by simp only [Bool.or_eq_true,decide_eq_true_eq]; omega),shR_ok (by omega) h.gf,obs,d1,obs,t3,obs]
theorem ints_ok (h:Pm 977 1069 R C E st ix vl) (hR:R≤16) (hC:C≤16):∃ T sh A,m_ee (R:Int) (C:Int) st ix vl=some (T,sh,0)∧m_hz (R:Int) (C:Int) st ix vl=some (T,sh,0)∧Tg T R C A∧∀ i j,i < R→j < C→Bd (pw 5) (A i j):=by
 obtain ⟨l,l1,l2,l3⟩:=entries_loop h (by omega) (by omega)
 obtain ⟨T,t1,t2⟩:=pints_ok h hR hC l1 l2 l3
 obtain ⟨U,u1,u2⟩:=rints_ok h hR hC l1 l2 l3
 have e:=t2.ext u2
 subst e
 refine ⟨T,_,_,t1,u1,t2,fun i j _ _=>?_⟩
 obtain ⟨s1,s2⟩:=shf_prop h.gf
 unfold im
 rcases look_mem l2 (i:Int) (j:Int) with h0 | h0
 ·rw [h0,nm_zero]
  have:=pw_pos 5
  exact ⟨by omega,by omega⟩
 ·obtain ⟨_,_,_,_,_,_,hb,_⟩:=nm_some (sh:=shf vl) (h.gf _ h0) s1 (fun e he=>s2 _ e h0 he)
  exact hb
end
end Km
namespace Km
open Sx Go M Vc Lm Dt
def MB:Int:=2*(4*pw 5) ^ 6
theorem mb_lt:MB < pw 60:=by
 have e1:4*pw 5=2 ^ 162:=by
  rw [pw_two,show 162=2+32*5 from rfl,Int.pow_add]; rfl
 have e2:MB=2 ^ 973:=by
  unfold MB
  rw [e1,← Int.pow_mul,show 973=1+162*6 from rfl,Int.pow_add]; rfl
 rw [e2,pw_two]
 have h1:=pw_two_le (N:=974) (M:=32*60) (by omega)
 have h2:(2:Int) ^ 974=2 ^ 973*2:=by rw [show 974=973+1 from rfl,Int.pow_succ]
 have h3:(0:Int) < 2 ^ 973:=Int.pow_pos (by omega)
 omega
theorem mb_ltP:MB < pw 190:=Int.lt_of_lt_of_le mb_lt (pw_mono (by omega))
theorem okbG {n w:Nat} {A:Mx} (hn:n≤4) (hA:∀ i j,i < n→j < w→Bd (pw 5) (A i j)):Okb n w A MB:=by
 have h:=okb_of (K:=4) (M:=pw 5) (by have:=pw_pos 5; omega) (by omega) hn hA
 have hp:2*(((4:Nat):Int)*pw 5) ^ (n+2)≤MB:=by
  have:=pow_mono (X:=((4:Nat):Int)*pw 5) (by have:=pw_pos 5; omega) (m:=n+2) (n:=6) (by omega)
  unfold MB
  show 2*(4*pw 5) ^ (n+2)≤_
  have h2:(((4:Nat):Int)*pw 5) ^ (n+2)=(4*pw 5) ^ (n+2):=rfl
  have h3:(((4:Nat):Int)*pw 5) ^ 6=(4*pw 5) ^ 6:=rfl
  omega
 exact fun A' cl q i j h1 h2 h3 h4 h5=>⟨(h A' cl q i j h1 h2 h3 h4 h5).1.mono hp,(h A' cl q i j h1 h2 h3 h4 h5).2.mono hp⟩
theorem pw56:pw 5 < pw 6:=by
 show pw 5 < B*pw 5
 have:=pw_pos 5
 unfold B; omega
theorem Tg.tr6 {T:List (List Nb)} {n w:Nat} {A:Mx} (h:Tg T n w A) (hA:∀ i j,i < n→j < w→Bd (pw 5) (A i j)):Tr 6 T n w A:=h.tr hA pw56
section
variable {n w:Nat} {A:Mx} {T:List (List Nb)}
theorem pvs_n0 {A:Mx} {w:Nat}:pvs 0 0 A w=[]:=by
 refine List.eq_nil_iff_forall_not_mem.2 fun j hj=>?_
 exact (pvs_mem.1 hj).2 ⟨fun _=>1,(by rw [Int.zero_dvd]; show ¬ (1:Int)=0; omega),fun r hr=>absurd hr (by omega)⟩
theorem xrank_nil:m_fr []=some (0,0):=by kernel_rfl
theorem xrank_ok (hn:n≤4) (hw:w≤4) (hT:Tg T n w A) (hA:∀ i j,i < n→j < w→Bd (pw 5) (A i j)):m_fr T=some (((pvs 0 n A w).length:Int),0):=by
 by_cases h0:n=0
 ·subst h0
  rw [pvs_n0,List.eq_nil_of_length_eq_zero hT.1,xrank_nil]; rfl
 ·obtain ⟨k,h1,A',col,sn,h2⟩:=yrank_ok mb_ltP (hT.tr6 hA) (by omega) (okbG hn hA) (by omega) (by omega) (.inl (by omega))
  rw [h1,h2.rn.len dz_zero]
theorem columns_ok' (hT:Tg T n w A) (hn:n≤1000) {c:Nat} (hc:c≤w):Ret (m_eg T (c:Int)) (fun U=>Tg U n c A):=by
 have hTl:=hT.1
 unfold m_eg
 rw [ret_bind]
 refine (ret_loop (Post:=fun U=>Tg U n c A) n (fun k (t:List (List Nb)×Int)=>t.2=(k:Int)∧Tg t.1 k c A) ⟨rfl,rfl,by intro r hr; omega⟩ ?_ (by omega)).mono fun U h=>⟨U,rfl,h⟩
 rintro k ⟨U,_⟩ hk ⟨rfl,h1⟩
 simp only at h1
 have hUl:=h1.1
 unfold m_ef
 simp only
 rw [ret_if]
 refine ⟨fun hlt=>?_,fun hge=>⟨_,rfl,by obtain rfl:k=n:=(by omega); exact h1⟩⟩
 obtain ⟨l,l1,l2⟩:=hT.at (r:=k) (by omega) rfl
 have hll:=l2.1
 rw [l1,obs,ret_bind,ret_sli]
 refine ⟨by omega,by omega,by omega,?_⟩
 rw [Int.toNat_natCast,show (0:Int).toNat=0 from rfl,List.drop_zero,ret_bind,ret_app]
 refine ⟨by rw [hUl]; simp only [List.length_cons,List.length_nil]; omega,_,rfl,by omega,by rw [wa_i (by omega) (by omega)]; rfl,h1.snoc ?_⟩
 exact ⟨by rw [List.length_take]; omega,fun j hj=>by rw [List.getElem?_take,if_pos hj]; exact l2.2 j (by omega)⟩
theorem freeP_ok (hn:n≤4) (hw:w≤4) (hT:Tg T n w A) (hA:∀ i j,i < n→j < w→Bd (pw 5) (A i j)):Ret (m_ft T (w:Int)) (fun F=>F.length=w∧∀ j,j < w→∃ b,F[j]?=some b∧(b=true↔Dt.Fr 0 n A j)):=by
 unfold m_ft
 rw [ret_bind,ret_mkL]
 refine ⟨by omega,by omega,?_⟩
 rw [Int.toNat_natCast,ret_bind]
 refine (ret_loop (Post:=fun F:List Bool=>F.length=w∧∀ j,j < w→∃ b,F[j]?=some b∧(b=true↔Dt.Fr 0 n A j)) w (fun k (t:List Bool×Int×Int)=>t.2.2=(k:Int)∧t.2.1=((pvs 0 n A k).length:Int)∧t.1.length=w∧∀ j,j < k→∃ b,t.1[j]?=some b∧(b=true↔Dt.Fr 0 n A j)) ⟨rfl,by rw [pvs_zero]; rfl,List.length_replicate ..,by intro j hj; omega⟩ ?_ (by omega)).mono fun U h=>⟨U,rfl,h⟩
 rintro k ⟨F,_,_⟩ hk ⟨rfl,rfl,h1,h2⟩
 simp only at h1 h2
 unfold m_fs
 simp only
 rw [ret_if]
 refine ⟨fun hlt=>?_,fun hge=>⟨_,rfl,h1,by obtain rfl:k=w:=(by omega); exact h2⟩⟩
 have hw1:wa .i64 (k:Int) 1=((k+1:Nat):Int):=by rw [wa_i (by omega) (by omega)]; rfl
 rw [hw1,ret_bind]
 refine (columns_ok' hT (by omega) (c:=k+1) (by omega)).mono fun U hU=>?_
 rw [xrank_ok hn (by omega) hU (fun i j hi hj=>hA i j hi (by omega)),obs,ret_bind,ret_set,Int.toNat_natCast]
 refine ⟨by omega,by omega,_,rfl,by omega,rfl,rfl,by show (F.set k _).length=w; rw [List.length_set,h1],fun j hj=>?_⟩
 show ∃ b,(F.set k _)[j]?=some b∧_
 by_cases e:j=k
 ·subst e
  refine ⟨_,by rw [List.getElem?_set_self (by omega)],?_⟩
  rw [decide_eq_true_eq]
  constructor
  ·intro h
   refine Classical.byContradiction fun hc=>?_
   rw [pvs_yes hc,List.length_append] at h
   simp at h
   omega
  ·intro h
   rw [pvs_no h]
 ·obtain ⟨b,b1,b2⟩:=h2 j (by omega)
  exact ⟨b,by rw [List.getElem?_set_ne (fun h=>e h.symm)]; exact b1,b2⟩
def KV (n w:Nat) (A:Mx) (f:Nat) (l:List Nb):Prop:=∃ u:Nat→Int,Lg l w u∧(∀ j,j < w→Bd MB (u j))∧(∀ r,r < n→sm w (fun j=>A r j*u j)=0)∧(∀ d:Int,(∀ j,j < w→d ∣ u j)→d ∣ 1)∧0 < u f∧∀ j,j < w→j≠f→j∉pvs 0 n A f→u j=0
open Classical in
noncomputable def frs (n:Nat) (A:Mx) (w:Nat):List Nat:=(List.range w).filter fun j=>decide (Dt.Fr 0 n A j)
theorem frs_yes {j:Nat} (h:Dt.Fr 0 n A j):frs n A (j+1)=frs n A j++[j]:=by
 unfold frs
 rw [List.range_succ,List.filter_append]
 simp [h]
theorem frs_no {j:Nat} (h:¬ Dt.Fr 0 n A j):frs n A (j+1)=frs n A j:=by
 unfold frs
 rw [List.range_succ,List.filter_append]
 simp [h]
theorem frs_len:∀ w,(frs n A w).length+(pvs 0 n A w).length=w:=by
 intro w
 induction w with
 | zero=>rfl
 | succ w ih=>
  by_cases h:Dt.Fr 0 n A w
  ·rw [frs_yes h,pvs_no h,List.length_append]; simp; omega
  ·rw [frs_no h,pvs_yes h,List.length_append]; simp; omega
theorem frs_mem {j:Nat}:j∈frs n A w↔j < w∧Dt.Fr 0 n A j:=by unfold frs; simp
def ints (l:List Nat):List Int:=l.map fun (x:Nat)=>(x:Int)
theorem ints_get {l:List Nat} {i:Nat} (h:i < l.length):getI (ints l) (i:Int)=some ((l.getD i 0:Nat):Int):=by
 refine at_some ?_ rfl
 unfold ints
 rw [List.getElem?_map,List.getElem?_eq_getElem h,List.getD_eq_getElem?_getD,List.getElem?_eq_getElem h]
 rfl
theorem ints_len (l:List Nat):(ints l).length=l.length:=List.length_map ..
def Cs_ (w:Nat) (C:List Nat):Prop:=C.Pairwise (· < ·)∧∀ x,x∈C→x < w
theorem Cs_.lt {C:List Nat} (h:Cs_ w C) {s:Nat} (hs:s < C.length):C.getD s 0 < w:=by
 rw [List.getD_eq_getElem?_getD,List.getElem?_eq_getElem hs]
 exact h.2 _ (List.getElem_mem hs)
theorem Cs_.inj {C:List Nat} (h:Cs_ w C) {s t:Nat} (hst:s < t) (ht:t < C.length):C.getD s 0 < C.getD t 0:=by
 rw [List.getD_eq_getElem?_getD,List.getElem?_eq_getElem (by omega),List.getD_eq_getElem?_getD,List.getElem?_eq_getElem ht]
 exact List.pairwise_iff_getElem.1 h.1 s t (by omega) ht hst
theorem cs_used (n:Nat) (A:Mx) {f:Nat} (hf:f < w):Cs_ w (pvs 0 n A f++[f]):=by
 refine ⟨?_,fun x hx=>?_⟩
 ·rw [List.pairwise_append]
  exact ⟨pvs_asc,List.pairwise_singleton ..,fun x hx y hy=>by rw [List.mem_singleton.1 hy]; exact (pvs_mem.1 hx).1⟩
 ·rcases List.mem_append.1 hx with hx | hx
  ·have:=(pvs_mem.1 hx).1; omega
  ·rw [List.mem_singleton.1 hx]; exact hf
theorem part_ok {C:List Nat} (hC:Cs_ w C) (hw:w≤1000) (hn:n≤1000) (hCl:C.length≤1000) (hT:Tg T n w A):Ret (loop (m_f7 T (ints C)) ([],0)) (fun U=>Tg U n C.length (sub A C)):=by
 have hTl:=hT.1
 refine ret_loop n (fun k (t:List (List Nb)×Int)=>t.2=(k:Int)∧Tg t.1 k C.length (sub A C)) ⟨rfl,rfl,by intro r hr; omega⟩ ?_ (by omega)
 rintro k ⟨U,_⟩ hk ⟨rfl,h1⟩
 simp only at h1
 have hUl:=h1.1
 unfold m_f7
 simp only
 rw [ret_if]
 refine ⟨fun hlt=>?_,fun hge=>⟨_,rfl,by obtain rfl:k=n:=(by omega); exact h1⟩⟩
 obtain ⟨l,l1,l2⟩:=hT.at (r:=k) (by omega) rfl
 have hll:=l2.1
 have hrow:Ret (loop (m_f6 (ints C) l) ([],0)) (fun o=>Lg o C.length (sub A C k)):=by
  refine ret_loop C.length (fun i (t:List Nb×Int)=>t.2=(i:Int)∧Lg t.1 i (sub A C k)) ⟨rfl,rfl,by intro r hr; omega⟩ ?_ (by omega)
  rintro i ⟨o,_⟩ hi ⟨rfl,g1⟩
  simp only at g1
  have hol:=g1.1
  unfold m_f6
  simp only
  rw [ints_len,ret_if]
  refine ⟨fun hlt=>?_,fun hge=>⟨_,rfl,by obtain rfl:i=C.length:=(by omega); exact g1⟩⟩
  have hiC:i < C.length:=by omega
  obtain ⟨z,z1,z2⟩:=l2.at (c:=C.getD i 0) (hC.lt hiC) rfl
  rw [ints_get hiC,obs,z1,obs,ret_bind,ret_app]
  exact ⟨by rw [hol]; simp only [List.length_cons,List.length_nil]; omega,_,rfl,hiC,by rw [wa_i (by omega) (by omega)]; rfl,g1.snoc (z:=(z.1,z.2)) z2⟩
 rw [l1,obs,ret_bind]
 refine hrow.mono fun o ho=>?_
 rw [ret_bind,ret_app]
 exact ⟨by rw [hUl]; simp only [List.length_cons,List.length_nil]; omega,_,rfl,by omega,by rw [wa_i (by omega) (by omega)]; rfl,h1.snoc ho⟩
def spr (C:List Nat) (u:Nat→Int) (k:Nat):Nat→Int:=fun c=>sm k fun s=>if c=C.getD s 0 then u s else 0
theorem spr_at {C:List Nat} (hC:Cs_ w C) (u:Nat→Int):∀ k,k≤C.length→∀ s,s < k→spr C u k (C.getD s 0)=u s:=by
 intro k hk s hs
 unfold spr
 rw [sm_congr (g:=fun t=>if t=s then u t else 0) fun t ht=>?_,sm_one (f:=u) hs]
 by_cases e:t=s
 ·subst e; rw [if_pos rfl,if_pos rfl]
 ·rw [if_neg e,if_neg]
  intro he
  rcases Nat.lt_trichotomy s t with h | h | h
  ·have:=hC.inj h (by omega); omega
  ·omega
  ·have:=hC.inj h (by omega); omega
theorem spr_out {C:List Nat} {u:Nat→Int} {k c:Nat} (h:∀ s,s < k→c≠C.getD s 0):spr C u k c=0:=sm_zero fun s hs=>if_neg (h s hs)
theorem spread_ok {C:List Nat} (hC:Cs_ w C) (hw:w≤1000) (hCl:C.length≤1000) {l:List Nb} {e:Int} {u:Nat→Int} (hl:Lg l C.length u):Ret (loop (m_f5 (ints C) (l,e)) (List.replicate w ((false,[]):Nb),0)) (fun v=>Lg v w (spr C u C.length)):=by
 refine ret_loop C.length (fun i (t:List Nb×Int)=>t.2=(i:Int)∧Lg t.1 w (spr C u i)) ⟨rfl,Lg.zeros' w⟩ ?_ (by omega)
 rintro i ⟨v,_⟩ hi ⟨rfl,g1⟩
 simp only at g1
 have hvl:=g1.1
 unfold m_f5
 simp only
 rw [ints_len,ret_if]
 refine ⟨fun hlt=>?_,fun hge=>⟨_,rfl,by obtain rfl:i=C.length:=(by omega); exact g1⟩⟩
 have hiC:i < C.length:=by omega
 obtain ⟨z,z1,z2⟩:=hl.at (c:=i) hiC rfl
 have hlt:=hC.lt hiC
 rw [ints_get hiC,obs,z1,obs,set_some (l:=v) (k:=C.getD i 0) (by omega) rfl,obs]
 refine ⟨_,rfl,hiC,by rw [wa_i (by omega) (by omega)]; rfl,(g1.set (c:=C.getD i 0) (z:=(z.1,z.2)) hlt z2).congr fun c hc=>?_⟩
 by_cases e:c=C.getD i 0
 ·rw [if_pos e,e,spr_at hC u (i+1) (by omega) i (by omega)]
 ·rw [if_neg e]
  show _=sm i (fun s=>if c=C.getD s 0 then u s else 0)+(if c=C.getD i 0 then u i else 0)
  rw [if_neg e,Int.add_zero]
  rfl
theorem clone_int {l:List Int} (h:l.length≤100000):m_fu l=some l:=by
 unfold m_fu
 exact Ret.eq (by rw [ret_bind,ret_app]; exact ⟨by simp; omega,_,rfl,rfl⟩)
theorem shortK_ok (hn:n≤4) (hn0:0 < n) (hw:w≤4) (hA:∀ i j,i < n→j < w→Bd (pw 5) (A i j)) {f:Nat} (hf:f < w) (hF:Dt.Fr 0 n A f) {U:List (List Nb)} (hU:Tg U n (pvs 0 n A f++[f]).length (sub A (pvs 0 n A f++[f]))):∃ l,m_f2 U=some (l,0)∧KU n (pvs 0 n A f++[f]).length (sub A (pvs 0 n A f++[f])) MB (pvs 0 n A f).length l:=by
 have hC:=cs_used n A hf
 have hB:∀ i j,i < n→j < (pvs 0 n A f++[f]).length→Bd (pw 5) (sub A (pvs 0 n A f++[f]) i j):=fun i j hi hj=>hA i _ hi (hC.lt hj)
 have hlen:(pvs 0 n A f++[f]).length=(pvs 0 n A f).length+1:=by rw [List.length_append]; rfl
 have hle:=pvs_le (p:=0) (n:=n) (A:=A) f
 obtain ⟨l,k,A',col,sn,h1,h2,h3⟩:=ykernel_ok mb_ltP (okbG hn hB) (hU.tr6 hB) (by omega) (by omega) (by omega) hn0 (by omega)
 have hk:=h2.rn.len dz_zero
 have hp:=h2.rn.pvs dz_zero
 rw [hlen,sub_no dz_zero hF] at hk
 rw [hlen,pvs_no ((fr_sub dz_zero).2 hF),sub_pvs dz_zero] at hp
 rw [hk] at h3 hp
 rcases h3 with ⟨_,h3⟩ | ⟨_,fr,q1,q2,q3,q4,q5⟩
 ·omega
 ·have hfr:fr=(pvs 0 n A f).length:=by
   refine Classical.byContradiction fun hc=>?_
   refine q5 (by omega) ?_
   have h9:((List.range (pvs 0 n A f).length).map col)[fr]?=(List.range (pvs 0 n A f).length)[fr]?:=by rw [hp]
   rw [List.getElem?_map,List.getElem?_range (by omega)] at h9
   exact Option.some.inj h9
  subst hfr
  exact ⟨l,h1,q1⟩
theorem kv_of {f:Nat} (hf:f < w) {l v:List Nb} (hK:KU n (pvs 0 n A f++[f]).length (sub A (pvs 0 n A f++[f])) MB (pvs 0 n A f).length l) (hv:∀ u,Lg l (pvs 0 n A f++[f]).length u→Lg v w (spr (pvs 0 n A f++[f]) u (pvs 0 n A f++[f]).length)):KV n w A f v:=by
 have hC:=cs_used n A hf
 obtain ⟨u,u1,u2,u3,u4,u5,u6⟩:=hK
 have hlen:(pvs 0 n A f++[f]).length=(pvs 0 n A f).length+1:=by rw [List.length_append]; rfl
 have hin:∀ j,(∃ s,s < (pvs 0 n A f++[f]).length∧j=(pvs 0 n A f++[f]).getD s 0)∨spr (pvs 0 n A f++[f]) u (pvs 0 n A f++[f]).length j=0:=fun j=>by
  by_cases h:∃ s,s < (pvs 0 n A f++[f]).length∧j=(pvs 0 n A f++[f]).getD s 0
  ·exact .inl h
  ·exact .inr (spr_out fun s hs he=>h ⟨s,hs,he⟩)
 refine ⟨_,hv u u1,fun j hj=>?_,fun r hr=>?_,fun d hd=>?_,?_,fun j hj hjf hjp=>?_⟩
 ·rcases hin j with ⟨s,hs,rfl⟩ | h0
  ·rw [spr_at hC u _ (Nat.le_refl _) s hs]; exact u2 s hs
  ·rw [h0]; have:=(u2 0 (by omega)).nn; exact ⟨by omega,by omega⟩
 ·have:=sm_at (w:=w) (k:=(pvs 0 n A f++[f]).length) (col:=fun s=>(pvs 0 n A f++[f]).getD s 0) (fun s hs=>hC.lt hs) (A r) u
  exact this.trans (u3 r hr)
 ·refine u4 d fun s hs=>?_
  have:=hd _ (hC.lt hs)
  rwa [spr_at hC u _ (Nat.le_refl _) s hs] at this
 ·have:=spr_at hC u _ (Nat.le_refl _) (pvs 0 n A f).length (by omega)
  rw [getD_r] at this
  rw [this]; exact u5
 ·refine spr_out fun s hs he=>?_
  rw [List.getD_eq_getElem?_getD,List.getElem?_eq_getElem hs] at he
  have hm:=List.getElem_mem hs
  rw [show (pvs 0 n A f++[f])[s]=j from he.symm] at hm
  rcases List.mem_append.1 hm with h | h
  ·exact hjp h
  ·exact hjf (List.mem_singleton.1 h)
theorem ints_app (l:List Nat) (x:Nat):ints l++[(x:Int)]=ints (l++[x]):=by unfold ints; rw [List.map_append]; rfl
theorem fromOne:m_c8 1=some (false,[1]):=by kernel_rfl
theorem bg_one:Bg 1 false [1]:=⟨by intro x hx; rw [List.mem_singleton.1 hx]; unfold B; omega,by intro x hx; simp at hx; omega,by simp [sv,lv],by simp⟩
theorem mb_one:1≤MB:=by
 unfold MB
 have:(0:Int) < (4*pw 5) ^ 6:=Int.pow_pos (by have:=pw_pos 5; omega)
 omega
theorem kernel_ok' (hn:n≤4) (hw:w≤4) (hT:Tg T n w A) (hA:∀ i j,i < n→j < w→Bd (pw 5) (A i j)):Ret (m_f9 T (w:Int)) (fun V:List (List Nb)=>V.length=(frs n A w).length∧∀ (i f:Nat),(frs n A w)[i]?=some f→∃ v,V[i]?=some v∧KV n w A f v):=by
 have hTl:=hT.1
 unfold m_f9
 rw [ret_bind]
 refine (freeP_ok hn hw hT hA).mono fun F hF=>?_
 obtain ⟨f1,f2⟩:=hF
 rw [ret_bind]
 refine (ret_loop (Post:=fun V:List (List Nb)=>V.length=(frs n A w).length∧∀ (i f:Nat),(frs n A w)[i]?=some f→∃ v,V[i]?=some v∧KV n w A f v) w (fun k (t:List Int×List (List Nb)×Int)=>t.2.2=(k:Int)∧t.1=ints (pvs 0 n A k)∧t.2.1.length=(frs n A k).length∧∀ (i f:Nat),(frs n A k)[i]?=some f→∃ v,t.2.1[i]?=some v∧KV n w A f v) ⟨rfl,by rw [pvs_zero]; rfl,rfl,by intro i f h; simp [frs] at h⟩ ?_ (by omega)).mono fun V h=>⟨V,rfl,h⟩
 rintro k ⟨_,V,_⟩ hk ⟨rfl,rfl,h1,h2⟩
 simp only at h1 h2
 unfold m_f8
 simp only
 rw [ret_if]
 refine ⟨fun hlt=>?_,fun hge=>⟨_,rfl,by obtain rfl:k=w:=(by omega); exact ⟨h1,h2⟩⟩⟩
 have hkw:k < w:=by omega
 obtain ⟨b,b1,b2⟩:=f2 k hkw
 have hw1:wa .i64 (k:Int) 1=((k+1:Nat):Int):=by rw [wa_i (by omega) (by omega)]; rfl
 have hpl:=pvs_le (p:=0) (n:=n) (A:=A) k
 have hfl:(frs n A k).length≤4:=by have:=frs_len (n:=n) (A:=A) k; omega
 rw [at_some b1 rfl,obs,ret_if]
 refine ⟨fun hb=>?_,fun hb=>?_⟩
 ·have hFr:=b2.1 hb
  have hlen:(pvs 0 n A k++[k]).length=(pvs 0 n A k).length+1:=by rw [List.length_append]; rfl
  have fin:∀ v,KV n w A k v→Ret (m_f4 V (k:Int) (ints (pvs 0 n A k)) v) (VQ (fun t':List Int×List (List Nb)×Int=>k < w∧t'.2.2=((k+1:Nat):Int)∧t'.1=ints (pvs 0 n A (k+1))∧t'.2.1.length=(frs n A (k+1)).length∧∀ (i f:Nat),(frs n A (k+1))[i]?=some f→∃ v,t'.2.1[i]?=some v∧KV n w A f v) (fun V:List (List Nb)=>V.length=(frs n A w).length∧∀ (i f:Nat),(frs n A w)[i]?=some f→∃ v,V[i]?=some v∧KV n w A f v)):=by
   intro v hv
   unfold m_f4 m_f3
   rw [ret_bind,ret_app]
   refine ⟨by rw [h1]; simp only [List.length_cons,List.length_nil]; omega,_,rfl,hkw,hw1,by rw [pvs_no hFr],by rw [frs_yes hFr,List.length_append,List.length_append,h1]; rfl,fun i f hi=>?_⟩
   rw [frs_yes hFr] at hi
   show ∃ v',(V++[v])[i]?=some v'∧_
   by_cases hil:i < (frs n A k).length
   ·rw [List.getElem?_append_left hil] at hi
    obtain ⟨v',v1,v2⟩:=h2 i f hi
    exact ⟨v',by rw [List.getElem?_append_left (by omega)]; exact v1,v2⟩
   ·rw [List.getElem?_append_right (by omega)] at hi
    have hi0:i - (frs n A k).length=0:=by
     have:=(List.getElem?_eq_some_iff.1 hi).1
     simp at this; omega
    rw [hi0] at hi
    have hkf:k=f:=by simpa using hi
    subst hkf
    exact ⟨v,by rw [List.getElem?_append_right (by omega),show i - V.length=0 by omega]; rfl,hv⟩
  have hilen:=ints_len (pvs 0 n A k)
  rw [clone_int (by omega),obs,ret_bind,ret_app]
  refine ⟨by rw [hilen]; simp only [List.length_cons,List.length_nil]; omega,?_⟩
  rw [ints_app,ret_bind]
  refine (part_ok (cs_used n A hkw) (by omega) (by omega) (by omega) hT).mono fun U hU=>?_
  rw [ret_bind,ret_mkL]
  refine ⟨by omega,by omega,?_⟩
  rw [Int.toNat_natCast,ret_if]
  refine ⟨fun h0=>?_,fun h0=>?_⟩
  ·have hn0:n=0:=by have:=hU.1; omega
   subst hn0
   rw [fromOne,obs,set_some (l:=List.replicate w ((false,[]):Nb)) (k:=k) (by rw [List.length_replicate]; omega) rfl,obs]
   refine fin _ ⟨fun j=>if j=k then 1 else 0,(Lg.zeros' w).set (z:=(false,[1])) hkw bg_one,fun j _=>?_,fun r hr=>by omega,fun d hd=>?_,by show (0:Int) < if k=k then 1 else 0; rw [if_pos rfl]; omega,fun j _ hjk _=>if_neg hjk⟩
   ·have:=mb_one
    show Bd MB (if j=k then 1 else 0)
    split<;>exact ⟨by omega,by omega⟩
   ·have h9:d ∣ (if k=k then 1 else 0):=hd k hkw
    rw [if_pos rfl] at h9
    exact h9
  ·have hn0:0 < n:=by have:=hU.1; omega
   obtain ⟨l,l1,l2⟩:=shortK_ok hn hn0 hw hA hkw hFr hU
   obtain ⟨u,u1,_⟩:=id l2
   rw [l1,obs,ret_bind]
   obtain ⟨v,v1,v2⟩:=spread_ok (e:=0) (cs_used n A hkw) (by omega) (by omega) u1
   rw [v1,ret_some]
   refine fin v (kv_of hkw l2 fun u' hu'=>?_)
   have:spr (pvs 0 n A k++[k]) u' (pvs 0 n A k++[k]).length=spr (pvs 0 n A k++[k]) u (pvs 0 n A k++[k]).length:=by
    funext c
    exact sm_congr fun s hs=>by
     obtain ⟨z,z1,z2⟩:=u1.2 s hs
     obtain ⟨y,y1,y2⟩:=hu'.2 s hs
     rw [z1] at y1
     cases y1
     rw [← z2.sv,← y2.sv]
   rw [this]; exact v2
 ·have hFr:¬ Dt.Fr 0 n A k:=fun h=>hb (b2.2 h)
  have hilen:=ints_len (pvs 0 n A k)
  unfold m_f3
  rw [ret_bind,ret_app]
  exact ⟨by rw [hilen]; simp only [List.length_cons,List.length_nil]; omega,_,rfl,hkw,hw1,by rw [pvs_yes hFr]; exact ints_app ..,by rw [frs_no hFr]; exact h1,by rw [frs_no hFr]; exact h2⟩
end
end Km
namespace Km
open Sx Go M Vc Lm Dt
theorem dz_pp {p:Int} (hP:PP p):Dz p:=by
 have h2:=hP.two
 have h3:=hP.prm
 obtain ⟨P,rfl⟩:=Int.eq_ofNat_of_zero_le (show 0≤p by omega)
 rw [Int.toNat_natCast] at h3
 refine ⟨fun a b h=>?_,fun h=>?_,.inr h2⟩
 ·have h1:P ∣ a.natAbs*b.natAbs:=by rw [← Int.natAbs_mul]; exact Int.ofNat_dvd_left.1 h
  rcases h3.euclid h1 with h4 | h4
  ·exact .inl (Int.ofNat_dvd_left.2 h4)
  ·exact .inr (Int.ofNat_dvd_left.2 h4)
 ·have:=Int.le_of_dvd (by omega) h
  omega
theorem reduceP_ok {p v:Int} (hP:PP p) {s:Bool} {l:List Int} (h:Bg v s l) (hl:l.length≤900):m_gi s l p=some (v % p,0):=by
 have:=hP.two; have:=hP.max
 unfold m_gi
 rw [pp_true hP,obs,if_pos rfl,remainder_ok h.1 hl (by omega) (by omega),obs]
 have e:(if s=true then -lv l else lv l)=v:=h.sv
 rw [e]
theorem ln_snoc {l:List Int} {k:Nat} {f:Nat→Int} (h:Ln l k f) {x:Int} (hx:x=f k):Ln (l++[x]) (k+1) f:=by
 refine ⟨by rw [List.length_append,h.1]; rfl,fun c hc=>?_⟩
 by_cases e:c < k
 ·rw [List.getElem?_append_left (by rw [h.1]; exact e),h.2 c e]
 ·have:c=k:=by omega
  subst this
  rw [List.getElem?_append_right (by rw [h.1]; exact Nat.le_refl _),h.1,Nat.sub_self,hx]; rfl
theorem tb_snoc {T:List (List Int)} {k w:Nat} {A:Mx} (h:Tb T k w A) {l:List Int} (hl:Ln l w (A k)):Tb (T++[l]) (k+1) w A:=by
 refine ⟨by rw [List.length_append,h.1]; rfl,fun r hr=>?_⟩
 by_cases e:r < k
 ·obtain ⟨x,h1,h2⟩:=h.2 r e
  exact ⟨x,by rw [List.getElem?_append_left (by rw [h.1]; exact e),h1],h2⟩
 ·have:r=k:=by omega
  subst this
  exact ⟨l,by rw [List.getElem?_append_right (by rw [h.1]; exact Nat.le_refl _),h.1,Nat.sub_self]; rfl,hl⟩
theorem set_self {α:Type} {l:List α} {k:Nat} {x:α} (h:l[k]?=some x):l.set k x=l:=by
 refine List.ext_getElem? fun i=>?_
 rw [List.getElem?_set]
 by_cases e:k=i
 ·subst e
  rw [if_pos rfl,if_pos (List.getElem?_eq_some_iff.1 h).1,h]
 ·rw [if_neg e]
theorem wa1' {k:Nat} (h:k≤1000000):wa .i64 (k:Int) 1=((k+1:Nat):Int):=by rw [wa_i (by omega) (by omega)]; rfl
def Fil (T:List (List Int)) (n w k:Nat) (X:Mx):Prop:=T.length=n∧∀ r,r < n→∃ l,T[r]?=some l∧if r < k then Ln l w (X r) else l=[]
theorem Fil.zero (n w:Nat) (X:Mx):Fil (List.replicate n []) n w 0 X:=⟨List.length_replicate ..,fun r hr=>⟨[],by rw [List.getElem?_replicate,if_pos hr],by rw [if_neg (by omega)]⟩⟩
theorem Fil.done {T:List (List Int)} {n w k:Nat} {X:Mx} (h:Fil T n w k X) (hk:n≤k):Tb T n w X:=⟨h.1,fun r hr=>by
 obtain ⟨l,l1,l2⟩:=h.2 r hr
 rw [if_pos (by omega)] at l2
 exact ⟨l,l1,l2⟩⟩
theorem Fil.row {T:List (List Int)} {n w k:Nat} {X:Mx} (h:Fil T n w k X) (hk:k < n):T[k]?=some []:=by
 obtain ⟨l,l1,l2⟩:=h.2 k hk
 rw [if_neg (by omega)] at l2
 rw [l1,l2]
theorem Fil.next {T:List (List Int)} {n w k:Nat} {X:Mx} (h:Fil T n w k X) (hk:k < n) {l:List Int} (hl:Ln l w (X k)):Fil (T.set k l) n w (k+1) X:=by
 refine ⟨by rw [List.length_set]; exact h.1,fun r hr=>?_⟩
 by_cases e:k=r
 ·subst e
  exact ⟨l,by rw [List.getElem?_set_self (by rw [h.1]; exact hk)],by rw [if_pos (by omega)]; exact hl⟩
 ·obtain ⟨m,m1,m2⟩:=h.2 r hr
  refine ⟨m,by rw [List.getElem?_set_ne e]; exact m1,?_⟩
  by_cases e2:r < k
  ·rw [if_pos e2] at m2; rw [if_pos (by omega)]; exact m2
  ·rw [if_neg e2] at m2; rw [if_neg (by omega)]; exact m2
section
variable {p:Int} {n w:Nat} {A X:Mx} {T:List (List Nb)} {U:List (List Int)}
theorem reducedT_ok (hP:PP p) (hT:Tg T n w A) (hA:∀ i j,i < n→j < w→Bd (pw 5) (A i j)) (hn:n≤1000) (hw:w≤1000):Ret (m_gl T p) (fun U=>Tb U n w (Rd p A)):=by
 have hTl:=hT.1
 unfold m_gl
 rw [hTl,ret_bind,ret_mkL]
 refine ⟨by omega,by omega,?_⟩
 rw [Int.toNat_natCast,ret_bind]
 refine (ret_loop (Post:=fun U=>Tb U n w (Rd p A)) n (fun k (t:List (List Int)×Int)=>t.2=(k:Int)∧Fil t.1 n w k (Rd p A)) ⟨rfl,Fil.zero ..⟩ ?_ (by omega)).mono fun U h=>⟨U,rfl,h⟩
 rintro k ⟨U,_⟩ hk ⟨rfl,h1⟩
 simp only at h1
 have hUl:=h1.1
 unfold m_gk
 simp only
 rw [ret_if,hTl]
 refine ⟨fun hlt=>?_,fun hge=>⟨_,rfl,h1.done (by omega)⟩⟩
 have hkn:k < n:=by omega
 obtain ⟨row,r1,r2⟩:=hT.at (r:=k) hkn rfl
 have hrl:=r2.1
 rw [r1,obs,ret_bind]
 refine (ret_loop (Post:=fun V:List (List Int)=>∃ l,Ln l w (Rd p A k)∧V=U.set k l) w (fun j (t:List (List Int)×Int)=>t.2=(j:Int)∧∃ l,Ln l j (Rd p A k)∧t.1=U.set k l) ⟨rfl,[],⟨rfl,by intro c hc; omega⟩,(set_self (h1.row hkn)).symm⟩ ?_ (by omega)).mono ?_
 ·rintro j ⟨_,_⟩ hj ⟨rfl,l,l1,rfl⟩
  unfold m_gj
  simp only
  rw [ret_if,hrl]
  refine ⟨fun hlt=>?_,fun hge=>⟨_,rfl,l,(by obtain rfl:j=w:=(by omega); exact l1),rfl⟩⟩
  have hjw:j < w:=by omega
  have hll:=l1.1
  obtain ⟨z,z1,z2⟩:=r2.at (c:=j) hjw rfl
  have hzl:=z2.lenB (hA k j hkn hjw) pw56
  rw [z1,obs,reduceP_ok hP z2 (by omega),obs,at_some (List.getElem?_set_self (by omega)) rfl,obs,ret_bind,ret_app]
  refine ⟨by simp only [List.length_cons,List.length_nil]; omega,?_⟩
  rw [set_some (k:=k) (by rw [List.length_set]; omega) rfl,obs,List.set_set]
  exact ⟨_,rfl,hjw,wa1' (by omega),_,ln_snoc l1 rfl,rfl⟩
 ·rintro _ ⟨l,l1,rfl⟩
  exact ⟨_,rfl,hkn,wa1' (by omega),h1.next hkn l1⟩
theorem transposed_ok (hU:Tb U n w X) (hn:n≤1000) (hw:w≤1000):Ret (m_hk U (w:Int)) (fun V=>Tb V w n (tp X)):=by
 have hUl:=hU.1
 unfold m_hk
 rw [ret_bind,ret_mkL]
 refine ⟨by omega,by omega,?_⟩
 rw [Int.toNat_natCast,ret_bind]
 refine (ret_loop (Post:=fun U=>Tb U w n (tp X)) w (fun k (t:List (List Int)×Int)=>t.2=(k:Int)∧Fil t.1 w n k (tp X)) ⟨rfl,Fil.zero ..⟩ ?_ (by omega)).mono fun U h=>⟨U,rfl,h⟩
 rintro k ⟨V,_⟩ hk ⟨rfl,h1⟩
 simp only at h1
 have hVl:=h1.1
 unfold m_hj
 simp only
 rw [ret_if,List.length_replicate]
 refine ⟨fun hlt=>?_,fun hge=>⟨_,rfl,h1.done (by omega)⟩⟩
 have hkw:k < w:=by omega
 rw [ret_bind]
 refine (ret_loop (Post:=fun Z:List (List Int)=>∃ l,Ln l n (tp X k)∧Z=V.set k l) n (fun j (t:List (List Int)×Int)=>t.2=(j:Int)∧∃ l,Ln l j (tp X k)∧t.1=V.set k l) ⟨rfl,[],⟨rfl,by intro c hc; omega⟩,(set_self (h1.row hkw)).symm⟩ ?_ (by omega)).mono ?_
 ·rintro j ⟨_,_⟩ hj ⟨rfl,l,l1,rfl⟩
  unfold m_hi
  simp only
  rw [ret_if,hUl]
  refine ⟨fun hlt=>?_,fun hge=>⟨_,rfl,l,(by obtain rfl:j=n:=(by omega); exact l1),rfl⟩⟩
  have hjn:j < n:=by omega
  have hll:=l1.1
  obtain ⟨row,r1,r2⟩:=hU.2 j hjn
  rw [at_some r1 rfl,obs,at_some (List.getElem?_set_self (by omega)) rfl,obs,at_some (r2.2 k hkw) rfl,obs,ret_bind,ret_app]
  refine ⟨by simp only [List.length_cons,List.length_nil]; omega,?_⟩
  rw [set_some (k:=k) (by rw [List.length_set]; omega) rfl,obs,List.set_set]
  exact ⟨_,rfl,hjn,wa1' (by omega),_,ln_snoc l1 rfl,rfl⟩
 ·rintro _ ⟨l,l1,rfl⟩
  exact ⟨_,rfl,hkw,wa1' (by omega),h1.next hkw l1⟩
theorem pvs_rd:pvs p n (Rd p X) w=pvs p n X w:=pvs_cg fun _ _ _ _=>Cg.mod p _
theorem pvs_rdt:pvs p w (tp (Rd p X)) n=pvs p w (tp X) n:=pvs_cg fun _ _ _ _=>Cg.mod p _
theorem rankT_ok (hP:PP p) (hn:0 < n) (hn2:n≤200) (hw:w≤200) (hU:Tb U n w X):m_he U p=some (((pvs p n X w).length:Int),0):=by
 obtain ⟨R,o,h1,h2,h3,k,B,col,e1,e2,e3,e4,e5⟩:=ech_ex hP hn hn2 (by omega) hU
 rw [rank_eq hP hn hn2 hw hU h1 h3,e4.1,(e2.rn (dz_pp hP) e3).len (dz_pp hP),pvs_rd]
theorem independent_ok (hP:PP p) (hn:n≤100) (hw:w≤100) (hU:Tb U n w X):m_hh U p=some (ints (pvs p w (tp X) n)):=by
 have hUl:=hU.1
 refine Ret.eq ?_
 unfold m_hh
 rw [ret_bind]
 refine (ret_loop (Post:=fun l=>l=ints (pvs p w (tp X) n)) n (fun k (t:List Int×List (List Int)×Int)=>t.2.2=(k:Int)∧t.1=ints (pvs p w (tp X) k)∧Tb t.2.1 (pvs p w (tp X) k).length w (fun s=>X ((pvs p w (tp X) k).getD s 0))) ⟨rfl,rfl,rfl,fun r hr=>absurd hr (by rw [pvs_zero]; simp)⟩ ?_ (by omega)).mono fun U h=>⟨U,rfl,h⟩
 rintro k ⟨_,V,_⟩ hk ⟨rfl,rfl,h1⟩
 simp only at h1
 have hVl:=h1.1
 have hpl:=pvs_le (p:=p) (n:=w) (A:=tp X) k
 unfold m_hg
 simp only
 rw [ret_if,hUl]
 refine ⟨fun hlt=>?_,fun hge=>⟨_,rfl,by obtain rfl:k=n:=(by omega); rfl⟩⟩
 have hkn:k < n:=by omega
 obtain ⟨row,r1,r2⟩:=hU.2 k hkn
 rw [at_some r1 rfl,obs,show m_gm V=some () from rfl,obs,ret_bind,ret_app]
 refine ⟨by simp only [List.length_cons,List.length_nil]; omega,?_⟩
 have hW:Tb (V++[row]) ((pvs p w (tp X) k).length+1) w (fun s=>X ((pvs p w (tp X) k++[k]).getD s 0)):=by
  refine tb_snoc (h1.congr fun r c hr _=>by rw [getD_l hr]) ?_
  rw [getD_r]; exact r2
 have hr:m_he (V++[row]) p=some (((pvs p w (sub (tp X) (pvs p w (tp X) k++[k])) ((pvs p w (tp X) k).length+1)).length:Int),0):=by
  rw [rankT_ok hP (by omega) (by omega) (by omega) hW,rank_tp (dz_pp hP)]
  rfl
 rw [hr,obs,hW.1,ret_if]
 unfold m_hf
 refine ⟨fun he=>?_,fun he=>?_⟩
 ·have hF:¬ Dt.Fr p w (tp X) k:=fun hF=>by
   rw [sub_no (dz_pp hP) hF] at he
   simp only at he
   omega
  rw [ret_bind,ret_app]
  refine ⟨by rw [ints_len]; simp only [List.length_cons,List.length_nil]; omega,_,rfl,hkn,wa1' (by omega),by rw [pvs_yes hF]; exact ints_app ..,?_⟩
  rw [pvs_yes hF,List.length_append]
  exact hW
 ·have hF:Dt.Fr p w (tp X) k:=Classical.byContradiction fun hF=>he (by rw [sub_yes (dz_pp hP) hF])
  exact ⟨_,rfl,hkn,wa1' (by omega),by rw [pvs_no hF],by rw [pvs_no hF]; exact h1⟩
noncomputable def keeps (n w:Nat) (A:Mx) (p:Int):Bool:=decide ((pvs p n A w).length=(pvs 0 n A w).length)
theorem find_next {α:Type} {l:List α} {k:Nat} {q:α→Bool} (hk:k < l.length):(l.drop k).find? q=if q l[k]=true then some l[k] else (l.drop (k+1)).find? q:=by
 rw [List.drop_eq_getElem_cons hk,List.find?_cons]
 cases q l[k]<;>rfl
theorem rank_ok (hn:n≤4) (hw:w≤4) (hT:Tg T n w A) (hA:∀ i j,i < n→j < w→Bd (pw 5) (A i j)) {st ix vl:List Int} {sh:Int} (hI:m_ee (n:Int) (w:Int) st ix vl=some (T,sh,0)) {l:List Int} (hl:m_ge 2147483648 5=some l) (hl5:l.length≤5) (hlp:∀ p,p∈l→PP p) {V:List (List Nb)} (hV:m_f9 T (w:Int)=some V) (hVl:V.length=(frs n A w).length):m_hm (n:Int) (w:Int) st ix vl=some (match l.find? (keeps n w A) with | none=>(0,0,[],[],[],420) | some p=>(((pvs 0 n A w).length:Int),p,ints (pvs p w (tp A) n),ints (pvs p n A w),V,0)):=by
 have hf:=frs_len (n:=n) (A:=A) w
 have hrk:ws .i64 (w:Int) (V.length:Int)=((pvs 0 n A w).length:Int):=by rw [ws_i (by omega) (by omega)]; omega
 have hloop:loop (m_hl l (T,sh,0) (w:Int) V) 0=some (match l.find? (keeps n w A) with | none=>.inl () | some p=>.inr (p,ints (pvs p w (tp A) n),ints (pvs p n A w))):=by
  refine Ret.eq (ret_loop l.length (fun k (t:Int)=>t=(k:Int)∧l.find? (keeps n w A)=(l.drop k).find? (keeps n w A)) ⟨rfl,by rw [List.drop_zero]⟩ ?_ (by omega))
  rintro k _ hk ⟨rfl,h1⟩
  unfold m_hl
  rw [ret_if]
  refine ⟨fun hlt=>?_,fun hge=>⟨_,rfl,by rw [h1,List.drop_eq_nil_of_le (by omega)]; rfl⟩⟩
  have hkl:k < l.length:=by omega
  have hP:=hlp _ (List.getElem_mem hkl)
  rw [find_next hkl] at h1
  rw [at_some (List.getElem?_eq_getElem hkl) rfl,obs,ret_bind]
  generalize l[k]=p at hP h1 ⊢
  refine (reducedT_ok hP hT hA (by omega) (by omega)).mono fun U hU=>?_
  rw [independent_ok hP (by omega) (by omega) hU,obs,ints_len,pvs_rdt,hrk,← rank_tp (dz_pp hP),ret_if]
  refine ⟨fun he=>?_,fun he=>?_⟩
  ·have hk':keeps n w A p=true:=decide_eq_true (by omega)
   rw [if_pos hk'] at h1
   rw [ret_bind]
   refine (transposed_ok hU (by omega) (by omega)).mono fun Z hZ=>?_
   rw [independent_ok hP (by omega) (by omega) hZ,obs]
   refine ⟨_,rfl,?_⟩
   rw [h1]
   show Sum.inr _=Sum.inr _
   rw [show pvs p n (tp (tp (Rd p A))) w=pvs p n A w from pvs_rd]
  ·have hk':keeps n w A p=false:=decide_eq_false (by omega)
   rw [hk',if_neg (by simp)] at h1
   exact ⟨_,rfl,hkl,wa1' (by omega),h1⟩
 unfold m_hm
 rw [hI,obs]
 simp only [if_true]
 rw [hV,obs,hl,obs,hloop,obs]
 cases l.find? (keeps n w A) with
 | none=>rfl
 | some p=>simp only [hrk]
end
end Km
namespace Km
open Sx Go M Vc Lm Dt
def Asc (l:List Int) (m:Int):Prop:=∀ k,k < l.length→0≤l.getD k 0∧l.getD k 0 < m∧(0 < k→l.getD (k - 1) 0 < l.getD k 0)
theorem Asc.lt {l:List Int} {m:Int} (h:Asc l m) {i j:Nat} (hij:i < j) (hj:j < l.length):l.getD i 0 < l.getD j 0:=by
 have key:∀ d,i+d+1 < l.length→l.getD i 0 < l.getD (i+d+1) 0:=by
  intro d
  induction d with
  | zero=>intro hd; exact (h (i+0+1) hd).2.2 (by omega)
  | succ d ih=>
   intro hd
   have h1:=(h (i+(d+1)+1) hd).2.2 (by omega)
   have h2:=ih (by omega)
   rw [show i+(d+1)+1 - 1=i+d+1 by omega] at h1
   omega
 have:=key (j - i - 1) (by omega)
 rwa [show i+(j - i - 1)+1=j by omega] at this
theorem getD_at {l:List Int} {k:Nat} (h:k < l.length):getI l (k:Int)=some (l.getD k 0):=at_some (by rw [List.getD_eq_getElem?_getD,List.getElem?_eq_getElem h]; rfl) rfl
theorem ascending_ok {l:List Int} {c m:Int} (hl:l.length≤1000000):Ret (m_iz l c m) (fun b=>b=true↔(l.length:Int)=c∧Asc l m):=by
 unfold m_iz
 rw [ret_if]
 refine ⟨fun h=>?_,fun h=>⟨_,rfl,by simp [h]⟩⟩
 rw [ret_bind]
 refine (ret_loop (Post:=fun o:Unit⊕Unit=>(o=.inl ()∧Asc l m)∨(o=.inr ()∧¬ Asc l m)) l.length (fun k (t:Int)=>t=(k:Int)∧∀ i,i < k→i < l.length→0≤l.getD i 0∧l.getD i 0 < m∧(0 < i→l.getD (i - 1) 0 < l.getD i 0)) ⟨rfl,by intro i hi; omega⟩ ?_ (by omega)).mono ?_
 ·rintro k _ hk ⟨rfl,h1⟩
  unfold m_iy
  rw [ret_if]
  refine ⟨fun hlt=>?_,fun hge=>⟨_,rfl,.inl ⟨rfl,fun i hi=>h1 i (by omega) hi⟩⟩⟩
  have hkl:k < l.length:=by omega
  rw [getD_at hkl,obs,ret_bind]
  have hb:Ret (if (decide (l.getD k 0 < 0) || decide (m≤l.getD k 0))=true then some true else (if (0:Int) < (k:Int) then (getI l (ws .i64 (k:Int) 1)).bind fun e=>some (decide (l.getD k 0≤e)) else some false).bind fun f=>some f) (fun g=>g=true↔¬ (0≤l.getD k 0∧l.getD k 0 < m∧(0 < k→l.getD (k - 1) 0 < l.getD k 0))):=by
   rw [ret_if]
   refine ⟨fun h=>⟨_,rfl,?_⟩,fun h=>?_⟩
   ·simp only [Bool.or_eq_true,decide_eq_true_eq] at h
    simp only [true_iff]
    omega
   ·simp only [Bool.or_eq_true,decide_eq_true_eq] at h
    rw [ret_bind,ret_if]
    refine ⟨fun h0=>?_,fun h0=>⟨_,rfl,_,rfl,?_⟩⟩
    ·rw [ws_i (by omega) (by omega),show (k:Int) - 1=((k - 1:Nat):Int) by omega,getD_at (by omega),obs]
     refine ⟨_,rfl,_,rfl,?_⟩
     show decide _=true↔_
     rw [decide_eq_true_eq]
     omega
    ·simp only [Bool.false_eq_true,false_iff,Classical.not_not]
     omega
  refine hb.mono fun g hg=>?_
  rw [ret_if]
  refine ⟨fun hgt=>⟨_,rfl,.inr ⟨rfl,fun ha=>hg.1 hgt (ha k hkl)⟩⟩,fun hgf=>⟨_,rfl,hkl,wa1' (by omega),fun i hi hil=>?_⟩⟩
  by_cases e:i=k
  ·subst e
   exact Classical.byContradiction fun hc=>hgf (hg.2 hc)
  ·exact h1 i (by omega) hil
 ·rintro _ (⟨rfl,ha⟩ | ⟨rfl,ha⟩)
  ·exact ⟨_,rfl,by simp [h,ha]⟩
  ·exact ⟨_,rfl,by simp [ha]⟩
def Mn (A:Mx) (R C:List Int):Mx:=fun i j=>A (R.getD i 0).toNat (C.getD j 0).toNat
section
variable {p:Int} {n w:Nat} {A X:Mx} {T:List (List Nb)} {U:List (List Int)}
theorem minor_ok (hP:PP p) (hT:Tg T n w A) (hA:∀ i j,i < n→j < w→Bd (pw 5) (A i j)) {R C:List Int} {k:Nat} (hR:R.length=k) (hC:C.length=k) (aR:Asc R n) (aC:Asc C w) (hk:k≤200) {c:Int} {V:List (List Nb)}:Ret (m_i4 T c p R C V) (fun b=>b=true↔(pvs p k (Mn A R C) k).length=k):=by
 unfold m_i4
 rw [ret_bind]
 refine (ret_loop (Post:=fun U=>Tb U k k (Rd p (Mn A R C))) k (fun i (t:List (List Int)×Int)=>t.2=(i:Int)∧Tb t.1 i k (Rd p (Mn A R C))) ⟨rfl,rfl,by intro r hr; omega⟩ ?_ (by omega)).mono ?_
 ·rintro i ⟨U,_⟩ hi ⟨rfl,h1⟩
  simp only at h1
  have hUl:=h1.1
  unfold m_i3
  simp only
  rw [ret_if,hR]
  refine ⟨fun hlt=>?_,fun hge=>⟨_,rfl,by obtain rfl:i=k:=(by omega); exact h1⟩⟩
  have hik:i < k:=by omega
  obtain ⟨r1,r2,_⟩:=aR i (by omega)
  obtain ⟨row,q1,q2⟩:=hT.at (r:=(R.getD i 0).toNat) (i:=R.getD i 0) (by omega) (by omega)
  rw [getD_at (by omega),obs,ret_bind]
  refine (ret_loop (Post:=fun l=>Ln l k (Rd p (Mn A R C) i)) k (fun j (t:List Int×Int)=>t.2=(j:Int)∧Ln t.1 j (Rd p (Mn A R C) i)) ⟨rfl,rfl,by intro r hr; omega⟩ ?_ (by omega)).mono ?_
  ·rintro j ⟨l,_⟩ hj ⟨rfl,g1⟩
   simp only at g1
   have hll:=g1.1
   unfold m_i2
   simp only
   rw [ret_if,hC]
   refine ⟨fun hlt=>?_,fun hge=>⟨_,rfl,by obtain rfl:j=k:=(by omega); exact g1⟩⟩
   have hjk:j < k:=by omega
   obtain ⟨c1,c2,_⟩:=aC j (by omega)
   obtain ⟨z,z1,z2⟩:=q2.at (c:=(C.getD j 0).toNat) (i:=C.getD j 0) (by omega) (by omega)
   have hzl:=z2.lenB (hA _ _ (by omega) (by omega)) pw56
   rw [getD_at (by omega),obs,q1,obs,z1,obs,reduceP_ok hP z2 (by omega),obs,ret_bind,ret_app]
   exact ⟨by simp only [List.length_cons,List.length_nil]; omega,_,rfl,hjk,wa1' (by omega),ln_snoc g1 rfl⟩
  ·intro l hl
   rw [ret_bind,ret_app]
   exact ⟨by simp only [List.length_cons,List.length_nil]; omega,_,rfl,hik,wa1' (by omega),tb_snoc h1 hl⟩
 ·intro U hU
  by_cases h0:k=0
  ·subst h0
   rw [List.eq_nil_of_length_eq_zero hU.1,det_nil hP,obs]
   exact ⟨_,rfl,by simp [pvs_zero]⟩
  ·obtain ⟨d,R',o,d1,d2,d3,d4,d5,d6⟩:=det_ok hP (by omega) hk hU
   have h1:=rankT_ok hP (by omega) hk hk hU
   rw [rank_eq hP (by omega) hk hk hU d4 d5,pvs_rd] at h1
   have h2:(o.2.1.length:Int)=((pvs p k (Mn A R C) k).length:Int):=(Prod.mk.inj (Option.some.inj h1)).1
   rw [d1,obs]
   refine ⟨_,rfl,?_⟩
   simp only [decide_true,Bool.true_and,Bool.not_eq_true',decide_eq_false_iff_not]
   rw [← ne_eq,d6]
   omega
theorem sum_len {k:Nat} (hk:k≤4) {f:Nat→Int} (hf:∀ i,i < k→Bd (pw 5*pw 31) (f i)) {s:Bool} {l:List Int} (h:Bg (sm k f) s l):l.length≤37:=by
 have p5:=pw_pos 5
 have p31:=pw_pos 31
 have h1:pw (5+31)=pw 5*pw 31:=pw_add 5 31
 have h2:pw 37=B*pw 36:=rfl
 have h3:=pw_pos 36
 have e2:B=4294967296:=rfl
 have h4:pw 36=pw 5*pw 31:=h1
 have hb:=sm_bd (n:=k) (M:=pw 36) (by omega) fun i hi=>by rw [h4]; exact hf i hi
 refine h.lenB (hb.mono (Int.mul_le_mul_of_nonneg_right (show (k:Int)≤4 by omega) (by omega))) ?_
 rw [h2,e2]
 omega
theorem inKernel_ok (hn:n≤1000) (hw:w≤4) (hT:Tg T n w A) (hA:∀ i j,i < n→j < w→Bd (pw 5) (A i j)) {v:List Nb} {u:Nat→Int} (hv:Lg v w u) (hu:∀ j,j < w→Bd (pw 31) (u j)):Ret (m_i7 T v) (fun b=>b=true↔∀ r,r < n→sm w (fun j=>A r j*u j)=0):=by
 have hTl:=hT.1
 unfold m_i7
 rw [ret_bind]
 refine (ret_loop (Post:=fun o:Unit⊕Unit=>(o=.inl ()∧∀ r,r < n→sm w (fun j=>A r j*u j)=0)∨(o=.inr ()∧¬ ∀ r,r < n→sm w (fun j=>A r j*u j)=0)) n (fun k (t:Int)=>t=(k:Int)∧∀ r,r < k→sm w (fun j=>A r j*u j)=0) ⟨rfl,by intro i hi; omega⟩ ?_ (by omega)).mono ?_
 ·rintro k _ hk ⟨rfl,h1⟩
  unfold m_i6
  rw [ret_if,hTl]
  refine ⟨fun hlt=>?_,fun hge=>⟨_,rfl,.inl ⟨rfl,fun r hr=>h1 r (by omega)⟩⟩⟩
  have hkn:k < n:=by omega
  obtain ⟨row,q1,q2⟩:=hT.at (r:=k) hkn rfl
  have hql:=q2.1
  rw [q1,obs,show m_c8 0=some (false,[]) by kernel_rfl,obs,ret_bind]
  have hbd:∀ j,j < w→Bd (pw 5*pw 31) (A k j*u j):=fun j hj=>(hA k j hkn hj).mul (hu j hj)
  refine (ret_loop (Post:=fun o:Bool×List Int=>Bg (sm w fun j=>A k j*u j) o.1 o.2) (s:=(false,[],0)) w (fun j (t:Bool×List Int×Int)=>t.2.2=(j:Int)∧Bg (sm j fun j=>A k j*u j) t.1 t.2.1) ⟨rfl,(bg_zero:Bg (sm 0 fun j=>A k j*u j) false [])⟩ ?_ (by omega)).mono ?_
  ·rintro j ⟨zs,zl,_⟩ hj ⟨rfl,g1⟩
   simp only at g1
   unfold m_i5
   simp only
   rw [ret_if,hql]
   refine ⟨fun hlt=>?_,fun hge=>⟨_,rfl,by obtain rfl:j=w:=(by omega); exact g1⟩⟩
   have hjw:j < w:=by omega
   obtain ⟨y,y1,y2⟩:=q2.at (c:=j) hjw rfl
   obtain ⟨z,z1,z2⟩:=hv.at (c:=j) hjw rfl
   have hyl:=y2.lenB (hA k j hkn hjw) pw56
   have hzl:z.2.length≤32:=z2.lenB (hu j hjw) (by have:=pw_pos 31; show pw 31 < B*pw 31; unfold B; omega)
   have hsl:=sum_len (by omega) (fun i hi=>hbd i (by omega)) g1
   rw [y1,obs,z1,obs,ret_bind]
   refine (mul_bg (s:=y.1) (t:=z.1) y2.1 z2.1 (by omega) (by omega)).mono fun r hr=>?_
   rw [y2.sv,z2.sv] at hr
   have hrl:r.2.length≤37:=hr.lenB (hbd j hjw) (by
    have h1:pw (5+31)=pw 5*pw 31:=pw_add 5 31
    rw [← h1]
    have:=pw_pos 36
    show pw 36 < B*pw 36
    unfold B; omega)
   rw [ret_bind]
   refine (add_bg (s:=zs) (t:=r.1) g1.1 hr.1 (by omega) (by omega)).mono fun h hh=>?_
   rw [g1.sv,hr.sv] at hh
   exact ⟨_,rfl,hjw,wa1' (by omega),hh⟩
  ·rintro ⟨zs,zl⟩ hz
   simp only at hz
   have hzl:=sum_len (by omega) (fun i hi=>hbd i (by omega)) hz
   simp only
   rw [sign_bg hz.1 (by omega),obs,hz.sv,ret_if]
   refine ⟨fun h=>⟨_,rfl,hkn,wa1' (by omega),fun r hr=>?_⟩,fun h=>⟨_,rfl,.inr ⟨rfl,fun ha=>h ?_⟩⟩⟩
   ·by_cases e:r=k
    ·subst e
     split at h
     ·omega
     ·split at h<;>omega
    ·exact h1 r (by omega)
   ·rw [ha k hkn]; rfl
 ·rintro _ (⟨rfl,ha⟩ | ⟨rfl,ha⟩)
  ·exact ⟨_,rfl,by simpa using ha⟩
  ·exact ⟨_,rfl,by simp only [Bool.false_eq_true,false_iff]; exact ha⟩
def MB2:Int:=2*(4*MB) ^ 6
theorem mb2_lt:MB2 < pw 190:=by
 have e1:4*pw 5=2 ^ 162:=by
  rw [pw_two,show 162=2+32*5 from rfl,Int.pow_add]; rfl
 have e2:4*MB=2 ^ 975:=by
  unfold MB
  rw [e1,← Int.pow_mul,show 975=3+162*6 from rfl,Int.pow_add]
  generalize (2:Int) ^ (162*6)=x
  show 4*(2*x)=8*x
  omega
 have e3:MB2=2 ^ 5851:=by
  unfold MB2
  rw [e2,← Int.pow_mul,show 5851=1+975*6 from rfl,Int.pow_add]; rfl
 rw [e3,pw_two]
 have h1:=pw_two_le (N:=5852) (M:=32*190) (by omega)
 have h2:(2:Int) ^ 5852=2 ^ 5851*2:=by rw [show 5852=5851+1 from rfl,Int.pow_succ]
 have h3:(0:Int) < 2 ^ 5851:=Int.pow_pos (by omega)
 omega
theorem okbV {m:Nat} {Y:Mx} (hm:m≤4) (hY:∀ i j,i < m→j < w→Bd MB (Y i j)):Okb m w Y MB2:=by
 have hb:=mb_one
 have h:=okb_of (K:=4) (M:=MB) hb (by omega) hm hY
 have hp:2*(((4:Nat):Int)*MB) ^ (m+2)≤MB2:=by
  have:=pow_mono (X:=((4:Nat):Int)*MB) (by omega) (m:=m+2) (n:=6) (by omega)
  unfold MB2
  show 2*(4*MB) ^ (m+2)≤_
  have h2:(((4:Nat):Int)*MB) ^ (m+2)=(4*MB) ^ (m+2):=rfl
  have h3:(((4:Nat):Int)*MB) ^ 6=(4*MB) ^ 6:=rfl
  omega
 exact fun A' cl q i j h1 h2 h3 h4 h5=>⟨(h A' cl q i j h1 h2 h3 h4 h5).1.mono hp,(h A' cl q i j h1 h2 h3 h4 h5).2.mono hp⟩
theorem mb31:MB < pw 31:=by
 have e1:4*pw 5=2 ^ 162:=by
  rw [pw_two,show 162=2+32*5 from rfl,Int.pow_add]; rfl
 have e2:MB=2 ^ 973:=by
  unfold MB
  rw [e1,← Int.pow_mul,show 973=1+162*6 from rfl,Int.pow_add]; rfl
 rw [e2,pw_two]
 have h1:=pw_two_le (N:=974) (M:=32*31) (by omega)
 have h2:(2:Int) ^ 974=2 ^ 973*2:=by rw [show 974=973+1 from rfl,Int.pow_succ]
 have h3:(0:Int) < 2 ^ 973:=Int.pow_pos (by omega)
 omega
theorem vrank_ok {m:Nat} {Y:Mx} {V:List (List Nb)} (hm:m≤4) (hw:w≤4) (hV:Tg V m w Y) (hY:∀ i j,i < m→j < w→Bd MB (Y i j)):m_fr V=some (((pvs 0 m Y w).length:Int),0):=by
 by_cases h0:m=0
 ·subst h0
  rw [pvs_n0,List.eq_nil_of_length_eq_zero hV.1,xrank_nil]; rfl
 ·obtain ⟨k,h1,A',col,sn,h2⟩:=yrank_ok mb2_lt (hV.tr hY mb31) (by omega) (okbV hm hY) (by omega) (by omega) (.inl (by omega))
  rw [h1,h2.rn.len dz_zero]
def Acc (n w:Nat) (A:Mx) (m:Nat) (Y:Mx) (r p:Int) (R C:List Int):Prop:=PP p∧((R.length:Int)=r∧Asc R n)∧((C.length:Int)=r∧Asc C w)∧(pvs p R.length (Mn A R C) R.length).length=R.length∧(m:Int)=w - r∧(∀ i,i < m→∀ s,s < n→sm w (fun j=>A s j*Y i j)=0)∧(pvs 0 m Y w).length=m
theorem check_acc (hn:n≤4) (hw:w≤4) (hT:Tg T n w A) (hA:∀ i j,i < n→j < w→Bd (pw 5) (A i j)) {st ix vl:List Int} {sh:Int} (hI:m_ee (n:Int) (w:Int) st ix vl=some (T,sh,0)) {m:Nat} {Y:Mx} {V:List (List Nb)} (hm:m≤4) (hV:Tg V m w Y) (hY:∀ i j,i < m→j < w→Bd MB (Y i j)) {r p:Int} {R C:List Int} (hR:R.length≤200) (hC:C.length≤200):Ret (m_i9 (n:Int) (w:Int) st ix vl r p R C V) (fun b=>b=true↔Acc n w A m Y r p R C):=by
 have hVl:=hV.1
 unfold m_i9
 rw [hI,obs]
 simp only [if_true]
 have fls:∀ {P:Prop},¬ P→Ret (some false) (fun b=>b=true↔P):=fun h=>⟨_,rfl,by simp [h]⟩
 rcases isPrime_cases p with hp | ⟨hp,hP⟩
 ·rw [hp,obs,obs,if_pos (by rfl)]
  exact fls fun h=>by rw [pp_true h.1] at hp; cases hp
 rw [hp,obs,obs,if_neg (by have:=hP.max; simp; omega),ret_bind]
 refine (ascending_ok (by omega)).mono fun b1 hb1=>?_
 rw [ret_bind,ret_if]
 have step:Ret (if b1=true then (m_iz C r (w:Int)).bind fun q=>some (!q) else some true) (fun x=>x=false↔((R.length:Int)=r∧Asc R n)∧((C.length:Int)=r∧Asc C w)):=by
  rw [ret_if]
  refine ⟨fun h=>?_,fun h=>⟨_,rfl,by simp only [Bool.true_eq_false,false_iff]; exact fun hh=>h (hb1.2 hh.1)⟩⟩
  rw [ret_bind]
  refine (ascending_ok (by omega)).mono fun b2 hb2=>⟨_,rfl,?_⟩
  show (!b2)=false↔_
  rw [Bool.not_eq_false',hb2]
  exact ⟨fun h2=>⟨hb1.1 h,h2⟩,fun h2=>h2.2⟩
 rw [← ret_if]
 refine step.mono fun x hx=>?_
 rw [ret_bind]
 have step2:Ret (if x=true then some true else (m_i4 T r p R C V).bind fun s=>some (!s)) (fun y=>y=false↔(((R.length:Int)=r∧Asc R n)∧((C.length:Int)=r∧Asc C w))∧(pvs p R.length (Mn A R C) R.length).length=R.length):=by
  rw [ret_if]
  refine ⟨fun h=>⟨_,rfl,by simp only [Bool.true_eq_false,false_iff]; exact fun hh=>by rw [hx.2 hh.1] at h; cases h⟩,fun h=>?_⟩
  have hx':=hx.1 (by simpa using h)
  rw [ret_bind]
  refine (minor_ok hP hT hA rfl (by omega) hx'.1.2 hx'.2.2 hR).mono fun s hs=>⟨_,rfl,?_⟩
  show (!s)=false↔_
  rw [Bool.not_eq_false',hs]
  exact ⟨fun h2=>⟨hx',h2⟩,fun h2=>h2.2⟩
 refine step2.mono fun y hy=>?_
 rw [ret_if]
 refine ⟨fun h=>fls fun ha=>(by rw [hy.2 ⟨⟨ha.2.1,ha.2.2.1⟩,ha.2.2.2.1⟩] at h; cases h),fun h=>?_⟩
 obtain ⟨⟨y1,y2⟩,y3⟩:=hy.1 (by simpa using h)
 rw [ws_i (by omega) (by omega),ret_if,hVl]
 refine ⟨fun h5=>?_,fun h5=>fls fun ha=>h5 ha.2.2.2.2.1⟩
 rw [ret_bind]
 refine (ret_loop (Post:=fun o:Unit⊕Unit=>(o=.inl ()∧∀ i,i < m→∀ s,s < n→sm w (fun j=>A s j*Y i j)=0)∨(o=.inr ()∧¬ ∀ i,i < m→∀ s,s < n→sm w (fun j=>A s j*Y i j)=0)) m (fun k (t:Int)=>t=(k:Int)∧∀ i,i < k→∀ s,s < n→sm w (fun j=>A s j*Y i j)=0) ⟨rfl,by intro i hi; omega⟩ ?_ (by omega)).mono ?_
 ·rintro k _ hk ⟨rfl,h1⟩
  unfold m_i8
  rw [ret_if,hVl]
  refine ⟨fun hlt=>?_,fun hge=>⟨_,rfl,.inl ⟨rfl,fun i hi=>h1 i (by omega)⟩⟩⟩
  have hkm:k < m:=by omega
  obtain ⟨v,v1,v2⟩:=hV.at (r:=k) hkm rfl
  rw [v1,obs,v2.1,if_pos rfl,ret_bind,ret_bind]
  refine (inKernel_ok (by omega) hw hT hA v2 fun j hj=>(hY k j hkm hj).mono (by have:=mb31; omega)).mono fun b hb=>?_
  rw [ret_some,ret_if]
  refine ⟨fun hf=>⟨_,rfl,.inr ⟨rfl,fun ha=>?_⟩⟩,fun hf=>⟨_,rfl,hkm,wa1' (by omega),fun i hi=>?_⟩⟩
  ·rw [hb.2 (ha k hkm)] at hf
   cases hf
  ·by_cases e:i=k
   ·subst e; exact hb.1 (by simpa using hf)
   ·exact h1 i (by omega)
 ·rintro _ (⟨rfl,ha⟩ | ⟨rfl,ha⟩)
  ·simp only
   rw [vrank_ok hm hw hV hY,obs]
   refine ⟨_,rfl,?_⟩
   simp only [decide_true,Bool.true_and,decide_eq_true_eq]
   constructor
   ·intro h; exact ⟨hP,y1,y2,y3,h5,ha,by omega⟩
   ·intro h; have:=h.2.2.2.2.2.2; omega
  ·exact fls fun h=>ha h.2.2.2.2.2.1
end
end Km
namespace Km
open Sx Go M Vc Lm Dt
theorem ints_getD (l:List Nat) (k:Nat):(ints l).getD k 0=((l.getD k 0:Nat):Int):=by
 unfold ints
 rw [List.getD_eq_getElem?_getD,List.getD_eq_getElem?_getD,List.getElem?_map]
 cases l[k]?<;>rfl
theorem asc_ints {l:List Nat} {m:Nat} (h1:l.Pairwise (· < ·)) (h2:∀ x,x∈l→x < m):Asc (ints l) (m:Int):=by
 have hC:Cs_ m l:=⟨h1,h2⟩
 intro k hk
 rw [ints_len] at hk
 rw [ints_getD,ints_getD]
 have:=hC.lt hk
 refine ⟨by omega,by omega,fun h0=>?_⟩
 have:=hC.inj (show k - 1 < k by omega) hk
 omega
theorem asc_pvs {p:Int} {n w:Nat} {A:Mx}:Asc (ints (pvs p n A w)) (w:Int):=asc_ints pvs_asc fun x hx=>(pvs_mem.1 hx).1
section
variable {n w:Nat} {A:Mx}
theorem kv_tab {V:List (List Nb)} (hl:V.length=(frs n A w).length) (hV:∀ (i f:Nat),(frs n A w)[i]?=some f→∃ v,V[i]?=some v∧KV n w A f v):∃ Y:Mx,Tg V (frs n A w).length w Y∧(∀ i j,i < (frs n A w).length→j < w→Bd MB (Y i j))∧(∀ i,i < (frs n A w).length→∀ s,s < n→sm w (fun j=>A s j*Y i j)=0)∧(pvs 0 (frs n A w).length Y w).length=(frs n A w).length:=by
 have key:∀ i,∃ u:Nat→Int,i < (frs n A w).length→(∃ v,V[i]?=some v∧Lg v w u)∧(∀ j,j < w→Bd MB (u j))∧(∀ s,s < n→sm w (fun j=>A s j*u j)=0)∧0 < u ((frs n A w).getD i 0)∧∀ j,j < w→(frs n A w).getD i 0 < j→u j=0:=by
  intro i
  by_cases h:i < (frs n A w).length
  ·obtain ⟨v,v1,u,u1,u2,u3,u4,u5,u6⟩:=hV i _ (List.getElem?_eq_getElem h)
   have hg:(frs n A w).getD i 0=(frs n A w)[i]:=by rw [List.getD_eq_getElem?_getD,List.getElem?_eq_getElem h]; rfl
   exact ⟨u,fun _=>⟨⟨v,v1,u1⟩,u2,u3,by rw [hg]; exact u5,fun j hj hf=>u6 j hj (by omega) fun hm=>by have:=(pvs_mem.1 hm).1; omega⟩⟩
  ·exact ⟨fun _=>0,fun h'=>absurd h' h⟩
 obtain ⟨Y,hY⟩:=Classical.axiomOfChoice key
 refine ⟨Y,⟨hl,fun r hr=>(hY r hr).1⟩,fun i j hi hj=>(hY i hi).2.1 j hj,fun i hi=>(hY i hi).2.2.1,?_⟩
 have hC:Cs_ w (frs n A w):=⟨(range_asc w).filter _,fun x hx=>(frs_mem.1 hx).1⟩
 have hi:=ends_ind (w:=w) (V:=Y) (m:=(frs n A w).length) (f:=fun i=>(frs n A w).getD i 0) (fun i hi=>hC.lt hi) (fun i j hij hj=>hC.inj hij hj) (fun i hi=>by have:=(hY i hi).2.2.2.1; omega) fun i c hi h1 h2=>(hY i hi).2.2.2.2 c h2 h1
 rw [rank_tp dz_zero,hi.range (B:=tp Y) (fun _ _ _ _=>rfl) _ (Nat.le_refl _),List.length_range]
theorem rank_acc {p:Int} (hP:PP p) (hk:keeps n w A p=true) {Y:Mx} (h1:∀ i,i < (frs n A w).length→∀ s,s < n→sm w (fun j=>A s j*Y i j)=0) (h2:(pvs 0 (frs n A w).length Y w).length=(frs n A w).length):Acc n w A (frs n A w).length Y ((pvs 0 n A w).length:Int) p (ints (pvs p w (tp A) n)) (ints (pvs p n A w)):=by
 have hk':(pvs p n A w).length=(pvs 0 n A w).length:=of_decide_eq_true hk
 have ht:=rank_tp (dz_pp hP) (n:=n) (w:=w) (A:=A)
 have hf:=frs_len (n:=n) (A:=A) w
 have hm:=minor_ind (dz_pp hP) hk'
 refine ⟨hP,⟨by rw [ints_len]; omega,asc_pvs⟩,⟨by rw [ints_len]; omega,asc_pvs⟩,?_,by omega,h1,h2⟩
 rw [ints_len,← ht,hk',hm.range (fun r s _ _=>?_) _ (Nat.le_refl _),List.length_range]
 unfold Mn
 rw [ints_getD,ints_getD]
 rfl
end
end Km
namespace Km
open Sx Go M Vc Lm Dt
theorem rrankV {n w:Nat} {A:Mx} {T:List (List Nb)} (hn:n≤4) (hw:w≤4) (hn0:0 < n) (hT:Tg T n w A) (hA:∀ i j,i < n→j < w→Bd (pw 5) (A i j)):m_ix T=some ((pvs 0 n A w).length:Int):=by
 obtain ⟨k,h1,A',col,sn,h2⟩:=rrank_ok mb_lt (okbG hn hA) (hT.tr6 hA) (by omega) (by omega) (by omega) (.inl hn0)
 rw [h1,h2.rn.len dz_zero]
theorem proveAccepts_t (l:List Int) (x3 x4 x5:Int) (low:Bool) (h:okL (Wf .u64) l) (_:Wf .i64 x3) (_:Wf .i64 x4) (_:Wf .i64 x5):m_jg l x3 x4 x5 low=some true:=by
 obtain ⟨⟨_,_,st,ix,vl⟩,p1,n,w,E,hn,hw,rfl,rfl,hP⟩:=pick_ok l (mL h.1) x3 x4 x5 low
 simp only at hP
 obtain ⟨T,sh,A,i1,i2,hT,hA⟩:=ints_ok hP (by omega) (by omega)
 obtain ⟨V,v1,v2,v3⟩:=kernel_ok' hn hw hT hA
 obtain ⟨ps,q1,q2,q3,q4⟩:=primes42
 have s1:=rank_ok hn hw hT hA i1 q1 q2 q4 v1 v2
 obtain ⟨Y,y1,y2,y3,y4⟩:=kv_tab v2 v3
 have hf:=frs_len (n:=n) (A:=A) w
 unfold m_jg
 rw [p1,obs]
 simp only
 cases hq:ps.find? (keeps n w A) with
 | none=>
  have s2:m_hm (n:Int) (w:Int) st ix vl=some (0,0,[],[],[],420):=by rw [hq] at s1; exact s1
  have e1:∀ {X Z:Option Bool},(if (420:Int)=0 then X else Z)=Z:=if_neg (by omega)
  have e2:∀ {X Z:Option Bool},(if (420:Int)=420 then X else Z)=X:=if_pos rfl
  rw [s2,obs]
  show (if (420:Int)=0 then _ else _)=_
  rw [e1]
  show Option.bind (if (420:Int)=420 then m_je.bind fun r=>some r else some false) (fun r=>some r)=some true
  rw [e2,awake42,obs,obs]
 | some p=>
  have s2:m_hm (n:Int) (w:Int) st ix vl=some (((pvs 0 n A w).length:Int),p,ints (pvs p w (tp A) n),ints (pvs p n A w),V,0):=by rw [hq] at s1; exact s1
  have hPp:=q4 p (List.mem_of_find?_eq_some hq)
  have hk:keeps n w A p=true:=List.find?_some hq
  have hle1:=pvs_le (p:=p) (n:=n) (A:=A) w
  have hle2:=pvs_le (p:=p) (n:=w) (A:=tp A) n
  obtain ⟨b,c1,c2⟩:=check_acc hn hw hT hA i1 (m:=(frs n A w).length) (by omega) y1 y2 (r:=((pvs 0 n A w).length:Int)) (p:=p) (R:=ints (pvs p w (tp A) n)) (C:=ints (pvs p n A w)) (by rw [ints_len]; omega) (by rw [ints_len]; omega)
  have hb:b=true:=c2.2 (rank_acc hPp hk y3 y4)
  subst hb
  rw [s2,obs]
  simp only [if_true]
  rw [i2,obs]
  have key:∀ x:Int,x=((pvs 0 n A w).length:Int)→m_jf (((pvs 0 n A w).length:Int),p,ints (pvs p w (tp A) n),ints (pvs p n A w),V,0) ((n:Int),(w:Int),st,ix,vl) x=some true:=by
   rintro _ rfl
   unfold m_jf
   simp only [if_true]
   rw [c1,obs,obs,if_pos rfl,awake42,obs,obs]
  by_cases h0:0 < n∧0 < w
  ·rw [if_pos (by simp; omega),rrankV hn hw h0.1 hT hA,obs]
   exact key _ rfl
  ·rw [if_neg (by simp; omega)]
   have:(pvs 0 n A w).length=0:=by
    rcases (show n=0∨w=0 by omega) with rfl | rfl
    ·rw [pvs_n0]; rfl
    ·rw [pvs_zero]; rfl
   exact key 0 (by omega)
end Km
