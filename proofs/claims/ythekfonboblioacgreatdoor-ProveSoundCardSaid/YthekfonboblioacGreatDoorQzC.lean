/- Tables of numbers; a row minus a multiple of another one, divided exactly. -/
import Derived.Test.YthekfonboblioacGreatDoorQzA
import Derived.Test.YthekfonboblioacGreatDoorQzB
import Derived.KernelRfl
import Derived.Test.YthekfonboblioacGreatDoorSxR
import Derived.Test.YthekfonboblioacGreatDoorM13
import Derived.Test.YthekfonboblioacGreatDoorVcA
set_option linter.unusedVariables false
set_option linter.unusedSimpArgs false
set_option maxHeartbeats 4000000
set_option maxRecDepth 100000
namespace Km
open Sx Go M Vc Lm Dt
abbrev Nb:=Bool×LI
def Lg (l:List Nb) (w:Nat) (f:Nat→Int):Prop:=l.length=w∧∀ c,c < w→∃ z,l[c]?=some z∧Bg (f c) z.1 z.2
def Tg (T:List (List Nb)) (n w:Nat) (A:Mx):Prop:=T.length=n∧∀ r,r < n→∃ l,T[r]?=some l∧Lg l w (A r)
theorem Lg.congr {l:List Nb} {w:Nat} {f g:Nat→Int} (h:Lg l w f) (e:∀ c,c < w→f c=g c):Lg l w g:=⟨h.1,fun c hc=>by obtain ⟨z,h1,h2⟩:=h.2 c hc; exact ⟨z,h1,h2.cast (e c hc)⟩⟩
theorem Tg.congr {T:List (List Nb)} {n w:Nat} {A B:Mx} (h:Tg T n w A) (e:∀ r c,r < n→c < w→A r c=B r c):Tg T n w B:=⟨h.1,fun r hr=>by obtain ⟨l,h1,h2⟩:=h.2 r hr; exact ⟨l,h1,h2.congr fun c hc=>e r c hr hc⟩⟩
theorem Lg.set {l:List Nb} {w:Nat} {f:Nat→Int} (h:Lg l w f) {c:Nat} (hc:c < w) {z:Nb} {v:Int} (hz:Bg v z.1 z.2):Lg (l.set c z) w (fun j=>if j=c then v else f j):=by
 refine ⟨by rw [O3]; exact h.1,fun j hj=>?_⟩
 by_cases e:j=c
 ·subst e
  exact ⟨z,by rw [G5]; rw [h.1]; exact hc,hz.cast (show v=(if j=j then v else f j) from (M0 rfl).symm)⟩
 ·obtain ⟨y,h1,h2⟩:=h.2 j hj
  exact ⟨y,by rw [H6 (fun h=>e h.symm)]; exact h1,h2.cast (show f j=(if j=c then v else f j) from (K0 e).symm)⟩
theorem Tg.set {T:List (List Nb)} {n w:Nat} {A:Mx} (h:Tg T n w A) {k:Nat} (hk:k < n) {l:List Nb} {g:Nat→Int} (hl:Lg l w g):Tg (T.set k l) n w (up A k g):=by
 refine ⟨by rw [O3]; exact h.1,fun r hr=>?_⟩
 by_cases e:r=k
 ·subst e
  exact ⟨l,by rw [G5]; rw [h.1]; exact hk,hl.congr fun c _=>C2.symm⟩
 ·obtain ⟨m,h1,h2⟩:=h.2 r hr
  exact ⟨m,by rw [H6 (fun h=>e h.symm)]; exact h1,h2.congr fun c _=>(H2 e).symm⟩
theorem W2 {α:Type} {l:List α} {k:Nat} {x:α} (hx:l[k]?=some x) {i:Int} (hi:i=(k:Int)):getI l i=some x:=by
 subst hi
 have:=(S2.1 hx).1
 exact Ret.eq (by rw [C3]; exact ⟨A0,A0,fun y hy=>by rw [A1] at hy; exact N3 (hy.symm.trans hx)⟩)
theorem U4 {α:Type} {l:List α} {k:Nat} {x:α} (hk:k < l.length) {i:Int} (hi:i=(k:Int)):setI l i x=some (l.set k x):=by
 subst hi
 exact Ret.eq (by rw [K4,A1]; exact ⟨A0,A0,rfl⟩)
theorem Lg.at {l:List Nb} {w:Nat} {f:Nat→Int} (h:Lg l w f) {c:Nat} (hc:c < w) {i:Int} (hi:i=(c:Int)):∃ z,getI l i=some z∧Bg (f c) z.1 z.2:=by
 obtain ⟨z,h1,h2⟩:=h.2 c hc
 exact ⟨z,W2 h1 hi,h2⟩
theorem Tg.at {T:List (List Nb)} {n w:Nat} {A:Mx} (h:Tg T n w A) {r:Nat} (hr:r < n) {i:Int} (hi:i=(r:Int)):∃ l,getI T i=some l∧Lg l w (A r):=by
 obtain ⟨l,h1,h2⟩:=h.2 r hr
 exact ⟨l,W2 h1 hi,h2⟩
theorem jj {s:Bool} {a:LI} (ha:LW a) (hn:a.length≤1000000):Ret (m_f7 s a) (fun r=>Bg (- sv s a) r.1 r.2):=by
 unfold m_f7
 rw [jc hn,obs,J0]
 exact (Q7 (!s) ha hn).mono fun r hr=>⟨_,rfl,hr.cast (Cf s a)⟩
theorem ju {s:Bool} {a:LI} (ha:LW a) (hn:a.length≤1000000):Ret (m_jz s a) (fun r=>Bg (lv a) r.1 r.2):=by
 unfold m_jz
 rw [jc hn,obs,J0]
 exact (Q7 false ha hn).mono fun r hr=>⟨_,rfl,hr⟩
theorem Vi {s t:Bool} {a b:LI} (ha:LW a) (hb:LW b) (hn:a.length≤800) (hm:b.length≤800) {h:Int} (hne:sv t b≠0) (he:sv s a=sv t b*h):Ret (m_jg s a t b) (fun r=>Bg h r.1 r.2.1∧r.2.2=0):=by
 unfold m_jg
 rw [J0]
 refine (BC (s:=s) (t:=t) ha hb hn hm hne).mono ?_
 rintro ⟨a,b,c,d,e⟩ ⟨hq,hr,h0⟩
 simp only at hq hr h0 ⊢
 subst h0
 rw [he,Int.mul_emod_right] at hr
 rw [he,D9 _ hne] at hq
 have hd:d=[]:=(Rc hr.1 hr.2.1).1 (by rw [hr.abs]; simp)
 subst hd
 rw [K0 H0]
 exact ⟨_,rfl,hq,rfl⟩
theorem Bg.lenB {v:Int} {s:Bool} {l:LI} (h:Bg v s l) {M:Int} {m:Nat} (hb:Bd M v) (hM:M < pw m):l.length≤m:=h.len (by have:=hb.1; omega) (by have:=hb.2; omega)
theorem Xw {row top:List Nb} {w:Nat} {f g h:Nat→Int} {M a p d:Int} (hM:M < pw 190) (hrow:Lg row w f) (htop:Lg top w g) {za zp zd:Nb} (ha:Bg a za.1 za.2) (hp:Bg p zp.1 zp.2) (hd:Bg d zd.1 zd.2) (hd0:d≠0)
  (bf:∀ j,j < w→Bd M (f j)) (bg:∀ j,j < w→Bd M (g j)) (ba:Bd M a) (bp:Bd M p) (bd:Bd M d) (he:∀ j,j < w→p*f j - a*g j=d*h j) (hw:w≤1000):
  Ret (m_ji row top za.1 za.2 zp.1 zp.2 zd.1 zd.2) (fun r=>Lg r w h):=by
 unfold m_ji
 rw [J0]
 have hM0:=ba.nn
 have la:=ha.lenB ba hM
 have lp:=hp.lenB bp hM
 have ld:=hd.lenB bd hM
 have hMM:M*M < pw 380:=by
  have h1:M*M≤M*pw 190:=B3 A0 hM0
  have h2:M*pw 190 < pw 190*pw 190:=qa hM (W1 190)
  have h3:pw 380=pw 190*pw 190:=L7 190 190
  omega
 refine (Q0 (Post:=fun r:List Nb=>Lg r w h) w (fun k (s:List Nb×Int)=>s.2=(k:Int)∧Lg s.1 w (fun j=>if j < k then h j else f j)) ⟨rfl,hrow.congr fun c _=>by rw [B0]⟩ ?_ A0).mono fun r hr=>⟨_,rfl,hr⟩
 rintro k ⟨r,_⟩ hk ⟨rfl,hI⟩
 simp only at hI
 unfold m_jh
 simp only
 rw [htop.1,O0]
 refine ⟨fun hlt=>?_,fun hge=>⟨_,rfl,hI.congr fun c hc=>by rw [C0]⟩⟩
 have hkw:k < w:=A0
 obtain ⟨y,hy,hyB⟩:=htop.at hkw rfl
 obtain ⟨x,hx,hxB⟩:=hI.at hkw rfl
 have hxB:Bg (f k) x.1 x.2:=hxB.cast (show (if k < k then h k else f k)=f k from B0)
 have lx:=hxB.lenB (bf k hkw) hM
 have ly:=hyB.lenB (bg k hkw) hM
 rw [hy,obs,hx,obs,J0]
 refine (nj (s:=zp.1) (t:=x.1) hp.1 hxB.1 A0 A0).mono fun u hu=>?_
 rw [hp.sv,hxB.sv] at hu
 have lu:=hu.lenB (bp.mul (bf k hkw)) hMM
 rw [J0]
 refine (nj (s:=za.1) (t:=y.1) ha.1 hyB.1 A0 A0).mono fun v hv=>?_
 rw [ha.sv,hyB.sv] at hv
 have lv':=hv.lenB (ba.mul (bg k hkw)) hMM
 rw [J0]
 refine (tx (s:=u.1) (t:=v.1) hu.1 hv.1 A0 A0).mono fun q hq=>?_
 rw [hu.sv,hv.sv] at hq
 have h2M:M*M+M*M < pw 381:=by
  have:=W1 380
  have e:pw 381=B*pw 380:=rfl
  have e2:B=4294967296:=rfl
  rw [e,e2]; omega
 have lq:=hq.lenB ((bp.mul (bf k hkw)).sub (ba.mul (bg k hkw))) h2M
 rw [J0]
 refine (Vi (s:=q.1) (t:=zd.1) (h:=h k) hq.1 hd.1 A0 A0 (by rw [hd.sv]; exact hd0) (by rw [hq.sv,hd.sv]; exact he k hkw)).mono ?_
 rintro ⟨t1,t2,t3⟩ ⟨ht,_⟩
 simp only at ht ⊢
 rw [U4 (by rw [hI.1]; exact hkw) rfl,obs]
 refine ⟨_,rfl,hkw,by show wa .i64 (k:Int) 1=_; rw [U0 A0 A0]; rfl,?_⟩
 refine (hI.set hkw (z:=(t1,t2)) ht).congr fun c hc=>?_
 by_cases e:c=k
 ·subst e; rw [M0 rfl,C0]
 ·rw [K0 e]
  by_cases hck:c < k
  ·rw [M0 hck,C0]
  ·rw [K0 hck,B0]
def Okb (n w:Nat) (A:Mx) (M:Int):Prop:=∀ (A':Mx) (cl:Nat→Nat) (q i j:Nat),(∀ i,i < n→∃ i',i' < n∧∀ j,A' i j=A i' j)→q≤n→(∀ s,s < q→cl s < w)→i < n→j < w→Bd M (Rk A' cl q i j)∧Bd M (det q (Pm_ A' cl))
theorem ke {X:Int} (hX:1≤X) {m n:Nat} (h:m≤n):X ^ m≤X ^ n:=by
 obtain ⟨d,rfl⟩:=AD h
 induction d with
 | zero=>exact Qe _
 | succ d ih=>
  have h1:=ih A0
  have h2:=Dt.Zi (show 0≤X by omega) (m+d)
  have h3:X ^ (m+d)*1≤X ^ (m+d)*X:=B3 hX h2
  rw [show m+(d+1)=(m+d)+1 by omega,H8]
  omega
theorem bj {n w K:Nat} {M:Int} {A:Mx} (hM:1≤M) (hK:1≤K) (hnK:n≤K) (hA:∀ i j,i < n→j < w→Bd M (A i j)):Okb n w A (2*(K*M) ^ (n+2)):=by
 intro A' cl q i j hp hq hc hi hj
 have hKM:1≤(K:Int)*M:=by
  have:(1:Int)*1≤K*M:=J8 A0 hM A0 A0
  omega
 have hA':∀ i j,i < n→j < w→Bd M (A' i j):=by
  intro i j hi hj
  obtain ⟨i',h1,h2⟩:=hp i hi
  rw [h2]; exact hA i' j h1 hj
 obtain ⟨h1,h2⟩:=wD (K:=K) (n:=n) (w:=w) (A:=A') (col:=cl) (k:=q) (i:=i) (j:=j) hM hK hA' hq A0 hc hi hj
 have h3:=ke hKM (show q+2≤n+2 by omega)
 exact ⟨h1.mono A0,h2.mono A0⟩
section
variable {n w cw:Nat} {A A':Mx} {col:Nat→Nat} {k c:Nat} {sn M:Int}
theorem Ja (h:Bar n cw A A' col k c sn):∀ i,i < n→∃ i',i' < n∧∀ j,A' i j=A i' j:=by
 obtain ⟨x,xi,hx,hA⟩:=h.perm
 exact fun i hi=>⟨x i,(hx i hi).1,fun j=>hA i j hi⟩
theorem Yp (h:∀ i,i < n→∃ i',i' < n∧∀ j,A' i j=A i' j) {a b:Nat} (ha:a < n) (hb:b < n):∀ i,i < n→∃ i',i' < n∧∀ j,sw A' a b i j=A i' j:=by
 intro i hi
 by_cases e1:i=a
 ·obtain ⟨i',h1,h2⟩:=h b hb
  exact ⟨i',h1,fun j=>by unfold sw; rw [M0 e1]; exact h2 j⟩
 ·by_cases e2:i=b
  ·obtain ⟨i',h1,h2⟩:=h a ha
   exact ⟨i',h1,fun j=>by unfold sw; rw [K0 e1,M0 e2]; exact h2 j⟩
  ·obtain ⟨i',h1,h2⟩:=h i hi
   exact ⟨i',h1,fun j=>by unfold sw; rw [K0 e1,K0 e2]; exact h2 j⟩
theorem Ds (hM:M < pw 190) (hR:Okb n w A M) (h:Bar n cw A A' col k c sn) (hcw:cw≤w) (hw:w≤1000) (hn:n≤1000) (hc:c < cw) {a:Nat} (hka:k≤a) (han:a < n) (hne:Rk A' col k a c≠0)
  {T:List (List Nb)} (hT:Tg T n w (Rk (sw A' k a) col k)) {pv:LI} (hpv:pv.length≤1000) {zd:Nb} (hd:Bg (det k (Pm_ A' col)) zd.1 zd.2) {s':Int}:
  Ret (m_jl (k:Int) (c:Int) zd.1 zd.2 pv T s') (fun r=>Tg r.1 n w (Rk (sw A' k a) (setC col k c) (k+1))∧r.2.1=pv++[(c:Int)]∧Bg (det (k+1) (Pm_ (sw A' k a) (setC col k c))) r.2.2.1 r.2.2.2.1∧r.2.2.2.2=s'):=by
 obtain ⟨hB',hdet,htop,hstep⟩:=h.pivot hc hka han hne
 have hkn:k < n:=A0
 have hrows:=Ja h
 have hrows':=Yp hrows hkn han
 have hlt:∀ s,s < k→col s < w:=fun s hs=>by have:=h.lt s hs; have:=h.cw; omega
 have hlt':∀ s,s < k+1→setC col k c s < w:=fun s hs=>by have:=hB'.lt s hs; have:=hB'.cw; omega
 have bR:∀ i j,i < n→j < w→Bd M (Rk (sw A' k a) col k i j):=fun i j hi hj=>(hR _ _ _ _ _ hrows' h.kn hlt hi hj).1
 have bd:Bd M (det k (Pm_ A' col)):=(hR _ col k 0 c hrows h.kn hlt A0 A0).2
 have hk:∀ j,Rk (sw A' k a) col k k j=Rk A' col k a j:=fun j=>by rw [X8 hka,M0 rfl]
 unfold m_jl
 obtain ⟨lk,h1,h2⟩:=hT.at hkn (i:=(k:Int)) rfl
 obtain ⟨nx,h3,h4⟩:=h2.at (show c < w by omega) (i:=(c:Int)) rfl
 rw [hk] at h4
 rw [h1,obs,h3,obs,J0]
 refine (Q0 (Post:=fun r:List (List Nb)=>Tg r n w (Rk (sw A' k a) (setC col k c) (k+1))) n (fun i (s:List (List Nb)×Int)=>s.2=(i:Int)∧Tg s.1 n w (fun r j=>if r < i∧r≠k then Rk (sw A' k a) (setC col k c) (k+1) r j else Rk (sw A' k a) col k r j)) ⟨rfl,hT.congr fun r j _ _=>by rw [B0]⟩ ?_ A0).mono ?_
 ·rintro i ⟨T',_⟩ hi ⟨rfl,hI⟩
  simp only at hI
  unfold m_jk
  simp only
  rw [hT.1,O0]
  refine ⟨fun hlt2=>?_,fun hge=>⟨_,rfl,hI.congr fun r j hr hj=>?_⟩⟩
  ·have hin:i < n:=A0
   obtain ⟨row,hr1,hr2⟩:=hI.at hin (i:=(i:Int)) rfl
   have hr2:Lg row w (Rk (sw A' k a) col k i):=hr2.congr fun j _=>K0 A0
   have hwa:wa .i64 (i:Int) 1=((i+1:Nat):Int):=by rw [U0 A0 A0]; rfl
   rw [hr1,obs,O0]
   unfold m_jj
   rw [hwa]
   refine ⟨fun he=>⟨_,rfl,hin,rfl,hI.congr fun r j _ _=>?_⟩,fun he=>?_⟩
   ·have hik:i=k:=A0
    by_cases hc2:r < i∧r≠k
    ·rw [M0 hc2,M0 ⟨A0,hc2.2⟩]
    ·rw [K0 hc2,B0]
   ·have hik:i≠k:=A0
    obtain ⟨top,ht1,ht2⟩:=hI.at hkn (i:=(k:Int)) rfl
    have ht2:Lg top w (Rk A' col k a):=ht2.congr fun j _=>(B0).trans (hk j)
    obtain ⟨fz,hf1,hf2⟩:=hr2.at (show c < w by omega) (i:=(c:Int)) rfl
    have hne2:neI (i:Int) (k:Int)=some ():=by unfold neI; rw [K0 he]
    rw [ht1,obs,hf1,obs,hne2,obs,J0]
    have bA:∀ j,j < w→Bd M (Rk A' col k a j):=fun j hj=>by rw [← hk]; exact bR k j hkn hj
    refine (Xw (h:=Rk (sw A' k a) (setC col k c) (k+1) i) hM hr2 ht2 hf2 h4 hd h.d (fun j hj=>bR i j hin hj) bA (bR i c hin A0) (bA c A0) bd (fun j hj=>hstep i j hik) hw).mono fun row' hrow'=>?_
    rw [U4 (by rw [hI.1]; exact hin) rfl,obs]
    refine ⟨_,rfl,hin,rfl,(hI.set hin hrow').congr fun r j hr hj=>?_⟩
    by_cases e:r=i
    ·subst e
     rw [C2,M0 ⟨A0,hik⟩]
    ·rw [H2 e]
     by_cases hc2:r < i∧r≠k
     ·rw [M0 hc2,M0 ⟨A0,hc2.2⟩]
     ·rw [K0 hc2,B0]
  ·by_cases e:r=k
   ·subst e
    rw [B0,hk]; exact (htop j).symm
   ·rw [M0 ⟨A0,e⟩]
 ·intro T' hT'
  rw [J0,D2]
  refine ⟨G0,_,rfl,hT',rfl,?_,rfl⟩
  rw [hdet]; exact h4
theorem ux (hM:M < pw 190) (hR:Okb n w A M) (h:Bar n cw A A' col k c sn) (hcw:cw≤w) (hw:w≤1000) (hn:n≤1000) (hc:c < cw) {a:Nat} (hka:k≤a) (han:a < n) (hne:Rk A' col k a c≠0)
  {T:List (List Nb)} (hT:Tg T n w (Rk A' col k)) {pv:LI} (hpv:pv.length≤1000) {zd:Nb} (hd:Bg (det k (Pm_ A' col)) zd.1 zd.2):
  Ret (m_jm T pv zd.1 zd.2 sn (c:Int) (k:Int) (a:Int)) (fun r=>Tg r.1 n w (Rk (sw A' k a) (setC col k c) (k+1))∧r.2.1=pv++[(c:Int)]∧Bg (det (k+1) (Pm_ (sw A' k a) (setC col k c))) r.2.2.1 r.2.2.2.1∧r.2.2.2.2=(if a=k then sn else -sn)):=by
 have hkn:k < n:=A0
 unfold m_jm
 rw [O0]
 refine ⟨fun hlt=>?_,fun hge=>?_⟩
 ·obtain ⟨la,h1,h2⟩:=hT.at han (i:=(a:Int)) rfl
  obtain ⟨lk,h3,h4⟩:=hT.at hkn (i:=(k:Int)) rfl
  rw [h1,obs,h3,obs,U4 (by rw [hT.1]; exact hkn) rfl,obs,U4 (by rw [O3,hT.1]; exact han) rfl,obs]
  have hT':Tg ((T.set k la).set a lk) n w (Rk (sw A' k a) col k):=by
   refine ((hT.set hkn h2).set han h4).congr fun r j hr hj=>?_
   rw [X8 hka]
   by_cases e1:r=k
   ·subst e1; rw [M0 rfl,H2 A0,C2]
   ·rw [K0 e1]
    by_cases e2:r=a
    ·subst e2; rw [M0 rfl,C2]
    ·rw [K0 e2,H2 e2,H2 e1]
  have hs:wneg .i64 sn= -sn:=by
   rcases h.sg.1 with rfl | rfl
   ·exact IntWalk.i64_in _ ⟨A0,A0⟩
   ·exact IntWalk.i64_in _ ⟨A0,A0⟩
  rw [hs,B0]
  exact Ds hM hR h hcw hw hn hc hka han hne hT' hpv hd
 ·have e:a=k:=A0
  subst e
  rw [M0 rfl]
  refine Ds hM hR h hcw hw hn hc hka han hne ?_ hpv hd
  refine hT.congr fun r j _ _=>?_
  rw [X8 (O2 _)]
  by_cases e1:r=a
  ·subst e1; rw [M0 rfl]
  ·rw [K0 e1,K0 e1]
def EI (n w cw:Nat) (A:Mx) (c:Nat) (T:List (List Nb)) (pv:LI) (zs:Bool) (zl:LI) (sn:Int):Prop:=
 ∃ A' col k,Bar n cw A A' col k c sn∧Tg T n w (Rk A' col k)∧pv=(List.range k).map (fun s=>(col s:Int))∧Bg (det k (Pm_ A' col)) zs zl
theorem Oj (hM:M < pw 190) (hR:Okb n w A M) (hcw:cw≤w) (hw:w≤900) (hn:n≤900) {T:List (List Nb)} (hT:Tg T n w A):
  Ret (m_jq T (cw:Int)) (fun r=>EI n w cw A cw r.1 r.2.1 r.2.2.1 r.2.2.2.1 r.2.2.2.2):=by
 unfold m_jq
 rw [J0]
 refine (Rs (n:=1) A0 A0).mono fun one hone=>?_
 rw [J0]
 refine (Q0 (Post:=fun r:List (List Nb)×LI×Bool×LI×Int=>EI n w cw A cw r.1 r.2.1 r.2.2.1 r.2.2.2.1 r.2.2.2.2) cw (fun c (s:List (List Nb)×LI×Bool×LI×Int×Int)=>s.2.2.2.2.2=(c:Int)∧c≤cw∧EI n w cw A c s.1 s.2.1 s.2.2.1 s.2.2.2.1 s.2.2.2.2.1) ⟨rfl,A0,A,id,0,Bar.start,hT.congr fun r j _ _=>ou.symm,rfl,hone.cast (show (1:Int)=det 0 (Pm_ A id) from rfl)⟩ ?_ A0).mono fun r hr=>⟨_,rfl,hr⟩
 rintro c ⟨T,pv,zs,zl,sn,_⟩ hc ⟨rfl,hcc,A',col,k,hB,hT,hpv,hd⟩
 simp only at hB hT hpv hd
 unfold m_jp
 simp only
 rw [O0]
 refine ⟨fun hlt=>?_,fun hge=>⟨_,rfl,by have e:c=cw:=A0; subst e; exact ⟨A',col,k,hB,hT,hpv,hd⟩⟩⟩
 have hccw:c < cw:=A0
 have hpl:pv.length=k:=by rw [hpv,Qa,w7]
 have hkn:=hB.kn
 have hrows:=Ja hB
 have hlt':∀ s,s < k→col s < w:=fun s hs=>by have:=hB.lt s hs; have:=hB.cw; omega
 have hwa:wa .i64 (c:Int) 1=((c+1:Nat):Int):=by rw [U0 A0 A0]; rfl
 rw [J0]
 refine (Q0 (Post:=fun o=>(o=.inr ()∧∀ i,k≤i→i < n→Rk A' col k i c=0)∨∃ r,o=.inl r∧EI n w cw A (c+1) r.1 r.2.1 r.2.2.1 r.2.2.2.1 r.2.2.2.2) (n - k) (fun i (s:Int)=>s=((k+i:Nat):Int)∧k+i≤n∧∀ j,k≤j→j < k+i→Rk A' col k j c=0) ⟨by rw [hpl]; rfl,A0,fun j h1 h2=>absurd h2 A0⟩ ?_ A0).mono ?_
 ·rintro i _ hi ⟨rfl,hin,hz⟩
  unfold m_jo
  rw [hT.1,O0]
  refine ⟨fun hl2=>?_,fun hge=>⟨_,rfl,.inl ⟨rfl,fun j h1 h2=>hz j h1 A0⟩⟩⟩
  have han:k+i < n:=A0
  obtain ⟨row,h1,h2⟩:=hT.at han (i:=((k+i:Nat):Int)) rfl
  obtain ⟨x,h3,h4⟩:=h2.at (show c < w by omega) (i:=(c:Int)) rfl
  have bx:=(hR _ _ _ _ _ hrows hkn hlt' han (show c < w by omega)).1
  have lx:=h4.lenB bx hM
  rw [h1,obs,h3,obs,ae h4.1 A0,obs,h4.sv,O0]
  refine ⟨fun h0=>⟨_,rfl,A0,?_,A0,fun j hj1 hj2=>?_⟩,fun h0=>?_⟩
  ·rw [U0 A0 A0]; omega
  ·by_cases e:j=k+i
   ·subst e
    revert h0; split
    ·omega
    ·split
     ·omega
     ·intro _; omega
   ·exact hz j hj1 A0
  ·have hne:Rk A' col k (k+i) c≠0:=fun h=>h0 (by rw [h]; rfl)
   have hpl':(pv.length:Int)=(k:Int):=by rw [hpl]
   rw [hpl',J0]
   refine (ux (zd:=(zs,zl)) hM hR hB hcw A0 A0 hccw A0 han hne hT A0 hd).mono ?_
   rintro ⟨T',pv',zs',zl',sn'⟩ ⟨g1,g2,g3,g4⟩
   simp only at g1 g2 g3 g4 ⊢
   refine ⟨_,rfl,.inr ⟨_,rfl,sw A' k (k+i),setC col k c,k+1,?_,g1,?_,g3⟩⟩
   ·have:=(hB.pivot hccw A0 han hne).1
    show Bar n cw A (sw A' k (k+i)) (setC col k c) (k+1) (c+1) sn'
    rw [g4]; exact this
   ·show pv'=_
    rw [g2,hpv,Bb,dh]
    congr 1
    ·refine Iu fun s hs=>?_
     rw [S9 (M6.1 hs)]
    ·show [(c:Int)]=[((setC col k c k:Nat):Int)]
     rw [db]
 ·rintro _ (⟨rfl,hz⟩ | ⟨⟨T',pv',zs',zl',sn'⟩,rfl,hE⟩)
  ·show Ret (m_jn _ _ _ _ _ _) _
   unfold m_jn
   exact ⟨_,rfl,hccw,hwa,A0,A',col,k,hB.none hccw hz,hT,hpv,hd⟩
  ·show Ret (m_jn _ _ _ _ _ _) _
   unfold m_jn
   exact ⟨_,rfl,hccw,hwa,A0,hE⟩
end
theorem Lg.snoc {l:List Nb} {k:Nat} {f:Nat→Int} (h:Lg l k f) {z:Nb} (hz:Bg (f k) z.1 z.2):Lg (l++[z]) (k+1) f:=by
 refine ⟨by rw [P1,h.1]; rfl,fun c hc=>?_⟩
 by_cases e:c < k
 ·obtain ⟨y,h1,h2⟩:=h.2 c e
  exact ⟨y,by rw [B6 (by rw [h.1]; exact e)]; exact h1,h2⟩
 ·obtain rfl:c=k:=A0
  exact ⟨z,by rw [I6 (by rw [h.1]; omega),h.1,E6]; rfl,hz⟩
theorem Tg.snoc {T:List (List Nb)} {k w:Nat} {A:Mx} (h:Tg T k w A) {l:List Nb} (hl:Lg l w (A k)):Tg (T++[l]) (k+1) w A:=by
 refine ⟨by rw [P1,h.1]; rfl,fun c hc=>?_⟩
 by_cases e:c < k
 ·obtain ⟨y,h1,h2⟩:=h.2 c e
  exact ⟨y,by rw [B6 (by rw [h.1]; exact e)]; exact h1,h2⟩
 ·obtain rfl:c=k:=A0
  exact ⟨l,by rw [I6 (by rw [h.1]; omega),h.1,E6]; rfl,hl⟩
section
variable {n w:Nat} {A:Mx} {T:List (List Nb)}
theorem dm (hT:Tg T n w A):m_i5 T=some (if n=0 then 0 else (w:Int)):=by
 unfold m_i5
 by_cases h0:n=0
 ·rw [M0 (by rw [hT.1]; omega),M0 h0]
 ·rw [K0 (by rw [hT.1]; omega),K0 h0]
  obtain ⟨l,h1,h2⟩:=hT.at (r:=0) A0 (i:=0) rfl
  rw [h1,obs,h2.1]
theorem gw (hT:Tg T n w A) (hn:n≤16) (hw:w≤16):m_ja T=some 0:=by
 have hc:m_i9 T (if n=0 then 0 else (w:Int))=some false:=by
  refine Ret.eq ?_
  unfold m_i9 m_i8
  rw [J0,J0]
  refine (Q0 (Post:=fun o=>o=.inl ()) n (fun k (i:Int)=>i=(k:Int)) rfl ?_ A0).mono ?_
  ·rintro k _ hk rfl
   unfold m_i7
   rw [hT.1,O0]
   refine ⟨fun hlt=>?_,fun _=>⟨_,rfl,rfl⟩⟩
   obtain ⟨l,h1,h2⟩:=hT.at (r:=k) A0 (i:=(k:Int)) rfl
   unfold m_i6
   rw [h1,obs,obs,h2.1,K0 (show ¬ n=0 by omega)]
   simp only [decide_true,W7,E9,if_false]
   exact ⟨_,rfl,A0,by show wa .i64 (k:Int) 1=_; rw [U0 A0 A0]; rfl⟩
  ·rintro _ rfl
   exact ⟨_,rfl,_,rfl,rfl⟩
 unfold m_ja
 rw [dm hT,obs,hc,obs,K0 H0,hT.1,K0]
 simp only [H5,decide_eq_true_eq,not_or]
 split<;>omega
theorem mA {v:Int} {z:Nb} (hz:Bg v z.1 z.2) (hl:z.2.length≤1000000):Ret (m_f9 z.1 z.2) (fun r=>Bg v r.1 r.2):=(Zf (s:=z.1) hz.1 hl).mono fun r hr=>by rw [hz.sv] at hr; exact hr
theorem Ey {row:List Nb} {f:Nat→Int} {M:Int} (hM:M < pw 190) (hrow:Lg row w f) (bf:∀ j,j < w→Bd M (f j)) (hw:w≤1000):Ret (loop (m_jc row) ([],0)) (fun o=>Lg o w f):=by
 refine Q0 (Post:=fun o:List Nb=>Lg o w f) w (fun k (s:List Nb×Int)=>s.2=(k:Int)∧Lg s.1 k f) ⟨rfl,rfl,fun c hc=>absurd hc A0⟩ ?_ A0
 rintro k ⟨o,_⟩ hk ⟨rfl,hI⟩
 simp only at hI
 unfold m_jc
 simp only
 rw [hrow.1,O0]
 refine ⟨fun hlt=>?_,fun hge=>⟨_,rfl,by have e:k=w:=A0; subst e; exact hI⟩⟩
 have hkw:k < w:=A0
 obtain ⟨z,h1,h2⟩:=hrow.at hkw (i:=(k:Int)) rfl
 have lz:=h2.lenB (bf k hkw) hM
 rw [h1,obs,J0]
 refine (mA h2 A0).mono fun r hr=>?_
 rw [J0,D2]
 refine ⟨by rw [hI.1]; simp only [E2,N2]; omega,_,rfl,hkw,by show wa .i64 (k:Int) 1=_; rw [U0 A0 A0]; rfl,hI.snoc (z:=(r.1,r.2)) hr⟩
theorem Fw {M:Int} (hM:M < pw 190) (hT:Tg T n w A) (bA:∀ i j,i < n→j < w→Bd M (A i j)) (hn:n≤1000) (hw:w≤1000):Ret (m_je T []) (fun o=>Tg o n w A):=by
 unfold m_je
 rw [J0]
 refine (Q0 (Post:=fun o:List (List Nb)=>Tg o n w A) n (fun k (s:List (List Nb)×Int)=>s.2=(k:Int)∧Tg s.1 k w A) ⟨rfl,rfl,fun c hc=>absurd hc A0⟩ ?_ A0).mono fun r hr=>⟨_,rfl,hr⟩
 rintro k ⟨o,_⟩ hk ⟨rfl,hI⟩
 simp only at hI
 unfold m_jd
 simp only
 rw [hT.1,O0]
 refine ⟨fun hlt=>?_,fun hge=>⟨_,rfl,by have e:k=n:=A0; subst e; exact hI⟩⟩
 have hkn:k < n:=A0
 obtain ⟨row,h1,h2⟩:=hT.at hkn (i:=(k:Int)) rfl
 rw [h1,obs,J0]
 refine (Ey hM h2 (fun j hj=>bA k j hkn hj) hw).mono fun r hr=>?_
 rw [K0 H0]
 unfold m_jb
 rw [J0,D2]
 exact ⟨by rw [hI.1]; simp only [E2,N2]; omega,_,rfl,hkn,by show wa .i64 (k:Int) 1=_; rw [U0 A0 A0]; rfl,hI.snoc hr⟩
theorem Pp {R:List (List Nb)} {pv:LI} {zs:Bool} {zl:LI} {sg' D v:Int} {z:Nb} (hD:Bg D zs zl) (hz:Bg v z.1 z.2) (l1:zl.length≤1000) (l2:z.2.length≤1000):Ret (m_j0 R pv zs zl sg' z.1 z.2) (fun r=>Bg (if D < 0 then -v else v) r.1 r.2):=by
 unfold m_j0
 rw [ae hD.1 A0,obs,hD.sv,O0]
 refine ⟨fun hc=>?_,fun hc=>?_⟩
 ·have hneg:D < 0:=by revert hc; split<;>(try split)<;>omega
  rw [J0]
  refine (jj (s:=z.1) hz.1 A0).mono fun r hr=>⟨_,rfl,hr.cast ?_⟩
  rw [hz.sv,M0 hneg]
 ·have hneg:¬ D < 0:=fun h=>hc (by rw [M0 h]; omega)
  rw [J0]
  refine (Zf (s:=z.1) hz.1 A0).mono fun r hr=>⟨_,rfl,hr.cast ?_⟩
  rw [hz.sv,K0 hneg]
end
theorem Mz {M:Int} (hM:M < pw 60) (h0:0≤M):M*M < pw 120:=by
 have h1:M*M≤M*pw 60:=B3 A0 h0
 have h2:M*pw 60 < pw 60*pw 60:=qa hM (W1 60)
 have h3:pw 120=pw 60*pw 60:=L7 60 60
 omega
theorem kx {M:Int} (hM:M < pw 60) (h0:0≤M) {k:Nat} (hk:k≤1000):(k:Int)*(M*M) < pw 121:=by
 have h1:=Mz hM h0
 have h2:=K3 h0 h0
 have h3:(k:Int)*(M*M)≤1000*(M*M):=X2 A0 h2
 have e:pw 121=B*pw 120:=rfl
 have e2:B=4294967296:=rfl
 have:=W1 120
 rw [e,e2]; omega
section
variable {n w:Nat} {A:Mx} {T:List (List Nb)} {M:Int}
end
def mb (n:Nat):Int:=2*(((4:Nat):Int)*100) ^ (n+2)
theorem mb_ok {n:Nat} (hn:n≤4):mb n < pw 60∧100≤mb n:=by
 have e:(((4:Nat):Int)*100)=400:=by decide
 have h1:=ke (X:=400) A0 (show n+2≤6 by omega)
 have h2:=ke (X:=400) A0 (show 1≤n+2 by omega)
 have h3:pw 2≤pw 60:=S5 A0
 have h4:(2:Int)*400 ^ 6 < pw 2:=by decide
 have h5:(400:Int) ^ 1=400:=by decide
 unfold mb
 rw [e]
 exact ⟨A0,A0⟩
theorem uE {l:LI} {n w:Nat} {A:Mx} (hn:n≤4) (hA:∀ i j,i < n→j < w→Bd 100 (A i j)):Okb n w A (mb n):=bj (K:=4) (M:=100) A0 A0 hn hA
section
variable {n w:Nat} {A:Mx} {T:List (List Nb)} {M:Int}
theorem pr_nn {n:Nat} {f:Nat→Int} (h:∀ i,i < n→0≤f i):0≤pr n f:=by
 induction n with
 | zero=>show (0:Int)≤1; omega
 | succ n ih=>exact K3 (ih fun i hi=>h i A0) (h n A0)
end
def vk (fr:Nat) (a:Int) (col:Nat→Nat) (X:Nat→Int):Nat→Nat→Int
 | 0,j=>if j=fr then a else 0
 | i+1,j=>if j=col i then X i else vk fr a col X i j
section
variable {fr k:Nat} {a:Int} {col:Nat→Nat} {X:Nat→Int}
theorem Xa:∀ i,(∀ s,s < i→col s≠fr)→vk fr a col X i fr=a
 | 0,_=>M0 rfl
 | i+1,h=>(K0 (fun e=>h i A0 e.symm)).trans (Xa i fun s hs=>h s A0)
theorem Ya:∀ i,(∀ s t,s < t→t < i→col s < col t)→∀ s,s < i→vk fr a col X i (col s)=X s
 | 0,_,s,hs=>absurd hs A0
 | i+1,h,s,hs=>by
  show (if col s=col i then X i else vk fr a col X i (col s))=X s
  by_cases e:s=i
  ·subst e; rw [M0 rfl]
  ·have:=h s i A0 A0
   rw [B0]
   exact Ya i (fun s t h1 h2=>h s t h1 A0) s A0
theorem Jc {j:Nat} (hj:j≠fr):∀ i,(∀ s,s < i→col s≠j)→vk fr a col X i j=0
 | 0,_=>K0 hj
 | i+1,h=>(K0 (fun e=>h i A0 e.symm)).trans (Jc hj i fun s hs=>h s A0)
theorem wi {M:Int} (hM:0≤M) (ha:Bd M a):∀ i,(∀ s,s < i→Bd M (X s))→∀ j,Bd M (vk fr a col X i j)
 | 0,_,j=>by
  show Bd M (if j=fr then a else 0)
  split
  ·exact ha
  ·exact ⟨A0,hM⟩
 | i+1,h,j=>by
  show Bd M (if j=col i then X i else vk fr a col X i j)
  split
  ·exact h i A0
  ·exact wi hM ha i (fun s hs=>h s A0) j
end
theorem Lg.zeros (w:Nat):Lg (List.replicate w ((false,[]):Nb)) w (fun _=>0):=⟨B5 ..,fun c hc=>⟨(false,[]),by rw [Db,M0 hc],xe⟩⟩
theorem Ij {x y:Int} (hx:0 < x):0 < ((Int.gcd x y:Nat):Int)∧((Int.gcd x y:Nat):Int)≤x:=by
 have h1:((Int.gcd x y:Nat):Int) ∣ x:=Ec ..
 have h2:=Re hx h1
 have h3:Int.gcd x y≠0:=by
  intro h
  rw [Int.gcd_eq_zero_iff] at h
  omega
 omega
section
variable {n w:Nat} {A:Mx} {T:List (List Nb)} {M:Int}
def KR (n w:Nat) (A:Mx) (M:Int) (l:List Nb) (k:Nat):Prop:=
 (∃ A' col sn,Bar n w A A' col k w sn)∧((l=[]∧k=w)∨(k < w∧∃ u,Lg l w u∧(∀ j,j < w→Bd M (u j))∧(∀ r,r < n→sm w (fun j=>A r j*u j)=0)∧∀ d,(∀ j,j < w→d ∣ u j)→d ∣ 1))
theorem DE (hM:M < pw 190) (hR:Okb n w A M) (hT:Tg T n w A) (bA:∀ i j,i < n→j < w→Bd M (A i j)) (hn:n≤16) (hw:w≤16) (hn0:0 < n) (hw0:0 < w):
  ∃ l k,m_j6 T=some (l,0)∧m_jr T=some (((k:Nat):Int),0)∧KR n w A M l k:=by
 obtain ⟨T',ht,hT'⟩:=Fw hM hT bA A0 A0
 obtain ⟨⟨R,pv,zs,zl,sn⟩,hel,A',col,k,hB,hTR,hpv,hd⟩:=Oj (cw:=w) hM hR (O2 w) A0 A0 hT'
 simp only at hB hTR hpv hd
 have hpl:pv.length=k:=by rw [hpv,Qa,w7]
 have hcol:m_i5 T=some (w:Int):=by rw [dm hT,B0]
 have hchk:=gw hT hn hw
 have hrank:m_jr T=some ((k:Int),0):=by
  unfold m_jr
  rw [hchk,obs,M0 rfl,ht,obs,hcol,obs,hel,obs]
  simp only
  rw [hpl]
 have hpg:∀ s,s < k→getI pv (s:Int)=some (col s:Int):=fun s hs=>W2 (by rw [hpv,Ra,Cc hs]; rfl) rfl
 have hcols:∀ s,s < k→col s < w:=fun s hs=>hB.lt s hs
 have hge:∀ d s,s+d < k→col s+d≤col (s+d):=by
  intro d s
  induction d with
  | zero=>intro _; exact O2 _
  | succ d ih=>intro hd; have:=hB.asc (s+d) (s+(d+1)) A0 A0; have:=ih A0; omega
 have hkw:k≤w:=by
  rcases ma k with h | h
  ·omega
  ·have h1:=hge (k - 1) 0 A0
   have h2:=hcols (k - 1) A0
   rw [Y8] at h1
   omega
 have bD:=(hR A' col k 0 0 (Ja hB) hB.kn hcols hn0 hw0).2
 have bX:∀ i j,i < n→j < w→Bd M (Rk A' col k i j):=fun i j hi hj=>(hR A' col k i j (Ja hB) hB.kn hcols hi hj).1
 have hM0:=bD.nn
 have ld:=hd.lenB bD hM
 have hD0:=hB.d
 have hfree:Ret (loop (m_j5 (R,pv,zs,zl,sn)) 0) (fun o=>∃ fr:Nat,o=(fr:Int)∧fr≤k∧(∀ s,s < fr→col s=s)∧(fr < k→col fr≠fr)):=by
  refine Q0 (Post:=fun o=>∃ fr:Nat,o=(fr:Int)∧fr≤k∧(∀ s,s < fr→col s=s)∧(fr < k→col fr≠fr)) k (fun j (i:Int)=>i=(j:Int)∧j≤k∧∀ s,s < j→col s=s) ⟨rfl,A0,fun s hs=>absurd hs A0⟩ ?_ A0
  rintro j _ hj ⟨rfl,hjk,hI⟩
  unfold m_j5
  simp only
  rw [hpl]
  by_cases hlt:j < k
  ·rw [C0,hpg j hlt,obs,obs,O0]
   refine ⟨fun he=>⟨_,rfl,hlt,by rw [U0 A0 A0]; rfl,hlt,fun s hs=>?_⟩,fun he=>⟨_,rfl,j,rfl,hjk,hI,fun _ h=>he (by rw [h]; simp)⟩⟩
   have he:(col j:Int)=(j:Int):=by simpa using he
   by_cases e:s=j
   ·subst e; omega
   ·exact hI s A0
  ·rw [B0,obs,K0 H0]
   exact ⟨_,rfl,j,rfl,hjk,hI,fun h=>absurd h hlt⟩
 obtain ⟨_,hfl,fr,rfl,hfk,hfs,hfn⟩:=hfree
 have hpre:∀ (f:Int→Option (List Nb×Int)),((loop (m_j5 (R,pv,zs,zl,sn)) 0).bind f)=f (fr:Int):=fun f=>by rw [hfl,obs]
 by_cases hfw:fr=w
 ·refine ⟨[],k,?_,hrank,⟨A',col,sn,hB⟩,.inl ⟨rfl,A0⟩⟩
  unfold m_j6
  rw [hchk,obs,M0 rfl,hcol,obs,ht,obs,hel,obs,hpre,C0]
 ·have hno:∀ s,s < k→col s≠fr:=by
   intro s hs
   by_cases h1:s < fr
   ·rw [hfs s h1]; omega
   ·have h2:fr < k:=A0
    have h3:=hfn h2
    have h4:=hge (s - fr) fr A0
    rw [show fr+(s - fr)=s by omega] at h4
    have h5:fr≤col fr:=by
     rcases ma fr with h | h
     ·omega
     ·have h6:=hB.asc (fr - 1) fr A0 h2
      rw [hfs (fr - 1) A0] at h6
      omega
    omega
  have hkw2:k < w:=by
   refine H1 fun hc=>?_
   have hk:k=w:=A0
   have h2:fr < k:=A0
   have h4:=hge (k - 1 - fr) fr A0
   rw [show fr+(k - 1 - fr)=k - 1 by omega] at h4
   have h5:fr≤col fr:=by
    rcases ma fr with h | h
    ·omega
    ·have h6:=hB.asc (fr - 1) fr A0 h2
     rw [hfs (fr - 1) A0] at h6
     omega
   have h3:=hfn h2
   have h7:=hcols (k - 1) A0
   omega
  have hfrw:fr < w:=A0
  generalize hDD:det k (Pm_ A' col)=D at*
  let a:Int:=if D < 0 then -D else D
  let X:Nat→Int:=fun s=>if D < 0 then Rk A' col k s fr else - Rk A' col k s fr
  have ha0:0 < a:=by show 0 < (if D < 0 then -D else D); split<;>omega
  have ba:Bd M a:=by show Bd M (if D < 0 then -D else D); split; exact bD.neg; exact bD
  have hkn:=hB.kn
  have bXs:∀ s,s < k→Bd M (X s):=fun s hs=>by
   show Bd M (if D < 0 then Rk A' col k s fr else - Rk A' col k s fr)
   split
   ·exact bX s fr A0 hfrw
   ·exact (bX s fr A0 hfrw).neg
  have key:Ret (m_j6 T) (fun r=>r.2=0∧∃ u,Lg r.1 w u∧(∀ j,j < w→Bd M (u j))∧(∀ r,r < n→sm w (fun j=>A r j*u j)=0)∧∀ d,(∀ j,j < w→d ∣ u j)→d ∣ 1):=by
   unfold m_j6
   rw [hchk,obs,M0 rfl,hcol,obs,ht,obs,hel,obs,hpre,B0,J0,Y5]
   refine ⟨A0,A0,?_⟩
   rw [A1,J0]
   refine (ju (s:=zs) hd.1 A0).mono fun z hz=>?_
   have hz:Bg a z.1 z.2:=by rw [hd.abs] at hz; exact hz
   have h0:Lg ((List.replicate w ((false,[]):Nb)).set fr (z.1,z.2)) w (vk fr a col X 0):=((Lg.zeros w).set hfrw (z:=(z.1,z.2)) hz).congr fun c _=>rfl
   rw [U4 (by rw [B5]; exact hfrw) rfl,obs]
   obtain ⟨y,hy1,hy2⟩:=h0.at hfrw (i:=(fr:Int)) rfl
   have hy2:Bg a y.1 y.2:=hy2.cast (M0 rfl)
   rw [hy1,obs,J0]
   refine (Q0 (Post:=fun o:List Nb×Bool×LI=>Lg o.1 w (vk fr a col X k)∧∃ G,Bg G o.2.1 o.2.2∧(0 < G∧G≤a)∧(G ∣ a∧∀ s,s < k→G ∣ X s)∧∀ d,d ∣ a→(∀ s,s < k→d ∣ X s)→d ∣ G) k (fun i (s:List Nb×Bool×LI×Int)=>s.2.2.2=(i:Int)∧Lg s.1 w (vk fr a col X i)∧∃ G,Bg G s.2.1 s.2.2.1∧(0 < G∧G≤a)∧(G ∣ a∧∀ s,s < i→G ∣ X s)∧∀ d,d ∣ a→(∀ s,s < i→d ∣ X s)→d ∣ G) ⟨rfl,h0,a,hy2,⟨ha0,Qe a⟩,⟨Vu a,fun s hs=>absurd hs A0⟩,fun d h _=>h⟩ ?_ A0).mono ?_
   ·rintro i ⟨o,gs,gl,_⟩ hi ⟨rfl,hI,G,hG,⟨g0,g1⟩,⟨g2,g3⟩,g4⟩
    simp only at hI hG
    unfold m_j4
    simp only
    rw [hpl,O0]
    refine ⟨fun hlt=>?_,fun hge2=>⟨_,rfl,by have e:i=k:=A0; subst e; exact ⟨hI,G,hG,⟨g0,g1⟩,⟨g2,g3⟩,g4⟩⟩⟩
    have hik:i < k:=A0
    obtain ⟨row,h1,h2⟩:=hTR.at (show i < n by omega) (i:=(i:Int)) rfl
    obtain ⟨x,h3,h4⟩:=h2.at hfrw (i:=(fr:Int)) rfl
    have lx:=h4.lenB (bX i fr A0 hfrw) hM
    rw [hpg i hik,obs,h1,obs,h3,obs,J0]
    refine (Pp hd h4 A0 A0).mono fun t ht2=>?_
    have bt:Bd M (if D < 0 then - Rk A' col k i fr else Rk A' col k i fr):=by
     split
     ·exact (bX i fr A0 hfrw).neg
     ·exact bX i fr A0 hfrw
    have lt:=ht2.lenB bt hM
    rw [J0]
    refine (jj (s:=t.1) ht2.1 A0).mono fun q hq=>?_
    have hq:Bg (X i) q.1 q.2:=by
     rw [ht2.sv] at hq
     refine hq.cast ?_
     show -(if D < 0 then - Rk A' col k i fr else Rk A' col k i fr)=if D < 0 then Rk A' col k i fr else - Rk A' col k i fr
     split<;>omega
    have hci:=hcols i hik
    rw [U4 (by rw [hI.1]; exact hci) rfl,obs]
    have hS:Lg (o.set (col i) (q.1,q.2)) w (vk fr a col X (i+1)):=(hI.set hci (z:=(q.1,q.2)) hq).congr fun c _=>rfl
    obtain ⟨y2,hy3,hy4⟩:=hS.at hci (i:=(col i:Int)) rfl
    have hy4:Bg (X i) y2.1 y2.2:=hy4.cast (M0 rfl)
    have ly2:=hy4.lenB (bXs i hik) hM
    have lG:=hG.lenB (show Bd M G from ⟨A0,by have:=ba.2; omega⟩) hM
    rw [hy3,obs,J0]
    refine (Ps (s:=gs) (t:=y2.1) hG.1 hy4.1 A0 A0).mono fun g hg=>?_
    rw [hG.sv,hy4.sv] at hg
    obtain ⟨e1,e2⟩:=Ij (x:=G) (y:=X i) g0
    have d1:((Int.gcd G (X i):Nat):Int) ∣ G:=Ec ..
    have d2:((Int.gcd G (X i):Nat):Int) ∣ X i:=Dc ..
    refine ⟨_,rfl,hik,by show wa .i64 (i:Int) 1=_; rw [U0 A0 A0]; rfl,hS,_,hg,⟨e1,A0⟩,⟨Fc d1 g2,fun s hs=>?_⟩,fun d hda hdx=>?_⟩
    ·by_cases e:s=i
     ·subst e; exact d2
     ·exact Fc d1 (g3 s A0)
    ·exact Int.dvd_coe_gcd (g4 d hda fun s hs=>hdx s A0) (hdx i A0)
   ·rintro ⟨o,gs,gl⟩ ⟨hO,G,hG,⟨g0,g1⟩,⟨g2,g3⟩,g4⟩
    simp only at hO hG ⊢
    have bv:∀ j,Bd M (vk fr a col X k j):=wi hM0 ba k bXs
    have hGd:∀ j,j < w→G ∣ vk fr a col X k j:=by
     intro j hj
     by_cases e:j=fr
     ·subst e; rw [Xa k hno]; exact g2
     ·by_cases hex:∃ s,s < k∧col s=j
      ·obtain ⟨s,hs,rfl⟩:=hex
       rw [Ya k hB.asc s hs]; exact g3 s hs
      ·rw [Jc e k fun s hs h=>hex ⟨s,hs,h⟩]; exact Int.dvd_zero _
    have hue:∀ j,j < w→G*(vk fr a col X k j / G)=vk fr a col X k j:=fun j hj=>Su (hGd j hj)
    have lG:=hG.lenB (show Bd M G from ⟨A0,by have:=ba.2; omega⟩) hM
    have bu:∀ j,j < w→Bd M (vk fr a col X k j / G):=by
     intro j hj
     have h1:=hue j hj
     have h2:=bv j
     generalize vk fr a col X k j / G=u at*
     rw [← h1] at h2
     rcases Int.le_total 0 u with h3 | h3
     ·have:1*u≤G*u:=X2 A0 h3
      exact ⟨A0,by have:=h2.2; omega⟩
     ·have:G*u≤1*u:=kl A0 h3
      exact ⟨by have:=h2.1; omega,A0⟩
    rw [J0]
    refine (Q0 (Post:=fun r:List Nb=>Lg r w (fun j=>vk fr a col X k j / G)) w (fun i (s:List Nb×Int)=>s.2=(i:Int)∧Lg s.1 w (fun j=>if j < i then vk fr a col X k j / G else vk fr a col X k j)) ⟨rfl,hO.congr fun c _=>(B0).symm⟩ ?_ A0).mono ?_
    ·rintro i ⟨r,_⟩ hi ⟨rfl,hI⟩
     simp only at hI
     unfold m_j3
     simp only
     rw [hO.1,O0]
     refine ⟨fun hlt=>?_,fun hge2=>⟨_,rfl,hI.congr fun c hc=>M0 A0⟩⟩
     have hiw:i < w:=A0
     obtain ⟨x,h1,h2⟩:=hI.at hiw (i:=(i:Int)) rfl
     have h2:Bg (vk fr a col X k i) x.1 x.2:=h2.cast (B0)
     have lx:=h2.lenB (bv i) hM
     rw [h1,obs,J0]
     refine (Vi (s:=x.1) (t:=gs) (h:=vk fr a col X k i / G) h2.1 hG.1 A0 A0 (by rw [hG.sv]; omega) (by rw [h2.sv,hG.sv,hue i hiw])).mono ?_
     rintro ⟨t1,t2,t3⟩ ⟨ht3,_⟩
     simp only at ht3 ⊢
     rw [U4 (by rw [hI.1]; exact hiw) rfl,obs]
     refine ⟨_,rfl,hiw,by show wa .i64 (i:Int) 1=_; rw [U0 A0 A0]; rfl,(hI.set hiw (z:=(t1,t2)) ht3).congr fun c hc=>?_⟩
     by_cases e:c=i
     ·subst e; rw [M0 rfl,C0]
     ·rw [K0 e]
      by_cases hck:c < i
      ·rw [M0 hck,C0]
      ·rw [K0 hck,B0]
    ·intro r hr
     refine ⟨_,rfl,rfl,_,hr,bu,fun i hi=>?_,fun d hdv=>?_⟩
     ·
      have hker:=hB.kernel hfrw hno (v:=fun j=>if D < 0 then - vk fr a col X k j else vk fr a col X k j) (by
       show (if D < 0 then - vk fr a col X k fr else vk fr a col X k fr)=det k (Pm_ A' col)
       rw [Xa k hno,hDD]
       show (if D < 0 then -(if D < 0 then -D else D) else (if D < 0 then -D else D))=D
       split<;>omega) (fun s hs=>by
       show (if D < 0 then - vk fr a col X k (col s) else vk fr a col X k (col s))=_
       rw [Ya k hB.asc s hs]
       show (if D < 0 then -(if D < 0 then Rk A' col k s fr else - Rk A' col k s fr) else (if D < 0 then Rk A' col k s fr else - Rk A' col k s fr))=_
       split<;>omega) (fun j hj h1 h2=>by
       show (if D < 0 then - vk fr a col X k j else vk fr a col X k j)=0
       rw [Jc h1 k h2]; split<;>omega) i hi
      have e1:sm w (fun j=>A i j*vk fr a col X k j)=0:=by
       by_cases hn2:D < 0
       ·have e2:sm w (fun j=>A i j*(if D < 0 then - vk fr a col X k j else vk fr a col X k j))= -1*sm w (fun j=>A i j*vk fr a col X k j):=by
         rw [← E3]; exact V0 fun j _=>by rw [M0 hn2]; grind
        rw [e2] at hker; omega
       ·have e2:sm w (fun j=>A i j*(if D < 0 then - vk fr a col X k j else vk fr a col X k j))=sm w (fun j=>A i j*vk fr a col X k j):=V0 fun j _=>by rw [K0 hn2]
        rw [e2] at hker; exact hker
      have e3:sm w (fun j=>A i j*vk fr a col X k j)=G*sm w (fun j=>A i j*(vk fr a col X k j / G)):=by
       rw [← E3]
       exact V0 fun j hj=>by
        have h9:=hue j hj
        have h8:A i j*vk fr a col X k j=A i j*(G*(vk fr a col X k j / G)):=by rw [h9]
        rw [h8]; grind
      rw [e3] at e1
      rcases L4.1 e1 with h | h
      ·omega
      ·exact h
     ·
      have hdG:∀ j,j < w→d*G ∣ vk fr a col X k j:=by
       intro j hj
       obtain ⟨c,hc⟩:=hdv j hj
       refine ⟨c,?_⟩
       have h9:=hue j hj
       have hc:vk fr a col X k j / G=d*c:=hc
       rw [← h9,hc]; grind
      have h1:d*G ∣ a:=by have:=hdG fr hfrw; rwa [Xa k hno] at this
      have h2:∀ s,s < k→d*G ∣ X s:=fun s hs=>by have:=hdG (col s) (hcols s hs); rwa [Ya k hB.asc s hs] at this
      obtain ⟨c,hc⟩:=g4 _ h1 h2
      have h3:G*(d*c - 1)=0:=by
       have:d*G*c=G*(d*c):=by grind
       rw [C9]; omega
      rcases L4.1 h3 with h | h
      ·omega
      ·exact ⟨c,A0⟩
  obtain ⟨⟨l,e⟩,hk1,he,hu⟩:=key
  simp only at he hu
  subst he
  exact ⟨l,k,hk1,hrank,⟨A',col,sn,hB⟩,.inr ⟨hkw2,hu⟩⟩
end
def Rw (K:Nat) (v:Int) (z:Nb):Prop:=LW z.2∧z.2.length≤K∧sv z.1 z.2=v
def Lr (K:Nat) (l:List Nb) (w:Nat) (f:Nat→Int):Prop:=l.length=w∧∀ c,c < w→∃ z,l[c]?=some z∧Rw K (f c) z
def Tr (K:Nat) (T:List (List Nb)) (n w:Nat) (A:Mx):Prop:=T.length=n∧∀ r,r < n→∃ l,T[r]?=some l∧Lr K l w (A r)
theorem Rw.bd {K:Nat} {v:Int} {z:Nb} (h:Rw K v z):Bd (pw K) v:=by
 obtain ⟨h1,h2,h3⟩:=h
 have a1:=X1 h1
 have a2:=C4 h1
 have a3:=S5 h2
 unfold sv at h3
 split at h3
 ·exact ⟨A0,A0⟩
 ·exact ⟨A0,A0⟩
theorem Bg.rw {K:Nat} {v:Int} {z:Nb} (h:Bg v z.1 z.2) (hl:z.2.length≤K):Rw K v z:=⟨h.1,hl,h.sv⟩
theorem Lg.lr {K:Nat} {l:List Nb} {w:Nat} {f:Nat→Int} {M:Int} (h:Lg l w f) (hb:∀ j,j < w→Bd M (f j)) (hM:M < pw K):Lr K l w f:=⟨h.1,fun c hc=>by
 obtain ⟨z,h1,h2⟩:=h.2 c hc
 exact ⟨z,h1,h2.rw (h2.lenB (hb c hc) hM)⟩⟩
theorem Tg.tr {K:Nat} {T:List (List Nb)} {n w:Nat} {A:Mx} {M:Int} (h:Tg T n w A) (hb:∀ i j,i < n→j < w→Bd M (A i j)) (hM:M < pw K):Tr K T n w A:=⟨h.1,fun r hr=>by
 obtain ⟨l,h1,h2⟩:=h.2 r hr
 exact ⟨l,h1,h2.lr (fun j hj=>hb r j hr hj) hM⟩⟩
theorem Lr.at {K:Nat} {l:List Nb} {w:Nat} {f:Nat→Int} (h:Lr K l w f) {c:Nat} (hc:c < w) {i:Int} (hi:i=(c:Int)):∃ z,getI l i=some z∧Rw K (f c) z:=by
 obtain ⟨z,h1,h2⟩:=h.2 c hc
 exact ⟨z,W2 h1 hi,h2⟩
theorem Tr.at {K:Nat} {T:List (List Nb)} {n w:Nat} {A:Mx} (h:Tr K T n w A) {r:Nat} (hr:r < n) {i:Int} (hi:i=(r:Int)):∃ l,getI T i=some l∧Lr K l w (A r):=by
 obtain ⟨l,h1,h2⟩:=h.2 r hr
 exact ⟨l,W2 h1 hi,h2⟩
def Sh (T:List (List Nb)) (n w:Nat):Prop:=T.length=n∧∀ r,r < n→∃ l,T[r]?=some l∧l.length=w
theorem Tr.sh {K:Nat} {T:List (List Nb)} {n w:Nat} {A:Mx} (h:Tr K T n w A):Sh T n w:=⟨h.1,fun r hr=>by
 obtain ⟨l,h1,h2⟩:=h.2 r hr
 exact ⟨l,h1,h2.1⟩⟩
theorem Tg.sh {T:List (List Nb)} {n w:Nat} {A:Mx} (h:Tg T n w A):Sh T n w:=⟨h.1,fun r hr=>by
 obtain ⟨l,h1,h2⟩:=h.2 r hr
 exact ⟨l,h1,h2.1⟩⟩
theorem Sh.at {T:List (List Nb)} {n w:Nat} (h:Sh T n w) {r:Nat} (hr:r < n) {i:Int} (hi:i=(r:Int)):∃ l,getI T i=some l∧l.length=w:=by
 obtain ⟨l,h1,h2⟩:=h.2 r hr
 exact ⟨l,W2 h1 hi,h2⟩
section
variable {n w K:Nat} {A:Mx} {T:List (List Nb)}
theorem vh (hT:Sh T n w):m_i5 T=some (if n=0 then 0 else (w:Int)):=by
 unfold m_i5
 by_cases h0:n=0
 ·rw [M0 (by rw [hT.1]; omega),M0 h0]
 ·rw [K0 (by rw [hT.1]; omega),K0 h0]
  obtain ⟨l,h1,h2⟩:=hT.at (r:=0) A0 (i:=0) rfl
  rw [h1,obs,h2]
theorem Il (hT:Sh T n w):m_c5 T=some (if n=0 then 0 else (w:Int)):=by
 unfold m_c5
 by_cases h0:n=0
 ·rw [M0 (by rw [hT.1]; omega),M0 h0]
 ·rw [K0 (by rw [hT.1]; omega),K0 h0]
  obtain ⟨l,h1,h2⟩:=hT.at (r:=0) A0 (i:=0) rfl
  rw [h1,obs,h2]
theorem Ql (hT:Sh T n w) (hn:n≤16) (hw:w≤16):m_ja T=some 0:=by
 have hc:m_i9 T (if n=0 then 0 else (w:Int))=some false:=by
  refine Ret.eq ?_
  unfold m_i9 m_i8
  rw [J0,J0]
  refine (Q0 (Post:=fun o=>o=.inl ()) n (fun k (i:Int)=>i=(k:Int)) rfl ?_ A0).mono ?_
  ·rintro k _ hk rfl
   unfold m_i7
   rw [hT.1,O0]
   refine ⟨fun hlt=>?_,fun _=>⟨_,rfl,rfl⟩⟩
   obtain ⟨l,h1,h2⟩:=hT.at (r:=k) A0 (i:=(k:Int)) rfl
   unfold m_i6
   rw [h1,obs,obs,h2,K0 (show ¬ n=0 by omega)]
   simp only [decide_true,W7,E9,if_false]
   exact ⟨_,rfl,A0,by show wa .i64 (k:Int) 1=_; rw [U0 A0 A0]; rfl⟩
  ·rintro _ rfl
   exact ⟨_,rfl,_,rfl,rfl⟩
 unfold m_ja
 rw [vh hT,obs,hc,obs,K0 H0,hT.1,K0]
 simp only [H5,decide_eq_true_eq,not_or]
 split<;>omega
theorem nA {v:Int} {z:Nb} (hz:Rw K v z) (hK:K≤400):Ret (m_f9 z.1 z.2) (fun r=>Bg v r.1 r.2):=(Zf (s:=z.1) hz.1 (by have:=hz.2.1; omega)).mono fun r hr=>by rw [hz.2.2] at hr; exact hr
theorem jv {row:List Nb} {f:Nat→Int} (hrow:Lr K row w f) (hK:K≤400) (hw:w≤1000):Ret (loop (m_jc row) ([],0)) (fun o=>Lg o w f):=by
 refine Q0 (Post:=fun o:List Nb=>Lg o w f) w (fun k (s:List Nb×Int)=>s.2=(k:Int)∧Lg s.1 k f) ⟨rfl,rfl,fun c hc=>absurd hc A0⟩ ?_ A0
 rintro k ⟨o,_⟩ hk ⟨rfl,hI⟩
 simp only at hI
 unfold m_jc
 simp only
 rw [hrow.1,O0]
 refine ⟨fun hlt=>?_,fun hge=>⟨_,rfl,by have e:k=w:=A0; subst e; exact hI⟩⟩
 have hkw:k < w:=A0
 obtain ⟨z,h1,h2⟩:=hrow.at hkw (i:=(k:Int)) rfl
 rw [h1,obs,J0]
 refine (nA h2 hK).mono fun r hr=>?_
 rw [J0,D2]
 refine ⟨by rw [hI.1]; simp only [E2,N2]; omega,_,rfl,hkw,by show wa .i64 (k:Int) 1=_; rw [U0 A0 A0]; rfl,hI.snoc (z:=(r.1,r.2)) hr⟩
theorem Dl (hT:Tr K T n w A) (hK:K≤400) (hn:n≤1000) (hw:w≤1000):Ret (m_je T []) (fun o=>Tg o n w A):=by
 unfold m_je
 rw [J0]
 refine (Q0 (Post:=fun o:List (List Nb)=>Tg o n w A) n (fun k (s:List (List Nb)×Int)=>s.2=(k:Int)∧Tg s.1 k w A) ⟨rfl,rfl,fun c hc=>absurd hc A0⟩ ?_ A0).mono fun r hr=>⟨_,rfl,hr⟩
 rintro k ⟨o,_⟩ hk ⟨rfl,hI⟩
 simp only at hI
 unfold m_jd
 simp only
 rw [hT.1,O0]
 refine ⟨fun hlt=>?_,fun hge=>⟨_,rfl,by have e:k=n:=A0; subst e; exact hI⟩⟩
 have hkn:k < n:=A0
 obtain ⟨row,h1,h2⟩:=hT.at hkn (i:=(k:Int)) rfl
 rw [h1,obs,J0]
 refine (jv h2 hK hw).mono fun r hr=>?_
 rw [K0 H0]
 unfold m_jb
 rw [J0,D2]
 exact ⟨by rw [hI.1]; simp only [E2,N2]; omega,_,rfl,hkn,by show wa .i64 (k:Int) 1=_; rw [U0 A0 A0]; rfl,hI.snoc hr⟩
theorem Lg.zeros' (w:Nat):Lg (List.replicate w ((false,[]):Nb)) w (fun _=>0):=⟨B5 ..,fun c hc=>⟨(false,[]),by rw [Db,M0 hc],xe⟩⟩
end
section
variable {n w K:Nat} {A:Mx} {T:List (List Nb)}
theorem Jl {M:Int} (hM:M < pw 190) (hT:Tr K T n w A) (hK:K≤400) (hR:Okb n w A M) (hn:n≤16) (hw:w≤16) (hn0:0 < n∨w=0):∃ k:Nat,m_jr T=some ((k:Int),0)∧∃ A' col sn,Bar n w A A' col k w sn:=by
 obtain ⟨T',ht,hT'⟩:=Dl hT hK A0 A0
 obtain ⟨⟨R,pv,zs,zl,sn⟩,hel,A',col,k,hB,hTR,hpv,hd⟩:=Oj (cw:=w) hM hR (O2 w) A0 A0 hT'
 simp only at hB hTR hpv hd
 have hpl:pv.length=k:=by rw [hpv,Qa,w7]
 refine ⟨k,?_,A',col,sn,hB⟩
 have hcol:m_i5 T=some (w:Int):=by
  rw [vh hT.sh]
  split
  ·rename_i h0; have:w=0:=A0; rw [this]; rfl
  ·rfl
 unfold m_jr
 rw [Ql hT.sh hn hw,obs,M0 rfl,ht,obs,hcol,obs,hel,obs]
 simp only
 rw [hpl]
end
abbrev Fb:=Bool×LI×Bool×LI
def Bk (K:Nat) (v:Int):Prop:=- pw K < v∧v < pw K
theorem X6 {s:Bool} {l:LI} {K:Nat} (h:LW l) (hl:l.length≤K):Bk K (sv s l):=by
 have a1:=X1 h
 have a2:=C4 h
 have a3:=S5 hl
 unfold sv
 split
 ·exact ⟨A0,A0⟩
 ·exact ⟨A0,A0⟩
theorem Bk.len {K:Nat} {v:Int} {s:Bool} {l:LI} (h:Bk K v) (hb:Bg v s l):l.length≤K:=hb.len h.1 h.2
theorem Bk.mul {K L:Nat} {u v:Int} (h:Bk K u) (h':Bk L v):Bk (K+L) (u*v):=by
 have e:pw (K+L)=pw K*pw L:=L7 K L
 have p1:=W1 K
 have p2:=W1 L
 have b:=(show Bd (pw K - 1) u from ⟨by have:=h.1; omega,by have:=h.2; omega⟩).mul (show Bd (pw L - 1) v from ⟨by have:=h'.1; omega,by have:=h'.2; omega⟩)
 have e2:(pw K - 1)*(pw L - 1)=pw K*pw L - pw K - pw L+1:=by grind
 rw [e2] at b
 exact ⟨by have:=b.1; omega,by have:=b.2; omega⟩
theorem Bk.mono {K L:Nat} {v:Int} (h:Bk K v) (hKL:K≤L):Bk L v:=by
 have:=S5 hKL
 exact ⟨by have:=h.1; omega,by have:=h.2; omega⟩
theorem Bk.of {K:Nat} {v M:Int} (h:Bd M v) (hM:M < pw K):Bk K v:=⟨by have:=h.1; omega,by have:=h.2; omega⟩
theorem Bk.sub {K:Nat} {u v:Int} (h:Bk K u) (h':Bk K v):Bk (K+1) (u - v):=by
 have e:pw (K+1)=B*pw K:=rfl
 have e2:B=4294967296:=rfl
 have p1:=W1 K
 have:=h.1; have:=h.2; have:=h'.1; have:=h'.2
 exact ⟨by rw [e,e2]; omega,by rw [e,e2]; omega⟩
theorem Uf {s t:Bool} {a b:LI} (ha:LW a) (hb:LW b) (hn:a.length≤800) (hm:b.length≤800) (hne:sv t b≠0) (hd:sv t b ∣ sv s a):Ret (m_dp s a t b) (fun r=>Bg (sv s a / sv t b) r.1 r.2.1):=by
 unfold m_dp
 rw [J0]
 refine (Pj (s:=s) (t:=t) ha hb hn hm hne).mono ?_
 rintro ⟨q1,q2,q3,q4⟩ ⟨h1,h2⟩
 simp only at h1 h2 ⊢
 rw [VD hd] at h2
 have l2:=h2.lenB (M:=0) (m:=1) ⟨A0,A0⟩ (by decide)
 have hs:=Qb h2 A0
 rw [B0,B0] at hs
 rw [hs,obs,M0 rfl]
 exact ⟨_,rfl,h1⟩
def Fr (z:Fb) (n d:Int):Prop:=Bg n z.1 z.2.1∧Bg d z.2.2.1 z.2.2.2
theorem vg {s t:Bool} {a b:LI} {u v:Int} (ha:LW a) (hb:LW b) (hu:sv s a=u) (hv:sv t b=v) (hn:a.length≤400) (hm:b.length≤400) (hne:v≠0) (htb:Bg v t b):Ret (m_dr s a t b) (fun r=>Fr r (nrm u v).1 (nrm u v).2):=by
 unfold m_dr
 rw [J0]
 refine (Ns (s:=s) (t:=t) ha hb hn hm).mono ?_
 rintro ⟨gs,gl⟩ hg
 simp only at hg ⊢
 rw [hu,hv] at hg
 have hgv:(Int.gcd u v:Int) ∣ v:=Dc ..
 have hgu:(Int.gcd u v:Int) ∣ u:=Ec ..
 have hg0:Int.gcd u v≠0:=fun h=>hne (ml h)
 have hgle:(Int.gcd u v:Nat)≤v.natAbs:=tc A0 (by have:=nh.2 hgv; simpa using this)
 have hbv:=X6 (s:=t) hb hm
 rw [hv] at hbv
 have hgb:Bk 400 (Int.gcd u v:Int):=⟨by have:=W1 400; omega,by have:=hbv.1; have:=hbv.2; omega⟩
 have lg:=hgb.len hg
 rw [Qb htb A0,obs]
 have key:∀ (xs:Bool) (xl:LI) (g:Int),Bg g xs xl→g=sgcd u v→xl.length≤400→Ret (m_dq s a t b xs xl) (fun r=>Fr r (nrm u v).1 (nrm u v).2):=by
  rintro xs xl g hx rfl hl
  unfold m_dq
  have hs0:=Li (a:=u) hne
  rw [J0]
  refine (Uf (s:=s) (t:=xs) ha hx.1 A0 A0 (by rw [hx.sv]; exact hs0) (by rw [hx.sv,hu]; exact Mi u v)).mono fun r hr=>?_
  rw [hx.sv,hu] at hr
  rw [J0]
  refine (Uf (s:=t) (t:=xs) hb hx.1 A0 A0 (by rw [hx.sv]; exact hs0) (by rw [hx.sv,hv]; exact Ki u v)).mono fun q hq=>?_
  rw [hx.sv,hv] at hq
  exact ⟨_,rfl,hr,hq⟩
 rw [O0]
 refine ⟨fun hneg=>?_,fun hpos=>?_⟩
 ·have hv0:v < 0:=by revert hneg; split<;>(try split)<;>omega
  rw [J0]
  refine (ij (s:=gs) hg.1 A0).mono fun r hr=>?_
  obtain ⟨hr,hl⟩:=hr
  rw [hg.sv] at hr
  exact key r.1 r.2 _ hr (by unfold sgcd; rw [M0 hv0]) A0
 ·have hv0:¬ v < 0:=fun h=>hpos (by rw [M0 h]; omega)
  exact key gs gl _ hg (by unfold sgcd; rw [K0 hv0]) lg
def Fq (z:Fb) (v D:Int):Prop:=∃ n d,Fr z n d∧Lo n d∧Vq n d v D
theorem Fq.cancel {z:Fb} {v D c:Int} (hc:c≠0) (h:Fq z (c*v) (c*D)):Fq z v D:=by
 obtain ⟨n,d,h1,h2,h3⟩:=h
 refine ⟨n,d,h1,h2,?_⟩
 unfold Vq at*
 have:c*(n*D - v*d)=0:=by grind
 rcases L4.1 this with h | h
 ·exact absurd h hc
 ·omega
theorem Fq.scale {z:Fb} {v D:Int} (c:Int) (h:Fq z v D):Fq z (c*v) (c*D):=by
 obtain ⟨n,d,h1,h2,h3⟩:=h
 refine ⟨n,d,h1,h2,?_⟩
 unfold Vq at*
 have:n*(c*D)=c*(n*D):=by grind
 rw [this,h3]; grind
theorem Fq.zero {z:Fb} {D D':Int} (hD:D≠0) (h:Fq z 0 D):Fq z 0 D':=by
 obtain ⟨n,d,h1,h2,h3⟩:=h
 refine ⟨n,d,h1,h2,?_⟩
 unfold Vq at*
 rw [Q3] at h3 ⊢
 rcases L4.1 h3 with h | h
 ·rw [h,Q3]
 ·exact absurd h hD
theorem Fq.num {z:Fb} {v D:Int} (hD:D≠0) (h:Fq z v D):∃ n d,Fr z n d∧Lo n d∧Vq n d v D∧(n=0↔v=0):=by
 obtain ⟨n,d,h1,h2,h3⟩:=h
 refine ⟨n,d,h1,h2,h3,?_,?_⟩
 ·rintro rfl
  unfold Vq at h3
  rw [Q3] at h3
  rcases L4.1 h3.symm with h | h
  ·exact h
  ·have:=h2.1; omega
 ·rintro rfl
  unfold Vq at h3
  rw [Q3] at h3
  rcases L4.1 h3 with h | h
  ·exact h
  ·exact absurd h hD
theorem Fq.len {z:Fb} {v D:Int} {K:Nat} (hD:D≠0) (hv:Bk K v) (hd:Bk K D) (h:Fq z v D):z.2.1.length≤K∧z.2.2.2.length≤K:=by
 obtain ⟨n,d,h1,h2,h3,h4⟩:=h.num hD
 unfold Vq at h3
 have hdp:=h2.1
 have d1:d ∣ D:=by
  have:d ∣ n*D:=⟨v,by rw [h3,I2]⟩
  exact Ga h2.2 this
 have n1:n ∣ v:=by
  have:n ∣ d*v:=⟨D,by rw [I2 d v]; exact h3.symm⟩
  exact Ga (by rw [Tu]; exact h2.2) this
 have d2:d.natAbs≤D.natAbs:=tc A0 (nh.2 d1)
 have n2:n.natAbs≤v.natAbs:=by
  by_cases h0:v=0
  ·rw [h4.2 h0]; omega
  ·exact tc A0 (nh.2 n1)
 have bn:Bk K n:=⟨by have:=hv.1; have:=hv.2; omega,by have:=hv.1; have:=hv.2; omega⟩
 have bd:Bk K d:=⟨by have:=hd.1; have:=hd.2; omega,by have:=hd.1; have:=hd.2; omega⟩
 exact ⟨bn.len h1.1,bd.len h1.2⟩
theorem jA {a b:Int} {K L:Nat} (hb:b≠0) (ha:Bk K a) (hB:Bk L b):Bk K (nrm a b).1∧Bk L (nrm a b).2:=by
 have h0:=Li (a:=a) hb
 have key:∀ {x:Int} {K:Nat},sgcd a b ∣ x→Bk K x→Bk K (x / sgcd a b):=by
  rintro x K ⟨y,rfl⟩ hx
  rw [D9 _ h0]
  have h1:y.natAbs≤(sgcd a b*y).natAbs:=by
   rw [mh]
   have:1*y.natAbs≤(sgcd a b).natAbs*y.natAbs:=M9 _ A0
   omega
  exact ⟨by have:=hx.1; have:=hx.2; omega,by have:=hx.1; have:=hx.2; omega⟩
 exact ⟨key (Mi a b) ha,key (Ki a b) hB⟩
theorem Ws {x y z w:Fb} {X Y Z W D:Int} {K L:Nat} (hD:D≠0) (hW:W≠0) (hx:Fq x X D) (hy:Fq y Y D) (hz:Fq z Z D) (hw:Fq w W D) (lx:x.2.1.length≤L∧x.2.2.2.length≤L) (ly:y.2.1.length≤K∧y.2.2.2.length≤K) (lz:z.2.1.length≤K∧z.2.2.2.length≤K) (lw:w.2.1.length≤K∧w.2.2.2.length≤K) (hK:L+3*K≤380):
  Ret (m_ds x.1 x.2.1 x.2.2.1 x.2.2.2 y.1 y.2.1 y.2.2.1 y.2.2.2 z.1 z.2.1 z.2.2.1 z.2.2.2 w.1 w.2.1 w.2.2.1 w.2.2.2) (fun r=>Fq r (X*W - Y*Z) (D*W)):=by
 obtain ⟨xn,xd,fx,ox,vx⟩:=hx
 obtain ⟨yn,yd,fy,oy,vy⟩:=hy
 obtain ⟨zn,zd,fz,oz,vz⟩:=hz
 obtain ⟨wn,wd,fw,ow,vw⟩:=hw
 obtain ⟨hw0,hV⟩:=Dt.minus_ok hD hW ox oy oz ow vx vy vz vw
 have bxn:=X6 (s:=x.1) fx.1.1 lx.1
 have bxd:=X6 (s:=x.2.2.1) fx.2.1 lx.2
 have byn:=X6 (s:=y.1) fy.1.1 ly.1
 have byd:=X6 (s:=y.2.2.1) fy.2.1 ly.2
 have bzn:=X6 (s:=z.1) fz.1.1 lz.1
 have bzd:=X6 (s:=z.2.2.1) fz.2.1 lz.2
 have bwn:=X6 (s:=w.1) fw.1.1 lw.1
 have bwd:=X6 (s:=w.2.2.1) fw.2.1 lw.2
 rw [fx.1.sv] at bxn
 rw [fx.2.sv] at bxd
 rw [fy.1.sv] at byn
 rw [fy.2.sv] at byd
 rw [fz.1.sv] at bzn
 rw [fz.2.sv] at bzd
 rw [fw.1.sv] at bwn
 rw [fw.2.sv] at bwd
 have hyd:=oy.1
 have hzd:=oz.1
 have hxd:=ox.1
 have hden:yd*zd*wn≠0:=I8 (I8 A0 A0) hw0
 unfold m_ds
 rw [J0]
 refine (y8 (s:=y.1) (t:=z.1) fy.1.1 fz.1.1 A0 A0).mono fun r1 h1=>?_
 rw [fy.1.sv,fz.1.sv] at h1
 have l1:=(byn.mul bzn).len h1
 rw [J0]
 refine (y8 (s:=r1.1) (t:=w.2.2.1) h1.1 fw.2.1 A0 A0).mono fun r2 h2=>?_
 rw [h1.sv,fw.2.sv] at h2
 have b2:=(byn.mul bzn).mul bwd
 have l2:=b2.len h2
 rw [J0]
 refine (y8 (s:=y.2.2.1) (t:=z.2.2.1) fy.2.1 fz.2.1 A0 A0).mono fun r3 h3=>?_
 rw [fy.2.sv,fz.2.sv] at h3
 have l3:=(byd.mul bzd).len h3
 rw [J0]
 refine (y8 (s:=r3.1) (t:=w.1) h3.1 fw.1.1 A0 A0).mono fun r4 h4=>?_
 rw [h3.sv,fw.1.sv] at h4
 have b4:=(byd.mul bzd).mul bwn
 have l4:=b4.len h4
 rw [J0]
 refine (vg (s:=r2.1) (t:=r4.1) h2.1 h4.1 h2.sv h4.sv A0 A0 hden h4).mono fun p hp=>?_
 obtain ⟨p1,p2⟩:=fb (a:=yn*zn*wd) hden
 obtain ⟨bp1,bp2⟩:=jA (a:=yn*zn*wd) hden b2 b4
 generalize nrm (yn*zn*wd) (yd*zd*wn)=P at*
 have lp1:=bp1.len hp.1
 have lp2:=bp2.len hp.2
 have hpd:=p1.1
 have hden2:xd*P.2≠0:=I8 A0 A0
 rw [J0]
 refine (y8 (s:=x.1) (t:=p.2.2.1) fx.1.1 hp.2.1 A0 A0).mono fun r5 h5=>?_
 rw [fx.1.sv,hp.2.sv] at h5
 have b5:=bxn.mul bp2
 have l5:=b5.len h5
 rw [J0]
 refine (y8 (s:=p.1) (t:=x.2.2.1) hp.1.1 fx.2.1 A0 A0).mono fun r6 h6=>?_
 rw [hp.1.sv,fx.2.sv] at h6
 have b6:=bp1.mul bxd
 have l6:=b6.len h6
 rw [J0]
 refine (gq (s:=r5.1) (t:=r6.1) h5.1 h6.1 A0 A0).mono fun r7 h7=>?_
 rw [h5.sv,h6.sv] at h7
 have b7:=(b5.mono (show L+(K+K+K)≤L+3*K by omega)).sub (b6.mono (show (K+K+K)+L≤L+3*K by omega))
 have l7:=b7.len h7
 rw [J0]
 refine (y8 (s:=x.2.2.1) (t:=p.2.2.1) fx.2.1 hp.2.1 A0 A0).mono fun r8 h8=>?_
 rw [fx.2.sv,hp.2.sv] at h8
 have b8:=bxd.mul bp2
 have l8:=b8.len h8
 rw [J0]
 refine (vg (s:=r7.1) (t:=r8.1) h7.1 h8.1 h7.sv h8.sv A0 A0 hden2 h8).mono fun q hq=>?_
 obtain ⟨q1,q2⟩:=fb (a:=xn*P.2 - P.1*xd) hden2
 exact ⟨_,rfl,_,_,hq,q1,hV⟩
def Lf (l:List Fb) (w:Nat) (f:Nat→Int) (D:Int):Prop:=l.length=w∧∀ c,c < w→∃ z,l[c]?=some z∧Fq z (f c) D
def Tf (F:List (List Fb)) (n w:Nat) (V:Mx) (D:Nat→Int):Prop:=F.length=n∧∀ r,r < n→∃ l,F[r]?=some l∧Lf l w (V r) (D r)
theorem Lf.at {l:List Fb} {w:Nat} {f:Nat→Int} {D:Int} (h:Lf l w f D) {c:Nat} (hc:c < w) {i:Int} (hi:i=(c:Int)):∃ z,getI l i=some z∧Fq z (f c) D:=by
 obtain ⟨z,h1,h2⟩:=h.2 c hc
 exact ⟨z,W2 h1 hi,h2⟩
theorem Tf.at {F:List (List Fb)} {n w:Nat} {V:Mx} {D:Nat→Int} (h:Tf F n w V D) {r:Nat} (hr:r < n) {i:Int} (hi:i=(r:Int)):∃ l,getI F i=some l∧Lf l w (V r) (D r):=by
 obtain ⟨l,h1,h2⟩:=h.2 r hr
 exact ⟨l,W2 h1 hi,h2⟩
theorem Lf.congr {l:List Fb} {w:Nat} {f g:Nat→Int} {D E:Int} (h:Lf l w f D) (e:∀ c,c < w→f c=g c) (e2:D=E):Lf l w g E:=⟨h.1,fun c hc=>by
 obtain ⟨z,h1,h2⟩:=h.2 c hc
 exact ⟨z,h1,by rw [← e c hc,← e2]; exact h2⟩⟩
theorem Tf.congr {F:List (List Fb)} {n w:Nat} {V V':Mx} {D D':Nat→Int} (h:Tf F n w V D) (e:∀ r c,r < n→c < w→V r c=V' r c) (e2:∀ r,r < n→D r=D' r):Tf F n w V' D':=⟨h.1,fun r hr=>by
 obtain ⟨l,h1,h2⟩:=h.2 r hr
 exact ⟨l,h1,h2.congr (fun c hc=>e r c hr hc) (e2 r hr)⟩⟩
theorem Lf.snoc {l:List Fb} {k:Nat} {f:Nat→Int} {D:Int} (h:Lf l k f D) {z:Fb} (hz:Fq z (f k) D):Lf (l++[z]) (k+1) f D:=by
 refine ⟨by rw [P1,h.1]; rfl,fun c hc=>?_⟩
 by_cases e:c < k
 ·obtain ⟨y,h1,h2⟩:=h.2 c e
  exact ⟨y,by rw [B6 (by rw [h.1]; exact e)]; exact h1,h2⟩
 ·obtain rfl:c=k:=A0
  exact ⟨z,by rw [I6 (by rw [h.1]; omega),h.1,E6]; rfl,hz⟩
theorem Tf.snoc {F:List (List Fb)} {k w:Nat} {V:Mx} {D:Nat→Int} (h:Tf F k w V D) {l:List Fb} (hl:Lf l w (V k) (D k)):Tf (F++[l]) (k+1) w V D:=by
 refine ⟨by rw [P1,h.1]; rfl,fun c hc=>?_⟩
 by_cases e:c < k
 ·obtain ⟨y,h1,h2⟩:=h.2 c e
  exact ⟨y,by rw [B6 (by rw [h.1]; exact e)]; exact h1,h2⟩
 ·obtain rfl:c=k:=A0
  exact ⟨l,by rw [I6 (by rw [h.1]; omega),h.1,E6]; rfl,hl⟩
theorem jg (v:Int):Lo v 1:=⟨A0,by rw [Int.gcd_one]⟩
theorem Ss {K n w:Nat} {A:Mx} {T:List (List Nb)} (hT:Tr K T n w A) (hK:K≤400) (hn:n≤1000) (hw:w≤1000):Ret (m_c4 T) (fun F=>Tf F n w A (fun _=>1)):=by
 unfold m_c4
 rw [J0]
 refine (Q0 (Post:=fun F:List (List Fb)=>Tf F n w A (fun _=>1)) n (fun r (s:List (List Fb)×Int)=>s.2=(r:Int)∧Tf s.1 r w A (fun _=>1)) ⟨rfl,rfl,fun c hc=>absurd hc A0⟩ ?_ A0).mono fun r hr=>⟨_,rfl,hr⟩
 rintro r ⟨F,_⟩ hr ⟨rfl,hI⟩
 simp only at hI
 unfold m_c3
 simp only
 rw [hT.1,O0]
 refine ⟨fun hlt=>?_,fun hge=>⟨_,rfl,by have e:r=n:=A0; subst e; exact hI⟩⟩
 have hrn:r < n:=A0
 obtain ⟨row,h1,h2⟩:=hT.at hrn (i:=(r:Int)) rfl
 rw [J0]
 refine (Q0 (Post:=fun l:List Fb=>Lf l w (A r) 1) w (fun c (s:List Fb×Int)=>s.2=(c:Int)∧Lf s.1 c (A r) 1) ⟨rfl,rfl,fun c hc=>absurd hc A0⟩ ?_ A0).mono fun l hl=>?_
 ·rintro c ⟨l,_⟩ hc ⟨rfl,hJ⟩
  simp only at hJ
  unfold m_c2
  simp only
  rw [h1,obs,h2.1,O0]
  refine ⟨fun hlt2=>?_,fun hge=>⟨_,rfl,by have e:c=w:=A0; subst e; exact hJ⟩⟩
  have hcw:c < w:=A0
  obtain ⟨z,h3,h4⟩:=h2.at hcw (i:=(c:Int)) rfl
  rw [obs,h3,obs,J0]
  refine (Yb (s:=z.1) h4.1 (by have:=h4.2.1; omega)).mono fun y hy=>?_
  obtain ⟨hy,_⟩:=hy
  rw [h4.2.2] at hy
  rw [J0]
  refine (Y9 (n:=1) A0 A0).mono fun one hone=>?_
  rw [J0,D2]
  exact ⟨by rw [hJ.1]; simp only [E2,N2]; omega,_,rfl,hcw,by show wa .i64 (c:Int) 1=_; rw [U0 A0 A0]; rfl,hJ.snoc (z:=(y.1,y.2,one.1,one.2)) ⟨A r c,1,⟨hy,hone⟩,jg _,by unfold Vq; rfl⟩⟩
 ·rw [J0,D2]
  exact ⟨by rw [hI.1]; simp only [E2,N2]; omega,_,rfl,hrn,by show wa .i64 (r:Int) 1=_; rw [U0 A0 A0]; rfl,hI.snoc hl⟩
theorem pg {α:Type} {p q:Prop} [Decidable p] [Decidable q] {x y:α} (h:p↔q):(if p then x else y)=if q then x else y:=by
 by_cases hp:p
 ·rw [M0 hp,M0 (h.1 hp)]
 ·rw [K0 hp,K0 (fun e=>hp (h.2 e))]
def VT (A':Mx) (col:Nat→Nat) (k:Nat):Mx:=fun r j=>if r < k then Rk A' col r r j else Rk A' col k r j
def DT (A':Mx) (col:Nat→Nat) (k:Nat):Nat→Int:=fun r=>if r < k then det r (Pm_ A' col) else det k (Pm_ A' col)
def EJ (n w:Nat) (A:Mx) (c:Nat) (F:List (List Fb)) (pv:LI) (ds:Bool) (dl:LI) (es:Bool) (el:LI):Prop:=
 ∃ A' col k sn,Bar n w A A' col k c sn∧Tf F n w (VT A' col k) (DT A' col k)∧pv=(List.range k).map (fun s=>(col s:Int))∧Bg (sn*det k (Pm_ A' col)) ds dl∧Bg 1 es el∧∀ s,s≤k→det s (Pm_ A' col)≠0
theorem Tf.set {F:List (List Fb)} {n w:Nat} {V:Mx} {D:Nat→Int} (h:Tf F n w V D) {k:Nat} (hk:k < n) {l:List Fb} {g:Nat→Int} {E:Int} (hl:Lf l w g E):Tf (F.set k l) n w (up V k g) (fun r=>if r=k then E else D r):=by
 refine ⟨by rw [O3]; exact h.1,fun r hr=>?_⟩
 by_cases e:r=k
 ·subst e
  exact ⟨l,by rw [G5]; rw [h.1]; exact hk,hl.congr (fun c _=>C2.symm) (M0 rfl).symm⟩
 ·obtain ⟨m,h1,h2⟩:=h.2 r hr
  exact ⟨m,by rw [H6 (fun h=>e h.symm)]; exact h1,h2.congr (fun c _=>(H2 e).symm) (K0 e).symm⟩
section
variable {n w:Nat} {A A':Mx} {col:Nat→Nat} {k c a:Nat} {sn M:Int}
def Mid (n w k c i X:Nat) (V V1 R':Mx) (D:Nat→Int) (D' dk:Int) (F:List (List Fb)):Prop:=
 F.length=n∧(∀ r,r < n→r≠i→∃ l,F[r]?=some l∧Lf l w (V r) (D r))∧∃ l,F[i]?=some l∧l.length=w∧∀ x,x < w→∃ z,l[x]?=some z∧Fq z (if c≤x∧x < X then R' i x else V1 i x) (if c≤x∧x < X then D' else dk)
theorem Cy (hM:M < pw 60) {pv:LI} (hpl:pv.length=k) {i:Nat} (hin:i < n) (hik:k < i) (hcw:c < w) (hw:w≤1000) (hn:n≤1000) {V V1 R':Mx} {D:Nat→Int} {dk D':Int} (hdk:dk≠0) (hD':D'≠0)
  (bV:∀ r j,r < n→k≤r→j < w→Bd M (V1 r j)) (bd:Bd M dk) (hVk:∀ j,V k j=V1 k j) (hDk:D k=dk) (hpiv:V1 k c=D')
  (hstep:∀ x,V1 i x*V1 k c - V1 i c*V1 k x=dk*R' i x) {f:Fb} (hf:Fq f (V1 i c) dk) {F:List (List Fb)} (hF:Mid n w k c i c V V1 R' D D' dk F):
  Ret (loop (m_du (w:Int) (i:Int) pv (c:Int) f) (F,(c:Int))) (fun G=>Mid n w k c i w V V1 R' D D' dk G):=by
 refine Q0 (Post:=fun G:List (List Fb)=>Mid n w k c i w V V1 R' D D' dk G) (w - c) (fun t (s:List (List Fb)×Int)=>s.2=((c+t:Nat):Int)∧c+t≤w∧Mid n w k c i (c+t) V V1 R' D D' dk s.1) ⟨rfl,A0,hF⟩ ?_ A0
 rintro t ⟨F,_⟩ ht ⟨rfl,htw,hI⟩
 simp only at hI
 unfold m_du
 simp only
 rw [O0]
 refine ⟨fun hlt=>?_,fun hge=>⟨_,rfl,by have e:c+t=w:=A0; rw [e] at hI; exact hI⟩⟩
 have hxw:c+t < w:=A0
 obtain ⟨hl,hrows,li,h1,h2,h3⟩:=hI
 obtain ⟨lk,k1,k2⟩:=hrows k A0 A0
 obtain ⟨zi,h4,h5⟩:=h3 (c+t) hxw
 rw [B0,B0] at h5
 obtain ⟨zx,k3,k4⟩:=k2.2 (c+t) hxw
 obtain ⟨zc,k5,k6⟩:=k2.2 c hcw
 rw [hVk,hDk] at k4 k6
 have gi:=W2 h1 (i:=(i:Int)) rfl
 have gk:=W2 k1 (i:=(k:Int)) rfl
 have hpl':(pv.length:Int)=(k:Int):=by rw [hpl]
 rw [hpl',gi,obs,obs,W2 h4 rfl,obs,gk,obs,W2 k3 rfl,obs,obs,W2 k5 rfl,obs,J0]
 have b0:Bk 60 dk:=Bk.of bd hM
 have bi:∀ j,j < w→Bk 60 (V1 i j):=fun j hj=>Bk.of (bV i j hin A0 hj) hM
 have bk:∀ j,j < w→Bk 60 (V1 k j):=fun j hj=>Bk.of (bV k j A0 (O2 k) hj) hM
 refine (Ws (K:=60) (L:=60) (x:=zi) (y:=f) (z:=zx) (w:=zc) hdk (by rw [hpiv]; exact hD') h5 hf k4 k6 (h5.len hdk (bi _ hxw) b0) (hf.len hdk (bi _ hcw) b0) (k4.len hdk (bk _ hxw) b0) (k6.len hdk (bk _ hcw) b0) A0).mono fun r hr=>?_
 rw [hstep,hpiv] at hr
 have hr:=hr.cancel hdk
 rw [U4 (by rw [h2]; exact hxw) rfl,obs,U4 (by rw [hl]; exact hin) rfl,obs]
 refine ⟨_,rfl,A0,by show wa .i64 ((c+t:Nat):Int) 1=_; rw [U0 A0 A0]; rfl,A0,by rw [O3]; exact hl,fun r hr hri=>?_,_,by rw [G5]; rw [hl]; exact hin,by rw [O3]; exact h2,fun x hx=>?_⟩
 ·obtain ⟨m,g1,g2⟩:=hrows r hr hri
  exact ⟨m,by rw [H6 (fun h=>hri h.symm)]; exact g1,g2⟩
 ·by_cases e:x=c+t
  ·subst e
   exact ⟨_,by rw [G5]; rw [h2]; exact hx,by rw [C0,C0]; exact hr⟩
  ·obtain ⟨z,g1,g2⟩:=h3 x hx
   refine ⟨z,by rw [H6 (fun h=>e h.symm)]; exact g1,?_⟩
   by_cases e2:c≤x∧x < c+t
   ·rw [M0 e2,M0 e2] at g2
    rw [C0,C0]; exact g2
   ·rw [K0 e2,K0 e2] at g2
    rw [B0,B0]; exact g2
theorem Tq (hM:M < pw 60) (hR:Okb n w A M) (h:Bar n w A A' col k c sn) (hw:w≤900) (hn:n≤900) (hc:c < w) (hka:k≤a) (han:a < n) (hne:Rk A' col k a c≠0) (hnz:∀ s,s≤k→det s (Pm_ A' col)≠0)
  {F:List (List Fb)} (hF:Tf F n w (fun r j=>if r < k then Rk A' col r r j else Rk (sw A' k a) col k r j) (DT A' col k)) {pv:LI} (hpv:pv=(List.range k).map (fun s=>(col s:Int))) {ds es:Bool} {dl el:LI} (hd:Bg ((if a=k then sn else -sn)*det k (Pm_ A' col)) ds dl) (he:Bg 1 es el):
  Ret (m_dw pv (c:Int) es el (w:Int) F ds dl) (fun o=>∃ F' pv' ds' dl' es' el',o=.inl (F',ds',dl',es',el',pv',((c+1:Nat):Int))∧EJ n w A (c+1) F' pv' ds' dl' es' el'):=by
 obtain ⟨hB',hdet,htop,hstep⟩:=h.pivot hc hka han hne
 have hpl:pv.length=k:=by rw [hpv,Qa,w7]
 have hkn:k < n:=A0
 have hrows:=Ja h
 have hrows':=Yp hrows hkn han
 have hlt:∀ s,s < k→col s < w:=fun s hs=>by have:=h.lt s hs; have:=h.cw; omega
 have hlt':∀ s,s < k+1→setC col k c s < w:=fun s hs=>by have:=hB'.lt s hs; have:=hB'.cw; omega
 have bR:∀ i j,i < n→j < w→Bd M (Rk (sw A' k a) col k i j):=fun i j hi hj=>(hR _ _ _ _ _ hrows' h.kn hlt hi hj).1
 have bd:Bd M (det k (Pm_ A' col)):=(hR _ col k 0 c hrows h.kn hlt A0 hc).2
 have hk:∀ j,Rk (sw A' k a) col k k j=Rk A' col k a j:=fun j=>by rw [X8 hka,M0 rfl]
 have hdk:=h.d
 generalize hS:sw A' k a=S at*
 generalize hC:setC col k c=C at*
 generalize hsn:(if a=k then sn else -sn)=sn' at*
 have hsn1:sn'=1∨sn'= -1:=hB'.sg.1
 let V1:Mx:=fun r j=>if r < k then Rk A' col r r j else Rk S col k r j
 let R':Mx:=Rk S C (k+1)
 have hV1:∀ r j,k≤r→V1 r j=Rk S col k r j:=fun r j hr=>K0 A0
 have hzero:∀ r j,k < r→r < n→j < c→Rk S col k r j=0:=by
  intro r j hkr hr hj
  rw [← hS,X8 hka,B0]
  split
  ·exact h.zero k j (O2 k) hkn hj
  ·exact h.zero r j A0 hr hj
 unfold m_dw
 have hpl':(pv.length:Int)=(k:Int):=by rw [hpl]
 obtain ⟨lk,g1,g2⟩:=hF.2 k hkn
 obtain ⟨z,g3,g4⟩:=g2.2 c hc
 have gk:=W2 g1 (i:=(k:Int)) rfl
 have gc:=W2 g3 (i:=(c:Int)) rfl
 rw [hpl',gk,obs,gc,obs,J0]
 have hDk:DT A' col k k=det k (Pm_ A' col):=K0 (Fk k)
 have g4:Fq z (Rk A' col k a c) (det k (Pm_ A' col)):=by
  have h1:V1 k c=Rk A' col k a c:=by rw [hV1 k c (O2 k),hk]
  have h2:Fq z (V1 k c) (DT A' col k k):=g4
  rw [h1,hDk] at h2; exact h2
 have b0:Bk 60 (det k (Pm_ A' col)):=Bk.of bd hM
 have b1:Bk 60 (Rk A' col k a c):=Bk.of (by rw [← hk]; exact bR k c hkn hc) hM
 have lz:=g4.len hdk b1 b0
 obtain ⟨nn,dd,f1,f2,f3⟩:=g4
 have bs:Bk 60 (sn'*det k (Pm_ A' col)):=by
  rcases hsn1 with e | e
  ·rw [e,E4]; exact b0
  ·rw [e]; exact ⟨by have:=b0.2; omega,by have:=b0.1; omega⟩
 have ld:=bs.len hd
 have le':=he.lenB (M:=1) (m:=1) ⟨A0,A0⟩ (by decide)
 refine (y8 (s:=ds) (t:=z.1) hd.1 f1.1.1 A0 A0).mono fun r1 h1=>?_
 rw [hd.sv,f1.1.sv] at h1
 have bz1:=X6 (s:=z.1) f1.1.1 lz.1
 have bz2:=X6 (s:=z.2.2.1) f1.2.1 lz.2
 rw [f1.1.sv] at bz1
 rw [f1.2.sv] at bz2
 have l1:=(bs.mul bz1).len h1
 rw [obs,gc,obs,J0]
 refine (y8 (s:=es) (t:=z.2.2.1) he.1 f1.2.1 A0 A0).mono fun r2 h2=>?_
 rw [he.sv,f1.2.sv,E4] at h2
 have l2:=bz2.len h2
 have hdd:=f2.1
 rw [J0]
 refine (vg (s:=r1.1) (t:=r2.1) h1.1 h2.1 h1.sv h2.sv A0 A0 A0 h2).mono fun q hq=>?_
 have hnrm:nrm (sn'*det k (Pm_ A' col)*nn) dd=(sn'*Rk A' col k a c,1):=iA A0 (jg _) (by
  unfold Vq at f3
  have e:sn'*det k (Pm_ A' col)*nn=sn'*(nn*det k (Pm_ A' col)):=by grind
  rw [e,f3]; grind)
 rw [hnrm] at hq
 obtain ⟨hq1,hq2⟩:=hq
 simp only at hq1 hq2
 rw [J0]
 have hD':det (k+1) (Pm_ S C)≠0:=hB'.d
 refine (Q0 (Post:=fun G:List (List Fb)=>Tf G n w (fun r j=>if k < r then R' r j else V1 r j) (fun r=>if k < r then det (k+1) (Pm_ S C) else DT A' col k r)) (n - (k+1)) (fun t (s:List (List Fb)×Int)=>s.2=((k+1+t:Nat):Int)∧k+1+t≤n∧Tf s.1 n w (fun r j=>if k < r∧r < k+1+t then R' r j else V1 r j) (fun r=>if k < r∧r < k+1+t then det (k+1) (Pm_ S C) else DT A' col k r)) ⟨by show wa .i64 (k:Int) 1=_; rw [U0 A0 A0]; rfl,A0,hF.congr (fun r j _ _=>(K0 (show ¬ (k < r∧r < k+1+0) by omega)).symm) fun r _=>(K0 (show ¬ (k < r∧r < k+1+0) by omega)).symm⟩ ?_ A0).mono ?_
 ·rintro t ⟨G,_⟩ ht ⟨rfl,htn,hI⟩
  simp only at hI
  unfold m_dv
  simp only
  rw [hI.1,O0]
  refine ⟨fun hlt2=>?_,fun hge=>⟨_,rfl,hI.congr (fun r j hr _=>?_) fun r hr=>?_⟩⟩
  ·have hin:k+1+t < n:=A0
   obtain ⟨li,e1,e2⟩:=hI.2 (k+1+t) hin
   have hDi:DT A' col k (k+1+t)=det k (Pm_ A' col):=K0 A0
   have e2:Lf li w (V1 (k+1+t)) (det k (Pm_ A' col)):=e2.congr (fun x _=>K0 (show ¬ (k < k+1+t∧k+1+t < k+1+t) by omega)) ((K0 (show ¬ (k < k+1+t∧k+1+t < k+1+t) by omega)).trans hDi)
   obtain ⟨f,e3,e4⟩:=e2.2 c hc
   rw [W2 e1 rfl,obs,W2 e3 rfl,obs,J0]
   have hMid:Mid n w k c (k+1+t) c (fun r j=>if k < r∧r < k+1+t then R' r j else V1 r j) V1 R' (fun r=>if k < r∧r < k+1+t then det (k+1) (Pm_ S C) else DT A' col k r) (det (k+1) (Pm_ S C)) (det k (Pm_ A' col)) G:=by
    refine ⟨hI.1,fun r hr _=>hI.2 r hr,li,e1,e2.1,fun x hx=>?_⟩
    obtain ⟨y,y1,y2⟩:=e2.2 x hx
    refine ⟨y,y1,?_⟩
    rw [K0 (show ¬ (c≤x∧x < c) by omega),K0 (show ¬ (c≤x∧x < c) by omega)]
    exact y2
   refine (Cy (V:=fun r j=>if k < r∧r < k+1+t then R' r j else V1 r j) (V1:=V1) (R':=R') hM hpl hin A0 hc A0 A0 hdk hD' (fun r j hr hkr hj=>by rw [hV1 r j hkr]; exact bR r j hr hj) bd (fun j=>K0 (show ¬ (k < k∧k < k+1+t) by omega)) ((K0 (show ¬ (k < k∧k < k+1+t) by omega)).trans hDk) (by rw [hV1 k c (O2 k),hk,hdet]) (fun x=>?_) e4 hMid).mono fun G' hG'=>?_
   ·rw [hV1 _ _ (show k≤k+1+t by omega),hV1 _ _ (show k≤k+1+t by omega),hV1 k c (O2 k),hV1 k x (O2 k),hk,hk,I2 (Rk S col k (k+1+t) x)]
    exact hstep (k+1+t) x A0
   ·obtain ⟨m1,m2,l',m3,m4,m5⟩:=hG'
    refine ⟨_,rfl,A0,by show wa .i64 ((k+1+t:Nat):Int) 1=_; rw [U0 A0 A0]; rfl,A0,m1,fun r hr=>?_⟩
    by_cases e:r=k+1+t
    ·subst e
     refine ⟨l',m3,m4,fun x hx=>?_⟩
     obtain ⟨y,y1,y2⟩:=m5 x hx
     refine ⟨y,y1,?_⟩
     have fin:Fq y (R' (k+1+t) x) (det (k+1) (Pm_ S C))→Fq y ((fun r j=>if k < r∧r < k+1+(t+1) then R' r j else V1 r j) (k+1+t) x) ((fun r=>if k < r∧r < k+1+(t+1) then det (k+1) (Pm_ S C) else DT A' col k r) (k+1+t)):=fun h=>by
      have i1:k < k+1+t∧k+1+t < k+1+(t+1):=A0
      show Fq y (if k < k+1+t∧k+1+t < k+1+(t+1) then R' (k+1+t) x else V1 (k+1+t) x) (if k < k+1+t∧k+1+t < k+1+(t+1) then det (k+1) (Pm_ S C) else DT A' col k (k+1+t))
      rw [M0 i1,M0 i1]; exact h
     refine fin ?_
     by_cases hxc:c≤x
     ·rw [M0 ⟨hxc,hx⟩,M0 ⟨hxc,hx⟩] at y2; exact y2
     ·rw [B0,B0,hV1 _ _ (show k≤k+1+t by omega),hzero _ _ A0 hin A0] at y2
      have:R' (k+1+t) x=0:=hB'.zero (k+1+t) x A0 hin A0
      rw [this]
      exact y2.zero hdk
    ·obtain ⟨l2,n1,n2⟩:=m2 r hr e
     have hi:(k < r∧r < k+1+t)↔(k < r∧r < k+1+(t+1)):=A0
     exact ⟨l2,n1,n2.congr (fun x _=>pg hi) (pg hi)⟩
  ·exact pg (show (k < r∧r < k+1+t)↔k < r by omega)
  ·exact pg (show (k < r∧r < k+1+t)↔k < r by omega)
 ·intro G hG
  rw [J0,D2]
  refine ⟨by rw [hpl]; simp only [E2,N2]; omega,?_⟩
  unfold m_dt
  have hr1:wa .i64 (c:Int) 1=((c+1:Nat):Int):=by rw [U0 A0 A0]; rfl
  rw [hr1]
  have hRl:∀ r j,r < k→Rk S C r r j=Rk A' col r r j:=fun r j hr=>uk (fun s hs=>by rw [← hC,S9 A0]) (fun t j ht=>by rw [← hS]; unfold sw; rw [B0,B0]) (fun j=>by rw [← hS]; unfold sw; rw [B0,B0])
  have hRk:∀ j,Rk S C k k j=Rk S col k k j:=fun j=>by rw [← hC]; exact qu
  have hDl:∀ r,r≤k→det r (Pm_ S C)=det r (Pm_ A' col):=fun r hr=>A5 fun i j hi hj=>by
   unfold Pm_
   rw [← hC,S9 A0,← hS]
   unfold sw; rw [B0,B0]
  refine ⟨_,rfl,_,_,_,_,_,_,rfl,S,C,k+1,sn',hB',hG.congr (fun r j hr _=>?_) (fun r hr=>?_),?_,?_,hq2,fun s hs=>?_⟩
  ·unfold VT
   by_cases e:k < r
   ·rw [M0 e,B0]
   ·rw [K0 e,C0]
    by_cases e2:r < k
    ·show (if r < k then Rk A' col r r j else Rk S col k r j)=_
     rw [M0 e2,hRl r j e2]
    ·obtain rfl:r=k:=A0
     rw [hV1 r j (O2 r),hRk]
  ·unfold DT
   by_cases e:k < r
   ·rw [M0 e,B0]
   ·rw [K0 e,M0 (show r < k+1 by omega),hDl r A0]
    by_cases e2:r < k
    ·rw [M0 e2]
    ·rw [K0 e2]
     obtain rfl:r=k:=A0
     rfl
  ·rw [hpv,Bb,dh]
   congr 1
   ·refine Iu fun s hs=>?_
    rw [← hC,S9 (M6.1 hs)]
   ·show [(c:Int)]=[((C k:Nat):Int)]
    rw [← hC,db]
  ·rw [hdet]; exact hq1
  ·by_cases e:s=k+1
   ·subst e; exact hD'
   ·rw [hDl s A0]; exact hnz s A0
theorem Bt (hM:M < pw 60) (hR:Okb n w A M) (hw:w≤900) (hn:n≤900) {F:List (List Fb)} (hF:Tf F n w A (fun _=>1)):
  Ret (m_dz F (w:Int)) (fun r=>EJ n w A w r.1 r.2.1 r.2.2.1 r.2.2.2.1 r.2.2.2.2.1 r.2.2.2.2.2):=by
 unfold m_dz
 rw [J0]
 refine (Y9 (n:=1) A0 A0).mono fun o1 ho1=>?_
 rw [J0]
 refine (Y9 (n:=1) A0 A0).mono fun o2 ho2=>?_
 rw [J0]
 refine (Q0 (Post:=fun r:List (List Fb)×Bool×LI×Bool×LI×LI=>EJ n w A w r.1 r.2.2.2.2.2 r.2.1 r.2.2.1 r.2.2.2.1 r.2.2.2.2.1) w (fun c (s:List (List Fb)×Bool×LI×Bool×LI×LI×Int)=>s.2.2.2.2.2.2=(c:Int)∧c≤w∧EJ n w A c s.1 s.2.2.2.2.2.1 s.2.1 s.2.2.1 s.2.2.2.1 s.2.2.2.2.1) ⟨rfl,A0,A,id,0,1,Bar.start,hF.congr (fun r j _ _=>by unfold VT; rw [B0,ou]) (fun r _=>by unfold DT; rw [B0]; rfl),rfl,ho1.cast (show (1:Int)=1*det 0 (Pm_ A id) from rfl),ho2,fun s hs=>by
  obtain rfl:s=0:=A0
  show (1:Int)≠0; omega⟩ ?_ A0).mono fun r hr=>⟨_,rfl,hr⟩
 rintro c ⟨F,ds,dl,es,el,pv,_⟩ hc ⟨rfl,hcc,A',col,k,sn,hB,hT,hpv,hd,he,hnz⟩
 simp only at hT hpv hd he
 unfold m_dy
 simp only
 rw [O0]
 refine ⟨fun hlt=>?_,fun hge=>⟨_,rfl,by have e:c=w:=A0; subst e; exact ⟨A',col,k,sn,hB,hT,hpv,hd,he,hnz⟩⟩⟩
 have hcw:c < w:=A0
 have hpl:pv.length=k:=by rw [hpv,Qa,w7]
 have hkn:=hB.kn
 have hrows:=Ja hB
 have hlt':∀ s,s < k→col s < w:=fun s hs=>by have:=hB.lt s hs; have:=hB.cw; omega
 have hwa:wa .i64 (c:Int) 1=((c+1:Nat):Int):=by rw [U0 A0 A0]; rfl
 have hVge:∀ r j,k≤r→VT A' col k r j=Rk A' col k r j:=fun r j hr=>K0 A0
 have hDge:∀ r,k≤r→DT A' col k r=det k (Pm_ A' col):=fun r hr=>K0 A0
 rw [J0]
 refine (Q0 (Post:=fun o:Int=>∃ i:Nat,o=(i:Int)∧k≤i∧i≤n∧(∀ j,k≤j→j < i→Rk A' col k j c=0)∧(i < n→Rk A' col k i c≠0)) (n - k) (fun t (s:Int)=>s=((k+t:Nat):Int)∧k+t≤n∧∀ j,k≤j→j < k+t→Rk A' col k j c=0) ⟨by rw [hpl]; rfl,A0,fun j h1 h2=>absurd h2 A0⟩ ?_ A0).mono ?_
 ·rintro t _ ht ⟨rfl,htn,hz⟩
  unfold m_dx
  rw [hT.1]
  by_cases hl2:k+t < n
  ·obtain ⟨row,h1,h2⟩:=hT.2 (k+t) hl2
   obtain ⟨x,h3,h4⟩:=h2.2 c hcw
   rw [hVge _ _ A0,hDge _ A0] at h4
   have bx:=hR _ _ _ _ _ hrows hkn hlt' hl2 hcw
   have lx:=h4.len hB.d (Bk.of bx.1 hM) (Bk.of bx.2 hM)
   obtain ⟨nn,dd,f1,f2,f3,f4⟩:=h4.num hB.d
   rw [C0,W2 h1 rfl,obs,W2 h3 rfl,obs]
   unfold m_c6
   rw [Qb f1.1 A0,obs,obs,obs,O0]
   refine ⟨fun h0=>⟨_,rfl,A0,by rw [U0 A0 A0]; rfl,A0,fun j hj1 hj2=>?_⟩,fun h0=>⟨_,rfl,k+t,rfl,A0,A0,hz,fun _ h=>?_⟩⟩
   ·by_cases e:j=k+t
    ·subst e
     refine f4.1 ?_
     have h0:(if nn < 0 then (-1:Int) else if 0 < nn then 1 else 0)=0:=by simpa using h0
     revert h0; split
     ·omega
     ·split
      ·omega
      ·intro _; omega
    ·exact hz j hj1 A0
   ·have:nn=0:=f4.2 h
    subst this
    simp at h0
  ·rw [B0,obs,K0 H0]
   exact ⟨_,rfl,k+t,rfl,A0,A0,hz,fun h=>absurd h hl2⟩
 ·rintro _ ⟨i,rfl,hki,hin,hz,hne⟩
  rw [hT.1,O0]
  refine ⟨fun h0=>?_,fun h0=>?_⟩
  ·have:i=n:=A0
   subst this
   unfold m_dt
   rw [hwa]
   exact ⟨_,rfl,hcw,rfl,A0,A',col,k,sn,hB.none hcw fun j h1 h2=>hz j h1 h2,hT,hpv,hd,he,hnz⟩
  ·have hin2:i < n:=A0
   rw [hpl,O0]
   have fin:∀ {m:Option _},Ret m (fun o=>∃ F' pv' ds' dl' es' el',o=.inl (F',ds',dl',es',el',pv',((c+1:Nat):Int))∧EJ n w A (c+1) F' pv' ds' dl' es' el')→Ret m (VQ (fun s:List (List Fb)×Bool×LI×Bool×LI×LI×Int=>c < w∧s.2.2.2.2.2.2=((c+1:Nat):Int)∧c+1≤w∧EJ n w A (c+1) s.1 s.2.2.2.2.2.1 s.2.1 s.2.2.1 s.2.2.2.1 s.2.2.2.2.1) (fun r:List (List Fb)×Bool×LI×Bool×LI×LI=>EJ n w A w r.1 r.2.2.2.2.2 r.2.1 r.2.2.1 r.2.2.2.1 r.2.2.2.2.1)):=fun h=>h.mono fun o ho=>by
    obtain ⟨F',pv',ds',dl',es',el',rfl,hE⟩:=ho
    exact ⟨hcw,rfl,A0,hE⟩
   refine ⟨fun hik=>?_,fun hik=>?_⟩
   ·obtain rfl:i=k:=A0
    refine fin (Tq (a:=i) hM hR hB hw hn hcw (O2 i) hin2 (hne hin2) hnz (hT.congr (fun r j hr _=>?_) fun _ _=>rfl) hpv (by rw [M0 rfl]; exact hd) he)
    unfold VT
    by_cases e:r < i
    ·rw [M0 e,M0 e]
    ·rw [K0 e,K0 e,X8 (O2 _)]
     by_cases e2:r=i
     ·subst e2; rw [M0 rfl]
     ·rw [K0 e2,K0 e2]
   ·have hkn2:k < n:=A0
    obtain ⟨la,h1,h2⟩:=hT.2 i hin2
    obtain ⟨lk,h3,h4⟩:=hT.2 k hkn2
    rw [W2 h3 rfl,obs,W2 h1 rfl,obs,U4 (by rw [hT.1]; exact hin2) rfl,obs,U4 (by rw [O3,hT.1]; exact hkn2) rfl,obs,J0]
    have bd:=hR _ _ _ 0 c hrows hkn hlt' A0 hcw
    have ld:dl.length≤60:=by
     have b0:Bk 60 (det k (Pm_ A' col)):=Bk.of bd.2 hM
     have:Bk 60 (sn*det k (Pm_ A' col)):=by
      rcases hB.sg.1 with e | e
      ·rw [e,E4]; exact b0
      ·rw [e]; exact ⟨by have:=b0.2; omega,by have:=b0.1; omega⟩
     exact this.len hd
    refine (ij (s:=ds) hd.1 A0).mono fun r hr=>?_
    obtain ⟨hr,_⟩:=hr
    rw [hd.sv] at hr
    refine fin (Tq (a:=i) hM hR hB hw hn hcw hki hin2 (hne hin2) hnz ?_ hpv (hr.cast ?_) he)
    ·refine ((hT.set hin2 h4).set hkn2 h2).congr (fun r j hr _=>?_) fun r hr=>?_
     ·by_cases e1:r=k
      ·subst e1
       rw [C2,K0 (Fk r),X8 hki,M0 rfl,hVge _ _ hki]
      ·rw [H2 e1]
       by_cases e2:r=i
       ·subst e2
        rw [C2,B0,X8 hki,K0 e1,M0 rfl,hVge _ _ (O2 k)]
       ·rw [H2 e2]
        unfold VT
        by_cases e3:r < k
        ·rw [M0 e3,M0 e3]
        ·rw [K0 e3,K0 e3,X8 hki,K0 e1,K0 e2]
     ·by_cases e1:r=k
      ·subst e1; rw [M0 rfl,hDge _ hki,hDge _ (O2 r)]
      ·rw [K0 e1]
       by_cases e2:r=i
       ·subst e2; rw [M0 rfl,hDge _ (O2 k),hDge _ hki]
       ·rw [K0 e2]
    ·rw [B0]; grind
end
theorem EB {α:Type} {l:List α} {k:Nat} (h:k < l.length):getI l (k:Int)=some l[k]:=W2 (U3 h) rfl
theorem mL {n:Nat} (h:n≤maxLen):n < 9223372036854775808:=by
 have e:maxLen=9223372036854775807:=by decide
 omega
def cw (T:List (List Nb)):Nat:=match T with | []=>0 | l::_=>l.length
theorem sE {T:List (List Nb)} (hT:T.length≤1000000):m_i9 T (cw T:Int)=some (!(T.all (fun l=>decide (l.length=cw T)))):=by
 refine Ret.eq ?_
 unfold m_i9 m_i8
 rw [J0,J0]
 refine (Q0 (Post:=fun o:Unit⊕Int=>(T.all (fun l=>decide (l.length=cw T))=true∧o=.inl ())∨(T.all (fun l=>decide (l.length=cw T))=false∧∃ k:Nat,o=.inr (k:Int))) T.length (fun k (i:Int)=>i=(k:Int)∧k≤T.length∧∀ j (hj:j < T.length),j < k→T[j].length=cw T) ⟨rfl,A0,fun j _ h=>A0⟩ ?_ A0).mono ?_
 ·rintro k _ hk ⟨rfl,hkl,hI⟩
  unfold m_i7
  rw [O0]
  refine ⟨fun hlt=>?_,fun hge=>⟨_,rfl,.inl ⟨E7.2 fun x hx=>?_,rfl⟩⟩⟩
  ·have hk':k < T.length:=A0
   rw [EB hk',obs]
   unfold m_i6
   rw [obs,O0]
   refine ⟨fun hne=>⟨_,rfl,.inr ⟨?_,k,rfl⟩⟩,fun he=>⟨_,rfl,hk',by show wa .i64 (k:Int) 1=_; rw [U0 A0 A0]; rfl,A0,fun j hj hjk=>?_⟩⟩
   ·rw [Bool.eq_false_iff]
    intro h
    have:=E7.1 h _ (z6 hk')
    simp only [decide_eq_true_eq] at this
    rw [this] at hne
    simp at hne
   ·by_cases e:j=k
    ·subst e
     simp only [I7,decide_eq_false_iff_not,Yu] at he
     omega
    ·exact hI j hj A0
  ·obtain ⟨j,hj,rfl⟩:=He hx
   exact decide_eq_true (hI j hj A0)
 ·rintro _ (⟨h,rfl⟩ | ⟨h,k,rfl⟩)
  ·exact ⟨_,rfl,_,rfl,by rw [h]; rfl⟩
  ·refine ⟨_,rfl,_,rfl,?_⟩
   rw [h]
   show decide ((0:Int)≤(k:Int))=true
   exact decide_eq_true A0
theorem Tr.bd {K n w:Nat} {T:List (List Nb)} {A:Mx} (h:Tr K T n w A):∀ i j,i < n→j < w→Bd (pw K) (A i j):=fun i j hi hj=>by
 obtain ⟨l,h1,h2⟩:=h.2 i hi
 obtain ⟨z,h3,h4⟩:=h2.2 j hj
 exact h4.bd
theorem Lr.bd {K w:Nat} {l:List Nb} {f:Nat→Int} (h:Lr K l w f):∀ j,j < w→Bd (pw K) (f j):=fun j hj=>by
 obtain ⟨z,h3,h4⟩:=h.2 j hj
 exact h4.bd
section
variable {n w K:Nat} {A:Mx} {T:List (List Nb)} {M:Int}
theorem Dy (hM:M < pw 60) (hR:Okb n w A M) (hT:Tr K T n w A) (hK:K≤400) (hn:n≤16) (hw:w≤16) (hn0:0 < n∨w=0):∃ k:Nat,m_d0 T=some (k:Int)∧∃ A' col sn,Bar n w A A' col k w sn:=by
 obtain ⟨F,hF1,hF⟩:=Ss hT hK A0 A0
 obtain ⟨⟨F',pv,ds,dl,es,el⟩,h1,A',col,k,sn,hB,hT',hpv,hd,he,hnz⟩:=Bt hM hR A0 A0 hF
 simp only at hpv
 have hpl:pv.length=k:=by rw [hpv,Qa,w7]
 refine ⟨k,?_,A',col,sn,hB⟩
 have hcol:m_c5 T=some (w:Int):=by
  rw [Il hT.sh]
  split
  ·rename_i h0; have:w=0:=A0; rw [this]; rfl
  ·rfl
 unfold m_d0
 rw [hF1,obs,hcol,obs,h1,obs]
 simp only
 rw [hpl]
end
end Km
namespace Dt
section
open Sx Go M Vc Lm Km
variable {n w K:Nat} {A:Mx} {T:List (List Nb)} {M:Int}
theorem Bar.uniqk {A' A'':Mx} {col col':Nat→Nat} {k k':Nat} {sn sn':Int} (h:Bar n w A A' col k w sn) (h':Bar n w A A'' col' k' w sn'):k≤k':=by
 refine H1 fun hc=>?_
 obtain ⟨y,⟨j0,hj0,hy0⟩,hy⟩:=qg k' k (fun i t=>Rk A'' col' k' i (col t)) A0
 have hA:∀ r,r < n→sm k (fun t=>A r (col t)*y t)=0:=by
  refine h'.rows (P:=fun row=>sm k (fun t=>row (col t)*y t)=0) fun r hr=>?_
  have e:det k' (Pm_ A'' col')*sm k (fun t=>A'' r (col t)*y t)=0:=by
   rw [← E3]
   have e1:sm k (fun t=>det k' (Pm_ A'' col')*(A'' r (col t)*y t))=sm k (fun t=>sm k' fun s=>A'' r (col' s)*(Rk A'' col' k' s (col t)*y t)):=V0 fun t ht=>by
    have:=h'.span (j:=col t) hr (.inl (h.lt t ht))
    have e2:det k' (Pm_ A'' col')*(A'' r (col t)*y t)=(det k' (Pm_ A'' col')*A'' r (col t))*y t:=by grind
    rw [e2,this,← K7]
    exact V0 fun s _=>by grind
   rw [e1,A7]
   exact T4 fun s hs=>by rw [E3,hy s hs,w4]
  rcases L4.1 e with h1 | h1
  ·exact absurd h1 h'.d
  ·exact h1
 obtain ⟨x,xi,hx,hxA⟩:=h.perm
 have hkn:=h.kn
 refine hy0 (Gg h.d (w:=y) (fun r hr=>?_) j0 hj0)
 rw [← hA (x r) (hx r A0).1]
 exact V0 fun t ht=>by unfold Pm_; rw [hxA r _ A0]
end
end Dt
namespace Km
open Sx Go M Vc Lm Dt
section
variable {n w K:Nat} {A:Mx} {T:List (List Nb)} {M:Int}
theorem Lr.set {l:List Nb} {f:Nat→Int} (h:Lr K l w f) {c:Nat} (hc:c < w) {z:Nb} {v:Int} (hz:Rw K v z):Lr K (l.set c z) w (fun j=>if j=c then v else f j):=by
 refine ⟨by rw [O3]; exact h.1,fun j hj=>?_⟩
 by_cases e:j=c
 ·subst e
  exact ⟨z,by rw [G5]; rw [h.1]; exact hc,by show Rw K (if j=j then v else f j) z; rw [M0 rfl]; exact hz⟩
 ·obtain ⟨y,h1,h2⟩:=h.2 j hj
  exact ⟨y,by rw [H6 (fun h=>e h.symm)]; exact h1,by show Rw K (if j=c then v else f j) y; rw [K0 e]; exact h2⟩
theorem Tr.snoc {k:Nat} (h:Tr K T k w A) {l:List Nb} (hl:Lr K l w (A k)):Tr K (T++[l]) (k+1) w A:=by
 refine ⟨by rw [P1,h.1]; rfl,fun c hc=>?_⟩
 by_cases e:c < k
 ·obtain ⟨y,h1,h2⟩:=h.2 c e
  exact ⟨y,by rw [B6 (by rw [h.1]; exact e)]; exact h1,h2⟩
 ·obtain rfl:c=k:=A0
  exact ⟨l,by rw [I6 (by rw [h.1]; omega),h.1,E6]; rfl,hl⟩
theorem Lr.snoc {l:List Nb} {k:Nat} {f:Nat→Int} (h:Lr K l k f) {z:Nb} (hz:Rw K (f k) z):Lr K (l++[z]) (k+1) f:=by
 refine ⟨by rw [P1,h.1]; rfl,fun c hc=>?_⟩
 by_cases e:c < k
 ·obtain ⟨y,h1,h2⟩:=h.2 c e
  exact ⟨y,by rw [B6 (by rw [h.1]; exact e)]; exact h1,h2⟩
 ·obtain rfl:c=k:=A0
  exact ⟨z,by rw [I6 (by rw [h.1]; omega),h.1,E6]; rfl,hz⟩
end
section
variable {n w:Nat} {A:Mx} {T:List (List Nb)} {M:Int}
def KU (n w:Nat) (A:Mx) (M:Int) (fr:Nat) (l:List Nb):Prop:=∃ u:Nat→Int,Lg l w u∧(∀ j,j < w→Bd M (u j))∧(∀ r,r < n→sm w (fun j=>A r j*u j)=0)∧(∀ d:Int,(∀ j,j < w→d ∣ u j)→d ∣ 1)∧0 < u fr∧∀ j,fr < j→j < w→u j=0
theorem Kl {K:Nat} (hM:M < pw 190) (hR:Okb n w A M) (hT:Tr K T n w A) (hK:K≤400) (hn:n≤16) (hw:w≤16) (hn0:0 < n) (hw0:0 < w):
  ∃ l k A' col sn,m_j6 T=some (l,0)∧Bar n w A A' col k w sn∧((l=[]∧k=w)∨(k < w∧∃ fr,KU n w A M fr l∧fr < w∧fr≤k∧(∀ s,s < fr→col s=s)∧(fr < k→col fr≠fr))):=by
 obtain ⟨T',ht,hT'⟩:=Dl hT hK A0 A0
 obtain ⟨⟨R,pv,zs,zl,sn⟩,hel,A',col,k,hB,hTR,hpv,hd⟩:=Oj (cw:=w) hM hR (O2 w) A0 A0 hT'
 simp only at hB hTR hpv hd
 have hpl:pv.length=k:=by rw [hpv,Qa,w7]
 have hcol:m_i5 T=some (w:Int):=by rw [vh hT.sh,B0]
 have hchk:=Ql hT.sh hn hw
 have hpg:∀ s,s < k→getI pv (s:Int)=some (col s:Int):=fun s hs=>W2 (by rw [hpv,Ra,Cc hs]; rfl) rfl
 have hcols:∀ s,s < k→col s < w:=fun s hs=>hB.lt s hs
 have hge:∀ d s,s+d < k→col s+d≤col (s+d):=by
  intro d s
  induction d with
  | zero=>intro _; exact O2 _
  | succ d ih=>intro hd; have:=hB.asc (s+d) (s+(d+1)) A0 A0; have:=ih A0; omega
 have hkw:k≤w:=by
  rcases ma k with h | h
  ·omega
  ·have h1:=hge (k - 1) 0 A0
   have h2:=hcols (k - 1) A0
   rw [Y8] at h1
   omega
 have bD:=(hR A' col k 0 0 (Ja hB) hB.kn hcols hn0 hw0).2
 have bX:∀ i j,i < n→j < w→Bd M (Rk A' col k i j):=fun i j hi hj=>(hR A' col k i j (Ja hB) hB.kn hcols hi hj).1
 have hM0:=bD.nn
 have ld:=hd.lenB bD hM
 have hD0:=hB.d
 have hfree:Ret (loop (m_j5 (R,pv,zs,zl,sn)) 0) (fun o=>∃ fr:Nat,o=(fr:Int)∧fr≤k∧(∀ s,s < fr→col s=s)∧(fr < k→col fr≠fr)):=by
  refine Q0 (Post:=fun o=>∃ fr:Nat,o=(fr:Int)∧fr≤k∧(∀ s,s < fr→col s=s)∧(fr < k→col fr≠fr)) k (fun j (i:Int)=>i=(j:Int)∧j≤k∧∀ s,s < j→col s=s) ⟨rfl,A0,fun s hs=>absurd hs A0⟩ ?_ A0
  rintro j _ hj ⟨rfl,hjk,hI⟩
  unfold m_j5
  simp only
  rw [hpl]
  by_cases hlt:j < k
  ·rw [C0,hpg j hlt,obs,obs,O0]
   refine ⟨fun he=>⟨_,rfl,hlt,by rw [U0 A0 A0]; rfl,hlt,fun s hs=>?_⟩,fun he=>⟨_,rfl,j,rfl,hjk,hI,fun _ h=>he (by rw [h]; simp)⟩⟩
   have he:(col j:Int)=(j:Int):=by simpa using he
   by_cases e:s=j
   ·subst e; omega
   ·exact hI s A0
  ·rw [B0,obs,K0 H0]
   exact ⟨_,rfl,j,rfl,hjk,hI,fun h=>absurd h hlt⟩
 obtain ⟨_,hfl,fr,rfl,hfk,hfs,hfn⟩:=hfree
 have hpre:∀ (f:Int→Option (List Nb×Int)),((loop (m_j5 (R,pv,zs,zl,sn)) 0).bind f)=f (fr:Int):=fun f=>by rw [hfl,obs]
 by_cases hfw:fr=w
 ·refine ⟨[],k,A',col,sn,?_,hB,.inl ⟨rfl,A0⟩⟩
  unfold m_j6
  rw [hchk,obs,M0 rfl,hcol,obs,ht,obs,hel,obs,hpre,C0]
 ·have hno:∀ s,s < k→col s≠fr:=by
   intro s hs
   by_cases h1:s < fr
   ·rw [hfs s h1]; omega
   ·have h2:fr < k:=A0
    have h3:=hfn h2
    have h4:=hge (s - fr) fr A0
    rw [show fr+(s - fr)=s by omega] at h4
    have h5:fr≤col fr:=by
     rcases ma fr with h | h
     ·omega
     ·have h6:=hB.asc (fr - 1) fr A0 h2
      rw [hfs (fr - 1) A0] at h6
      omega
    omega
  have hkw2:k < w:=by
   refine H1 fun hc=>?_
   have hk:k=w:=A0
   have h2:fr < k:=A0
   have h4:=hge (k - 1 - fr) fr A0
   rw [show fr+(k - 1 - fr)=k - 1 by omega] at h4
   have h5:fr≤col fr:=by
    rcases ma fr with h | h
    ·omega
    ·have h6:=hB.asc (fr - 1) fr A0 h2
     rw [hfs (fr - 1) A0] at h6
     omega
   have h3:=hfn h2
   have h7:=hcols (k - 1) A0
   omega
  have hfrw:fr < w:=A0
  generalize hDD:det k (Pm_ A' col)=D at*
  let a:Int:=if D < 0 then -D else D
  let X:Nat→Int:=fun s=>if D < 0 then Rk A' col k s fr else - Rk A' col k s fr
  have ha0:0 < a:=by show 0 < (if D < 0 then -D else D); split<;>omega
  have ba:Bd M a:=by show Bd M (if D < 0 then -D else D); split; exact bD.neg; exact bD
  have hkn:=hB.kn
  have bXs:∀ s,s < k→Bd M (X s):=fun s hs=>by
   show Bd M (if D < 0 then Rk A' col k s fr else - Rk A' col k s fr)
   split
   ·exact bX s fr A0 hfrw
   ·exact (bX s fr A0 hfrw).neg
  have key:Ret (m_j6 T) (fun r=>r.2=0∧KU n w A M fr r.1):=by
   unfold m_j6
   rw [hchk,obs,M0 rfl,hcol,obs,ht,obs,hel,obs,hpre,B0,J0,Y5]
   refine ⟨A0,A0,?_⟩
   rw [A1,J0]
   refine (ju (s:=zs) hd.1 A0).mono fun z hz=>?_
   have hz:Bg a z.1 z.2:=by rw [hd.abs] at hz; exact hz
   have h0:Lg ((List.replicate w ((false,[]):Nb)).set fr (z.1,z.2)) w (vk fr a col X 0):=((Lg.zeros w).set hfrw (z:=(z.1,z.2)) hz).congr fun c _=>rfl
   rw [U4 (by rw [B5]; exact hfrw) rfl,obs]
   obtain ⟨y,hy1,hy2⟩:=h0.at hfrw (i:=(fr:Int)) rfl
   have hy2:Bg a y.1 y.2:=hy2.cast (M0 rfl)
   rw [hy1,obs,J0]
   refine (Q0 (Post:=fun o:List Nb×Bool×LI=>Lg o.1 w (vk fr a col X k)∧∃ G,Bg G o.2.1 o.2.2∧(0 < G∧G≤a)∧(G ∣ a∧∀ s,s < k→G ∣ X s)∧∀ d,d ∣ a→(∀ s,s < k→d ∣ X s)→d ∣ G) k (fun i (s:List Nb×Bool×LI×Int)=>s.2.2.2=(i:Int)∧Lg s.1 w (vk fr a col X i)∧∃ G,Bg G s.2.1 s.2.2.1∧(0 < G∧G≤a)∧(G ∣ a∧∀ s,s < i→G ∣ X s)∧∀ d,d ∣ a→(∀ s,s < i→d ∣ X s)→d ∣ G) ⟨rfl,h0,a,hy2,⟨ha0,Qe a⟩,⟨Vu a,fun s hs=>absurd hs A0⟩,fun d h _=>h⟩ ?_ A0).mono ?_
   ·rintro i ⟨o,gs,gl,_⟩ hi ⟨rfl,hI,G,hG,⟨g0,g1⟩,⟨g2,g3⟩,g4⟩
    simp only at hI hG
    unfold m_j4
    simp only
    rw [hpl,O0]
    refine ⟨fun hlt=>?_,fun hge2=>⟨_,rfl,by have e:i=k:=A0; subst e; exact ⟨hI,G,hG,⟨g0,g1⟩,⟨g2,g3⟩,g4⟩⟩⟩
    have hik:i < k:=A0
    obtain ⟨row,h1,h2⟩:=hTR.at (show i < n by omega) (i:=(i:Int)) rfl
    obtain ⟨x,h3,h4⟩:=h2.at hfrw (i:=(fr:Int)) rfl
    have lx:=h4.lenB (bX i fr A0 hfrw) hM
    rw [hpg i hik,obs,h1,obs,h3,obs,J0]
    refine (Pp hd h4 A0 A0).mono fun t ht2=>?_
    have bt:Bd M (if D < 0 then - Rk A' col k i fr else Rk A' col k i fr):=by
     split
     ·exact (bX i fr A0 hfrw).neg
     ·exact bX i fr A0 hfrw
    have lt:=ht2.lenB bt hM
    rw [J0]
    refine (jj (s:=t.1) ht2.1 A0).mono fun q hq=>?_
    have hq:Bg (X i) q.1 q.2:=by
     rw [ht2.sv] at hq
     refine hq.cast ?_
     show -(if D < 0 then - Rk A' col k i fr else Rk A' col k i fr)=if D < 0 then Rk A' col k i fr else - Rk A' col k i fr
     split<;>omega
    have hci:=hcols i hik
    rw [U4 (by rw [hI.1]; exact hci) rfl,obs]
    have hS:Lg (o.set (col i) (q.1,q.2)) w (vk fr a col X (i+1)):=(hI.set hci (z:=(q.1,q.2)) hq).congr fun c _=>rfl
    obtain ⟨y2,hy3,hy4⟩:=hS.at hci (i:=(col i:Int)) rfl
    have hy4:Bg (X i) y2.1 y2.2:=hy4.cast (M0 rfl)
    have ly2:=hy4.lenB (bXs i hik) hM
    have lG:=hG.lenB (show Bd M G from ⟨A0,by have:=ba.2; omega⟩) hM
    rw [hy3,obs,J0]
    refine (Ps (s:=gs) (t:=y2.1) hG.1 hy4.1 A0 A0).mono fun g hg=>?_
    rw [hG.sv,hy4.sv] at hg
    obtain ⟨e1,e2⟩:=Ij (x:=G) (y:=X i) g0
    have d1:((Int.gcd G (X i):Nat):Int) ∣ G:=Ec ..
    have d2:((Int.gcd G (X i):Nat):Int) ∣ X i:=Dc ..
    refine ⟨_,rfl,hik,by show wa .i64 (i:Int) 1=_; rw [U0 A0 A0]; rfl,hS,_,hg,⟨e1,A0⟩,⟨Fc d1 g2,fun s hs=>?_⟩,fun d hda hdx=>?_⟩
    ·by_cases e:s=i
     ·subst e; exact d2
     ·exact Fc d1 (g3 s A0)
    ·exact Int.dvd_coe_gcd (g4 d hda fun s hs=>hdx s A0) (hdx i A0)
   ·rintro ⟨o,gs,gl⟩ ⟨hO,G,hG,⟨g0,g1⟩,⟨g2,g3⟩,g4⟩
    simp only at hO hG ⊢
    have bv:∀ j,Bd M (vk fr a col X k j):=wi hM0 ba k bXs
    have hGd:∀ j,j < w→G ∣ vk fr a col X k j:=by
     intro j hj
     by_cases e:j=fr
     ·subst e; rw [Xa k hno]; exact g2
     ·by_cases hex:∃ s,s < k∧col s=j
      ·obtain ⟨s,hs,rfl⟩:=hex
       rw [Ya k hB.asc s hs]; exact g3 s hs
      ·rw [Jc e k fun s hs h=>hex ⟨s,hs,h⟩]; exact Int.dvd_zero _
    have hue:∀ j,j < w→G*(vk fr a col X k j / G)=vk fr a col X k j:=fun j hj=>Su (hGd j hj)
    have lG:=hG.lenB (show Bd M G from ⟨A0,by have:=ba.2; omega⟩) hM
    have bu:∀ j,j < w→Bd M (vk fr a col X k j / G):=by
     intro j hj
     have h1:=hue j hj
     have h2:=bv j
     generalize vk fr a col X k j / G=u at*
     rw [← h1] at h2
     rcases Int.le_total 0 u with h3 | h3
     ·have:1*u≤G*u:=X2 A0 h3
      exact ⟨A0,by have:=h2.2; omega⟩
     ·have:G*u≤1*u:=kl A0 h3
      exact ⟨by have:=h2.1; omega,A0⟩
    rw [J0]
    refine (Q0 (Post:=fun r:List Nb=>Lg r w (fun j=>vk fr a col X k j / G)) w (fun i (s:List Nb×Int)=>s.2=(i:Int)∧Lg s.1 w (fun j=>if j < i then vk fr a col X k j / G else vk fr a col X k j)) ⟨rfl,hO.congr fun c _=>(B0).symm⟩ ?_ A0).mono ?_
    ·rintro i ⟨r,_⟩ hi ⟨rfl,hI⟩
     simp only at hI
     unfold m_j3
     simp only
     rw [hO.1,O0]
     refine ⟨fun hlt=>?_,fun hge2=>⟨_,rfl,hI.congr fun c hc=>M0 A0⟩⟩
     have hiw:i < w:=A0
     obtain ⟨x,h1,h2⟩:=hI.at hiw (i:=(i:Int)) rfl
     have h2:Bg (vk fr a col X k i) x.1 x.2:=h2.cast (B0)
     have lx:=h2.lenB (bv i) hM
     rw [h1,obs,J0]
     refine (Vi (s:=x.1) (t:=gs) (h:=vk fr a col X k i / G) h2.1 hG.1 A0 A0 (by rw [hG.sv]; omega) (by rw [h2.sv,hG.sv,hue i hiw])).mono ?_
     rintro ⟨t1,t2,t3⟩ ⟨ht3,_⟩
     simp only at ht3 ⊢
     rw [U4 (by rw [hI.1]; exact hiw) rfl,obs]
     refine ⟨_,rfl,hiw,by show wa .i64 (i:Int) 1=_; rw [U0 A0 A0]; rfl,(hI.set hiw (z:=(t1,t2)) ht3).congr fun c hc=>?_⟩
     by_cases e:c=i
     ·subst e; rw [M0 rfl,C0]
     ·rw [K0 e]
      by_cases hck:c < i
      ·rw [M0 hck,C0]
      ·rw [K0 hck,B0]
    ·intro r hr
     refine ⟨_,rfl,rfl,_,hr,bu,fun i hi=>?_,fun d hdv=>?_,?_,fun j hj1 hj2=>?_⟩
     ·
      have hker:=hB.kernel hfrw hno (v:=fun j=>if D < 0 then - vk fr a col X k j else vk fr a col X k j) (by
       show (if D < 0 then - vk fr a col X k fr else vk fr a col X k fr)=det k (Pm_ A' col)
       rw [Xa k hno,hDD]
       show (if D < 0 then -(if D < 0 then -D else D) else (if D < 0 then -D else D))=D
       split<;>omega) (fun s hs=>by
       show (if D < 0 then - vk fr a col X k (col s) else vk fr a col X k (col s))=_
       rw [Ya k hB.asc s hs]
       show (if D < 0 then -(if D < 0 then Rk A' col k s fr else - Rk A' col k s fr) else (if D < 0 then Rk A' col k s fr else - Rk A' col k s fr))=_
       split<;>omega) (fun j hj h1 h2=>by
       show (if D < 0 then - vk fr a col X k j else vk fr a col X k j)=0
       rw [Jc h1 k h2]; split<;>omega) i hi
      have e1:sm w (fun j=>A i j*vk fr a col X k j)=0:=by
       by_cases hn2:D < 0
       ·have e2:sm w (fun j=>A i j*(if D < 0 then - vk fr a col X k j else vk fr a col X k j))= -1*sm w (fun j=>A i j*vk fr a col X k j):=by
         rw [← E3]; exact V0 fun j _=>by rw [M0 hn2]; grind
        rw [e2] at hker; omega
       ·have e2:sm w (fun j=>A i j*(if D < 0 then - vk fr a col X k j else vk fr a col X k j))=sm w (fun j=>A i j*vk fr a col X k j):=V0 fun j _=>by rw [K0 hn2]
        rw [e2] at hker; exact hker
      have e3:sm w (fun j=>A i j*vk fr a col X k j)=G*sm w (fun j=>A i j*(vk fr a col X k j / G)):=by
       rw [← E3]
       exact V0 fun j hj=>by
        have h9:=hue j hj
        have h8:A i j*vk fr a col X k j=A i j*(G*(vk fr a col X k j / G)):=by rw [h9]
        rw [h8]; grind
      rw [e3] at e1
      rcases L4.1 e1 with h | h
      ·omega
      ·exact h
     ·
      have hdG:∀ j,j < w→d*G ∣ vk fr a col X k j:=by
       intro j hj
       obtain ⟨c,hc⟩:=hdv j hj
       refine ⟨c,?_⟩
       have h9:=hue j hj
       have hc:vk fr a col X k j / G=d*c:=hc
       rw [← h9,hc]; grind
      have h1:d*G ∣ a:=by have:=hdG fr hfrw; rwa [Xa k hno] at this
      have h2:∀ s,s < k→d*G ∣ X s:=fun s hs=>by have:=hdG (col s) (hcols s hs); rwa [Ya k hB.asc s hs] at this
      obtain ⟨c,hc⟩:=g4 _ h1 h2
      have h3:G*(d*c - 1)=0:=by
       have:d*G*c=G*(d*c):=by grind
       rw [C9]; omega
      rcases L4.1 h3 with h | h
      ·omega
      ·exact ⟨c,A0⟩
     ·have h9:=hue fr hfrw
      rw [Xa k hno] at h9 ⊢
      refine H1 fun hc=>?_
      have:=Oe (show 0≤G by omega) (show a / G≤0 by omega)
      omega
     ·have h0:vk fr a col X k j=0:=by
       by_cases hex:∃ s,s < k∧col s=j
       ·obtain ⟨s,hs,rfl⟩:=hex
        rw [Ya k hB.asc s hs]
        have hl:Rk A' col k s fr=0:=hB.lead s fr hs hj1
        show (if D < 0 then Rk A' col k s fr else - Rk A' col k s fr)=0
        rw [hl]; split<;>omega
       ·exact Jc A0 k fun s hs h=>hex ⟨s,hs,h⟩
      show vk fr a col X k j / G=0
      rw [h0,al]
  obtain ⟨⟨l,e⟩,hk1,he,hu⟩:=key
  simp only at he hu
  subst he
  exact ⟨l,k,A',col,sn,hk1,hB,.inr ⟨hkw2,fr,hu,hfrw,hfk,hfs,hfn⟩⟩
end
section
variable {n w:Nat} {A A':Mx} {col:Nat→Nat} {k fr:Nat} {sn M:Int} {u:Nat→Int}
end
end Km
namespace Dt
section
open Sx Go M Vc Lm Km
variable {n w:Nat} {A A':Mx} {col:Nat→Nat} {k fr:Nat} {sn M:Int} {u:Nat→Int}
theorem Bar.ge (h:Bar n w A A' col k w sn):∀ s,s < k→s≤col s:=by
 intro s
 induction s with
 | zero=>intro _; omega
 | succ s ih=>intro hs; have:=ih A0; have:=h.asc s (s+1) A0 hs; omega
end
end Dt
namespace Km
open Sx Go M Vc Lm Dt
section
variable {n w:Nat} {A A':Mx} {col:Nat→Nat} {k fr:Nat} {sn M:Int} {u:Nat→Int}
end
end Km
namespace Dt
section
open Sx Go M Vc Lm Km
variable {n w:Nat} {A A':Mx} {col:Nat→Nat} {k fr:Nat} {sn M:Int} {u:Nat→Int}
theorem Bar.indep (h:Bar n w A A' col k w sn) {f:Nat} (hf:f≤k) (hc:∀ s,s < f→col s=s) {v:Nat→Int} (hv:∀ r,r < n→sm w (fun j=>A r j*v j)=0) (h0:∀ j,f≤j→j < w→v j=0):∀ j,j < f→v j=0:=by
 obtain ⟨x,xi,hx,hA⟩:=h.perm
 have hkn:=h.kn
 have hinj:∀ s t,s < k→t < k→col s=col t→s=t:=by
  intro s t hs ht e
  rcases Pa s t with h5 | h5 | h5
  ·have:=h.asc s t h5 ht; omega
  ·exact h5
  ·have:=h.asc t s h5 hs; omega
 have key:=Gg h.d (w:=fun s=>v (col s)) fun r hr=>by
  rw [← hv (x r) (hx r A0).1]
  have e1:sm w (fun j=>A (x r) j*v j)=sm w (fun j=>sm k fun s=>if j=col s then Pm_ A' col r s*v (col s) else 0):=V0 fun j hj=>by
   by_cases hex:∃ s,s < k∧col s=j
   ·obtain ⟨s,hs,rfl⟩:=hex
    have e:sm k (fun t=>if col s=col t then Pm_ A' col r t*v (col t) else 0)=sm k (fun t=>if t=s then Pm_ A' col r t*v (col t) else 0):=V0 fun t ht=>by
     by_cases hts:t=s
     ·subst hts; rw [M0 rfl,M0 rfl]
     ·rw [K0 (fun e=>hts (hinj t s ht hs e.symm)),K0 hts]
    rw [e,J4 (f:=fun t=>Pm_ A' col r t*v (col t)) hs]
    unfold Pm_
    rw [hA r _ A0]
   ·have hfj:f≤j:=by
     refine H1 fun hn=>hex ⟨j,A0,hc j A0⟩
    rw [h0 j hfj hj,w4,T4 fun s hs=>K0 fun e=>hex ⟨s,hs,e.symm⟩]
  rw [e1,A7]
  exact V0 fun s hs=>(J4 (f:=fun _=>Pm_ A' col r s*v (col s)) (h.lt s hs)).symm
 intro j hj
 have:=key j A0
 simp only [hc j hj] at this
 exact this
end
end Dt
namespace Km
open Sx Go M Vc Lm Dt
section
variable {n w:Nat} {A A':Mx} {col:Nat→Nat} {k fr:Nat} {sn M:Int} {u:Nat→Int}
end
end Km
namespace Dt
section
open Sx Go M Vc Lm Km
variable {n w:Nat} {A A':Mx} {col:Nat→Nat} {k fr:Nat} {sn M:Int} {u:Nat→Int}
theorem Bar.tri (h:Bar n w A A' col k w sn) (hu:∀ r,r < n→sm w (fun j=>A r j*u j)=0) {s:Nat} (hs:s < k):sm w (fun j=>Rk A' col s s j*u j)=0:=by
 obtain ⟨x,xi,hx,hA⟩:=h.perm
 have hkn:=h.kn
 have hr:∀ r,r < n→sm w (fun j=>A' r j*u j)=0:=fun r hrn=>by
  rw [← hu (x r) (hx r hrn).1]
  exact V0 fun j _=>by rw [hA r j hrn]
 have e1:sm w (fun j=>Rk A' col s s j*u j)=sm w (fun j=>det s (Pm_ A' col)*(A' s j*u j)+(-1)*sm s (fun t=>bt A' col s s t*(A' t j*u j))):=V0 fun j _=>by
  rw [sd (Fk s),Int.sub_mul,← K7]
  have:sm s (fun t=>bt A' col s s t*A' t j*u j)=sm s (fun t=>bt A' col s s t*(A' t j*u j)):=V0 fun t _=>by rw [N6]
  rw [this]; grind
 rw [e1,B7,E3,E3,hr s A0,A7]
 have:sm s (fun t=>sm w fun j=>bt A' col s s t*(A' t j*u j))=0:=T4 fun t ht=>by rw [E3,hr t A0,w4]
 rw [this]; simp
end
end Dt
namespace Km
open Sx Go M Vc Lm Dt
section
variable {n w:Nat} {A A':Mx} {col:Nat→Nat} {k fr:Nat} {sn M:Int} {u:Nat→Int}
theorem nq {f:Nat→Int} {a b:Nat} (h:a≤b):sm b f=sm a f+sm (b - a) fun t=>f (a+t):=by
 obtain ⟨d,rfl⟩:=AD h
 rw [show a+d - a=d by omega]
 induction d with
 | zero=>show sm a f=sm a f+0; omega
 | succ d ih=>
  show sm (a+d) f+f (a+d)=sm a f+(sm d (fun t=>f (a+t))+f (a+d))
  rw [ih A0]; omega
end
section
variable {n w:Nat} {A A':Mx} {col:Nat→Nat} {k fr:Nat} {sn M:Int} {u:Nat→Int}
def Vk (w fr:Nat) (u:Nat→Int) (s:Nat) (v:List Fb):Prop:=v.length=w∧∀ j,j < w→∃ z,v[j]?=some z∧(if j < s then Fq z 0 1 else Fq z (u j) (u fr))
theorem Vs:∀ {z:Fb},Fr z 1 1→Fq z 1 1:=fun h=>⟨1,1,h,jg 1,by unfold Vq; rfl⟩
theorem pz (hM:M < pw 60) (hB:Bar n w A A' col k w sn) (hnz:∀ s,s≤k→det s (Pm_ A' col)≠0) (hfk:fr≤k) (hfw:fr < w) (hw:w≤16) (hfs:∀ s,s < fr→col s=s)
  (bR:∀ s j,s < fr→j < w→Bd M (Rk A' col s s j)∧Bd M (det s (Pm_ A' col))) (bu:∀ j,j < w→Bd M (u j)) (hu:∀ r,r < n→sm w (fun j=>A r j*u j)=0) (hu0:0 < u fr) (huz:∀ j,fr < j→j < w→u j=0)
  {F:List (List Fb)} {pv:LI} {ds es:Bool} {dl el:LI} (hF:Tf F n w (VT A' col k) (DT A' col k)) {o1 o2:Bool×LI} (h1:Bg 1 o1.1 o1.2) (h2:Bg 1 o2.1 o2.2) {v:List Fb} (hv:Vk w fr u fr v):
  Ret (loop (m_d8 (fr:Int) (F,pv,ds,dl,es,el) o1 o2) (v,(fr:Int) - 1)) (fun v=>Vk w fr u 0 v):=by
 have l1:=h1.lenB (M:=1) (m:=1) ⟨A0,A0⟩ (by decide)
 have l2:=h2.lenB (M:=1) (m:=1) ⟨A0,A0⟩ (by decide)
 have hkn:=hB.kn
 refine Q0 (Post:=fun v:List Fb=>Vk w fr u 0 v) fr (fun t (s:List Fb×Int)=>t≤fr∧s.2=(fr:Int) - 1 - (t:Int)∧Vk w fr u (fr - t) s.1) ⟨A0,by show (fr:Int) - 1=(fr:Int) - 1 - 0; omega,hv⟩ ?_ A0
 rintro t ⟨v,_⟩ ht ⟨htf,rfl,hI⟩
 simp only at hI
 unfold m_d8
 simp only
 rw [O0]
 refine ⟨fun hge=>?_,fun hlt=>⟨_,rfl,by
  have e:t=fr:=A0
  subst e; rw [E6] at hI; exact hI⟩⟩
 have htf2:t < fr:=A0
 obtain ⟨s,hs⟩:∃ s,s=fr - 1 - t:=⟨_,rfl⟩
 have hsi:(fr:Int) - 1 - (t:Int)=(s:Int):=A0
 have hsf:s < fr:=A0
 have hst:fr - t=s+1:=A0
 rw [hst] at hI
 rw [hsi]
 obtain ⟨z0,g0,g1⟩:=hI.2 s A0
 rw [C0] at g1
 obtain ⟨row,r1,r2⟩:=hF.2 s A0
 have hV:∀ j,VT A' col k s j=Rk A' col s s j:=fun j=>M0 A0
 have hD:DT A' col k s=det s (Pm_ A' col):=M0 A0
 have hd0:=hnz s A0
 have huf:u fr≠0:=A0
 generalize hdd:det s (Pm_ A' col)=dd at*
 have hDne:dd*u fr≠0:=I8 hd0 huf
 have bdd:Bd M dd:=by rw [← hdd]; exact (bR s fr hsf hfw).2
 have bD:Bk 120 (dd*u fr):=Bk.mul (K:=60) (L:=60) (Bk.of bdd hM) (Bk.of (bu fr hfw) hM)
 let X:Nat→Int:=fun m=>-(sm m fun t=>Rk A' col s s (s+1+t)*u (s+1+t))
 have hM0:=bdd.nn
 have bX:∀ m,s+1+m≤w→Bk 121 (X m):=fun m hm=>by
  have b:=(Xd (n:=m) (M:=M*M) (K3 hM0 hM0) fun t ht=>((bR s (s+1+t) hsf A0).1).mul (bu (s+1+t) A0)).neg
  refine Bk.of b ?_
  exact kx hM hM0 A0
 rw [W2 g0 rfl,obs,J0]
 have hw1:wa .i64 (s:Int) 1=((s+1:Nat):Int):=by rw [U0 A0 A0]; rfl
 rw [hw1]
 refine (Q0 (Post:=fun q:Fb=>Fq q (X (fr - s)) (dd*u fr)) (fr - s) (fun m (q:Bool×LI×Bool×LI×Int)=>q.2.2.2.2=((s+1+m:Nat):Int)∧s+m≤fr∧Fq (q.1,q.2.1,q.2.2.1,q.2.2.2.1) (X m) (dd*u fr)) ⟨rfl,A0,by
  have e:X 0=0:=by show -(0:Int)=0; omega
  rw [e]; exact g1.zero A0⟩ ?_ A0).mono ?_
 ·rintro m ⟨a1,a2,a3,a4,_⟩ hm ⟨rfl,hmf,hJ⟩
  simp only at hJ
  unfold m_d7
  simp only
  rw [O0]
  refine ⟨fun hle=>?_,fun hgt=>⟨_,rfl,by have e:m=fr - s:=A0; subst e; exact hJ⟩⟩
  have hjw:s+1+m < w:=A0
  obtain ⟨y,y1,y2⟩:=r2.2 (s+1+m) hjw
  rw [hV,hD] at y2
  obtain ⟨z,z1,z2⟩:=hI.2 (s+1+m) hjw
  rw [B0] at z2
  rw [W2 r1 rfl,obs,W2 y1 rfl,obs,W2 z1 rfl,obs,J0]
  have b:=bR s (s+1+m) hsf hjw
  have ly:=y2.len hd0 (Bk.of b.1 hM) (Bk.of bdd hM)
  have lz:=z2.len huf (Bk.of (bu _ hjw) hM) (Bk.of (bu fr hfw) hM)
  have lx:=hJ.len hDne (bX m A0) (bD.mono A0)
  have f1:=y2.scale (u fr)
  have f2:=z2.scale dd
  have f3:=(Vs (z:=(o1.1,o1.2,o2.1,o2.2)) ⟨h1,h2⟩).scale (dd*u fr)
  rw [I2 (u fr) dd] at f1
  rw [C6] at f3
  refine (Ws (K:=60) (L:=121) (x:=(a1,a2,a3,a4)) (y:=y) (z:=z) (w:=(o1.1,o1.2,o2.1,o2.2)) hDne hDne hJ f1 f2 f3 lx ly lz ⟨by show o1.2.length≤60; omega,by show o2.2.length≤60; omega⟩ A0).mono fun q hq=>?_
  have e1:X m*(dd*u fr) - u fr*Rk A' col s s (s+1+m)*(dd*u (s+1+m))=(dd*u fr)*X (m+1):=by
   show X m*(dd*u fr) - u fr*Rk A' col s s (s+1+m)*(dd*u (s+1+m))=(dd*u fr)* -(sm m (fun t=>Rk A' col s s (s+1+t)*u (s+1+t))+Rk A' col s s (s+1+m)*u (s+1+m))
   show -(sm m fun t=>Rk A' col s s (s+1+t)*u (s+1+t))*(dd*u fr) - u fr*Rk A' col s s (s+1+m)*(dd*u (s+1+m))=_
   grind
  rw [e1] at hq
  exact ⟨_,rfl,A0,by show wa .i64 ((s+1+m:Nat):Int) 1=_; rw [U0 A0 A0]; rfl,A0,hq.cancel hDne⟩
 ·rintro ⟨a1,a2,a3,a4⟩ hq
  simp only at hq ⊢
  have hpiv:det (s+1) (Pm_ A' col)=Rk A' col s s s:=by
   have:=det_next (A:=A') (col:=col) (k:=s) (by rw [hdd]; exact hd0)
   rw [hfs s hsf] at this; exact this
  have hp0:Rk A' col s s s≠0:=by rw [← hpiv]; exact hnz (s+1) A0
  have hXs:X (fr - s)=Rk A' col s s s*u s:=by
   have ht:=hB.tri hu (show s < k by omega)
   rw [nq (show s+1≤w by omega)] at ht
   have e1:sm (s+1) (fun j=>Rk A' col s s j*u j)=Rk A' col s s s*u s:=by
    show sm s (fun j=>Rk A' col s s j*u j)+Rk A' col s s s*u s=_
    have:sm s (fun j=>Rk A' col s s j*u j)=0:=T4 fun j hj=>by
     have:=td (A:=A') (col:=col) (k:=s) (i:=s) (s:=j) (Fk s) hj
     rw [hfs j A0] at this
     rw [this,Q3]
    rw [this]; omega
   rw [e1,nq (show fr - s≤w - (s+1) by omega)] at ht
   have e2:sm (w - (s+1) - (fr - s)) (fun t=>Rk A' col s s (s+1+(fr - s+t))*u (s+1+(fr - s+t)))=0:=T4 fun t ht=>by
    rw [huz _ A0 A0,w4]
   rw [e2] at ht
   show -(sm (fr - s) fun t=>Rk A' col s s (s+1+t)*u (s+1+t))=_
   omega
  rw [hXs] at hq
  have bq:Bk 121 (Rk A' col s s s*u s):=(Bk.mul (K:=60) (L:=60) (Bk.of (bR s s hsf A0).1 hM) (Bk.of (bu s A0) hM)).mono A0
  have lx:=hq.len hDne bq (bD.mono A0)
  obtain ⟨xn,xd,fx,ox,vx⟩:=hq
  obtain ⟨y,y1,y2⟩:=r2.2 s A0
  rw [hV,hD] at y2
  have ly:=y2.len hd0 (Bk.of (bR s s hsf A0).1 hM) (Bk.of bdd hM)
  obtain ⟨an,ad,fa,oa,va,ha0⟩:=y2.num hd0
  have gr:=W2 r1 (i:=(s:Int)) rfl
  have gy:=W2 y1 (i:=(s:Int)) rfl
  rw [gr,obs,gy,obs,J0]
  refine (y8 (s:=a1) (t:=y.2.2.1) fx.1.1 fa.2.1 (by have:=lx.1; simp only at this; omega) A0).mono fun p1 hp1=>?_
  have hx1:sv a1 a2=xn:=fx.1.sv
  have hx2:sv a3 a4=xd:=fx.2.sv
  rw [hx1,fa.2.sv] at hp1
  have bx1:=X6 (s:=a1) fx.1.1 lx.1
  have bx2:=X6 (s:=a3) fx.2.1 lx.2
  have ba1:=X6 (s:=y.1) fa.1.1 ly.1
  have ba2:=X6 (s:=y.2.2.1) fa.2.1 ly.2
  rw [fa.1.sv] at ba1
  rw [fa.2.sv] at ba2
  have bx1:Bk 121 xn:=hx1▸bx1
  have bx2:Bk 121 xd:=hx2▸bx2
  have lp1:=(bx1.mul ba2).len hp1
  rw [obs,gy,obs,J0]
  refine (y8 (s:=a3) (t:=y.1) fx.2.1 fa.1.1 (by have:=lx.2; simp only at this; omega) A0).mono fun p2 hp2=>?_
  rw [hx2,fa.1.sv] at hp2
  have lp2:=(bx2.mul ba1).len hp2
  have hxd:=ox.1
  have had:=oa.1
  have han:an≠0:=fun h=>hp0 (ha0.1 h)
  have hden:xd*an≠0:=I8 A0 han
  rw [J0]
  refine (vg (s:=p1.1) (t:=p2.1) hp1.1 hp2.1 hp1.sv hp2.sv A0 A0 hden hp2).mono fun q hq=>?_
  obtain ⟨q1,q2⟩:=fb (a:=xn*ad) hden
  rw [U4 (by rw [hI.1]; omega) rfl,obs]
  have hws:ws .i64 (s:Int) 1=(fr:Int) - 1 - ((t+1:Nat):Int):=by rw [V2 A0 A0]; omega
  refine ⟨_,rfl,htf2,A0,hws,by rw [O3]; exact hI.1,fun j hj=>?_⟩
  have hst2:fr - (t+1)=s:=A0
  rw [hst2]
  by_cases e:j=s
  ·subst e
   refine ⟨_,by rw [G5]; rw [hI.1]; exact hj,?_⟩
   rw [B0]
   refine ⟨_,_,hq,q1,?_⟩
   unfold Vq at vx va ⊢
   generalize (nrm (xn*ad) (xd*an)).1=N at*
   generalize (nrm (xn*ad) (xd*an)).2=E at*
   have h9:(xd*Rk A' col j j j*ad)*(N*u fr - u j*E)=0:=by
    have c1:N*(xd*an)*(dd*u fr)=xn*ad*E*(dd*u fr):=by rw [q2]
    have c2:N*(xd*an)*(dd*u fr)=N*xd*u fr*(an*dd):=by grind
    have c3:xn*ad*E*(dd*u fr)=ad*E*(xn*(dd*u fr)):=by grind
    rw [c2,c3,va,vx] at c1
    grind
   rcases L4.1 h9 with h | h
   ·exact absurd h (I8 (I8 A0 hp0) A0)
   ·omega
  ·obtain ⟨z,z1,z2⟩:=hI.2 j hj
   refine ⟨z,by rw [H6 (fun h=>e h.symm)]; exact z1,?_⟩
   by_cases e2:j < s
   ·rw [C0] at z2; rw [M0 e2]; exact z2
   ·rw [B0] at z2; rw [K0 e2]; exact z2
theorem QA {S d:Int} (hS:0 < S) (hd:0 < d):0 < S*(d / Int.gcd S d)∧S ∣ S*(d / Int.gcd S d)∧d ∣ S*(d / Int.gcd S d)∧∀ m,S ∣ m→d ∣ m→S*(d / Int.gcd S d) ∣ m:=by
 obtain ⟨h1,h2⟩:=fb (a:=S) (b:=d) A0
 have hg:sgcd S d=(Int.gcd S d:Int):=by unfold sgcd; rw [B0]
 have hgd:(Int.gcd S d:Int) ∣ d:=Dc ..
 have hgs:(Int.gcd S d:Int) ∣ S:=Ec ..
 have h1:Lo (S / Int.gcd S d) (d / Int.gcd S d):=by
  have:=h1
  unfold nrm at this
  rw [hg] at this; exact this
 have h3:=h1.1
 refine ⟨Ed hS h3,⟨_,rfl⟩,?_,?_⟩
 ·obtain ⟨a,ha⟩:=hgs
  obtain ⟨b,hb⟩:=hgd
  have hg0:(Int.gcd S d:Int)≠0:=by
   intro h; rw [h] at hb; omega
  have e1:d / Int.gcd S d=b:=by
   conv=>lhs; lhs; rw [hb]
   exact D9 _ hg0
  rw [e1]
  exact ⟨a,by
   conv=>lhs; rw [ha]
   conv=>rhs; rw [hb]
   grind⟩
 ·rintro m ⟨x,rfl⟩ hm
  obtain ⟨a,ha⟩:=hgs
  obtain ⟨b,hb⟩:=hgd
  have hg0:(Int.gcd S d:Int)≠0:=by
   intro h; rw [h] at hb; omega
  have e1:d / Int.gcd S d=b:=by
   conv=>lhs; lhs; rw [hb]
   exact D9 _ hg0
  have e2:S / Int.gcd S d=a:=by
   conv=>lhs; lhs; rw [ha]
   exact D9 _ hg0
  rw [e1,e2] at h1
  rw [e1]
  have h5:b ∣ a*x:=by
   obtain ⟨c,hc⟩:=hm
   refine ⟨c,?_⟩
   generalize (Int.gcd S d:Int)=g at*
   have:g*(a*x - b*c)=0:=by
    have h6:S*x=g*a*x:=by rw [← ha]
    have h7:d*c=g*b*c:=by rw [← hb]
    rw [h6,h7] at hc
    grind
   rcases L4.1 this with h | h
   ·exact absurd h hg0
   ·omega
  obtain ⟨y,hy⟩:=Ga h1.2 h5
  exact ⟨y,by rw [hy]; grind⟩
end
theorem Wz {a x:Int} (ha:0 < a) (h:0 < a*x):0 < x:=by
 refine H1 fun hc=>?_
 have:=Oe (show 0≤a by omega) (show x≤0 by omega)
 omega
theorem Lg.eq' {l m:List Nb} {w:Nat} {f:Nat→Int} (h:Lg l w f) (h':Lg m w f):l=m:=by
 refine Sa fun k=>?_
 by_cases hk:k < w
 ·obtain ⟨z,h1,h2⟩:=h.2 k hk
  obtain ⟨y,h3,h4⟩:=h'.2 k hk
  obtain ⟨e1,e2⟩:=h2.uniq h4
  rw [h1,h3]
  exact Z0 some (Prod.ext e1 e2)
 ·rw [A9 (by rw [h.1]; omega),A9 (by rw [h'.1]; omega)]
section
variable {n w K:Nat} {A:Mx} {T:List (List Nb)} {M:Int}
theorem By (hM:M < pw 60) {fr:Nat} (hfw:fr < w) (hw:w≤16) {u:Nat→Int} (bu:∀ j,j < w→Bd M (u j)) (hu0:0 < u fr) (hp:∀ d:Int,(∀ j,j < w→d ∣ u j)→d ∣ 1) {v:List Fb} (hv:Vk w fr u 0 v):
  Ret ((m_j 1).bind fun r340=>(loop (m_d6 (w:Int) v) (r340.1,r340.2,0)).bind fun (x413,x415)=>(loop (m_d5 (w:Int) v x413 x415) ([],0)).bind fun x487=>some x487) (fun r=>Lg r w u):=by
 have huf:u fr≠0:=A0
 have hex:∀ j,∃ p:Int×Int,j < w→∃ z,v[j]?=some z∧Fr z p.1 p.2∧Lo p.1 p.2∧Vq p.1 p.2 (u j) (u fr):=fun j=>by
  by_cases hj:j < w
  ·obtain ⟨z,h1,h2⟩:=hv.2 j hj
   rw [B0] at h2
   obtain ⟨nn,dd,h3,h4,h5⟩:=h2
   exact ⟨(nn,dd),fun _=>⟨z,h1,h3,h4,h5⟩⟩
  ·exact ⟨(0,0),fun h=>absurd h hj⟩
 let N:Nat→Int:=fun j=>(Classical.choose (hex j)).1
 let E:Nat→Int:=fun j=>(Classical.choose (hex j)).2
 have hNE:∀ j,j < w→∃ z,v[j]?=some z∧Fr z (N j) (E j)∧Lo (N j) (E j)∧Vq (N j) (E j) (u j) (u fr):=fun j hj=>Ib (hex j) hj
 have hEd:∀ j,j < w→E j ∣ u fr:=fun j hj=>by
  obtain ⟨z,_,_,h2,h3⟩:=hNE j hj
  unfold Vq at h3
  exact Ga h2.2 ⟨u j,by rw [h3,I2]⟩
 have hlen:∀ j,j < w→∀ z,v[j]?=some z→z.2.1.length≤60∧z.2.2.2.length≤60:=fun j hj z hz=>by
  obtain ⟨y,h1,h2⟩:=hv.2 j hj
  obtain rfl:=N3 (h1.symm.trans hz)
  rw [B0] at h2
  exact h2.len huf (Bk.of (bu j hj) hM) (Bk.of (bu fr hfw) hM)
 have hle:∀ x:Int,0 < x→x ∣ u fr→Bk 60 x:=fun x hx hd=>by
  have:=Re hu0 hd
  have b:=Bk.of (bu fr hfw) hM
  exact ⟨by have:=W1 60; omega,by have:=b.2; omega⟩
 rw [J0]
 refine (Y9 (n:=1) A0 A0).mono fun o ho=>?_
 rw [J0]
 refine (Q0 (Post:=fun r:Bool×LI=>∃ S,Bg S r.1 r.2∧0 < S∧(∀ i,i < w→E i ∣ S)∧∀ m,(∀ i,i < w→E i ∣ m)→S ∣ m) w (fun j (s:Bool×LI×Int)=>s.2.2=(j:Int)∧j≤w∧∃ S,Bg S s.1 s.2.1∧0 < S∧(∀ i,i < j→E i ∣ S)∧∀ m,(∀ i,i < j→E i ∣ m)→S ∣ m) ⟨rfl,A0,1,ho,A0,fun i hi=>absurd hi A0,fun m _=>Int.one_dvd m⟩ ?_ A0).mono ?_
 ·rintro j ⟨ss,sl,_⟩ hj ⟨rfl,hjw,S,hS,hS0,hS1,hS2⟩
  simp only at hS
  unfold m_d6
  simp only
  rw [O0]
  refine ⟨fun hlt=>?_,fun hge=>⟨_,rfl,by have e:j=w:=A0; subst e; exact ⟨S,hS,hS0,hS1,hS2⟩⟩⟩
  have hjw2:j < w:=A0
  obtain ⟨z,z1,z2,z3,z4⟩:=hNE j hjw2
  obtain ⟨lz1,lz2⟩:=hlen j hjw2 z z1
  have hSu:S ∣ u fr:=hS2 _ fun i hi=>hEd i A0
  have ls:=(hle S hS0 hSu).len hS
  have hE0:=z3.1
  rw [W2 z1 rfl,obs,obs,J0]
  refine (Ns (s:=ss) (t:=z.2.2.1) hS.1 z2.2.1 A0 A0).mono fun g hg=>?_
  rw [hS.sv,z2.2.sv] at hg
  obtain ⟨e1,e2⟩:=Ij (x:=S) (y:=E j) hS0
  have hgE:((Int.gcd S (E j):Nat):Int) ∣ E j:=Dc ..
  have lg:g.2.length≤60:=(hle _ e1 (Fc hgE (hEd j hjw2))).len hg
  rw [J0]
  refine (Uf (s:=z.2.2.1) (t:=g.1) z2.2.1 hg.1 A0 A0 (by rw [hg.sv]; omega) (by rw [hg.sv,z2.2.sv]; exact hgE)).mono fun q hq=>?_
  rw [hg.sv,z2.2.sv] at hq
  obtain ⟨s1,s2,s3,s4⟩:=QA hS0 hE0
  have lq:q.2.1.length≤60:=by
   have h1:E j / ((Int.gcd S (E j):Nat):Int) ∣ E j:=by
    obtain ⟨c,hc⟩:=hgE
    refine ⟨((Int.gcd S (E j):Nat):Int),?_⟩
    conv=>rhs; lhs; lhs; rw [hc]
    rw [D9 _ A0]
    conv=>lhs; rw [hc]
    exact I2 _ _
   have h2:0 < E j / ((Int.gcd S (E j):Nat):Int):=Wz hS0 s1
   exact (hle _ h2 (Fc h1 (hEd j hjw2))).len hq
  rw [J0]
  refine (y8 (s:=ss) (t:=q.1) hS.1 hq.1 A0 A0).mono fun t ht=>?_
  rw [hS.sv,hq.sv] at ht
  refine ⟨_,rfl,hjw2,by show wa .i64 (j:Int) 1=_; rw [U0 A0 A0]; rfl,A0,_,ht,s1,fun i hi=>?_,fun m hm=>s4 m (hS2 m fun i hi=>hm i A0) (hm j A0)⟩
  by_cases e:i=j
  ·subst e; exact s3
  ·exact Fc (hS1 i A0) s2
 ·rintro ⟨ss,sl⟩ ⟨S,hS,hS0,hS1,hS2⟩
  simp only at hS ⊢
  have hSu:S ∣ u fr:=hS2 _ fun i hi=>hEd i hi
  have ls:=(hle S hS0 hSu).len hS
  have hfr1:N fr=1∧E fr=1:=by
   obtain ⟨z,_,_,h2,h3⟩:=hNE fr hfw
   unfold Vq at h3
   have e:N fr=E fr:=TD huf (by rw [h3,I2])
   have:=h2.2
   rw [e,Int.gcd_self] at this
   have:=h2.1
   exact ⟨A0,A0⟩
  have hdvd:∀ j,j < w→E j ∣ N j*S:=fun j hj=>Int.dvd_mul_of_dvd_right (hS1 j hj)
  have hval:∀ j,j < w→N j*S / E j=u j:=by
   have hpt:Prim w fun j=>N j*S / E j:=Qz hfw (fun j hj=>by obtain ⟨_,_,_,h2,_⟩:=hNE j hj; exact h2) hfr1 hS0 hS1 hS2
   have hpu:Prim w u:=fun d hd hall=>by
    have h1:=hp d hall
    have:=Re A0 h1
    omega
   intro j hj
   refine (Er hfw hu0 (t:=fun j=>N j*S / E j) ?_ hpu hpt (fun i hi=>?_) j hj).symm
   ·show 0 < N fr*S / E fr
    rw [hfr1.1,hfr1.2,E4,Uu]; exact hS0
   ·show u i*(N fr*S / E fr)=N i*S / E i*u fr
    rw [hfr1.1,hfr1.2,E4,Uu]
    obtain ⟨z,_,_,h2,h3⟩:=hNE i hi
    unfold Vq at h3
    have h4:=h2.1
    obtain ⟨c,hc⟩:=hdvd i hi
    have hq:N i*S / E i=c:=by rw [hc]; exact D9 _ A0
    rw [hq]
    have h5:E i*(u i*S - c*u fr)=0:=by
     have h6:N i*S*u fr=E i*c*u fr:=by rw [hc]
     have h7:N i*S*u fr=(N i*u fr)*S:=by grind
     rw [h7,h3] at h6
     grind
    rcases L4.1 h5 with h | h<;>omega
  rw [J0]
  refine (Q0 (Post:=fun r:List Nb=>Lg r w u) w (fun j (s:List Nb×Int)=>s.2=(j:Int)∧Lg s.1 j u) ⟨rfl,rfl,fun c hc=>absurd hc A0⟩ ?_ A0).mono fun r hr=>⟨_,rfl,hr⟩
  rintro j ⟨r,_⟩ hj ⟨rfl,hI⟩
  simp only at hI
  unfold m_d5
  simp only
  rw [O0]
  refine ⟨fun hlt=>?_,fun hge=>⟨_,rfl,by have e:j=w:=A0; subst e; exact hI⟩⟩
  have hjw2:j < w:=A0
  obtain ⟨z,z1,z2,z3,z4⟩:=hNE j hjw2
  obtain ⟨lz1,lz2⟩:=hlen j hjw2 z z1
  have gz:=W2 z1 (i:=(j:Int)) rfl
  rw [gz,obs,J0]
  refine (y8 (s:=z.1) (t:=ss) z2.1.1 hS.1 A0 A0).mono fun t ht=>?_
  rw [z2.1.sv,hS.sv] at ht
  have bz:=X6 (s:=z.1) z2.1.1 lz1
  rw [z2.1.sv] at bz
  have lt:=(bz.mul (hle S hS0 hSu)).len ht
  have hE0:=z3.1
  rw [obs,J0]
  refine (Uf (s:=t.1) (t:=z.2.2.1) ht.1 z2.2.1 A0 A0 (by rw [z2.2.sv]; omega) (by rw [ht.sv,z2.2.sv]; exact hdvd j hjw2)).mono fun q hq=>?_
  rw [ht.sv,z2.2.sv,hval j hjw2] at hq
  rw [J0,D2]
  exact ⟨by rw [hI.1]; simp only [E2,N2]; omega,_,rfl,hjw2,by show wa .i64 (j:Int) 1=_; rw [U0 A0 A0]; rfl,hI.snoc (z:=(q.1,q.2.1)) hq⟩
theorem Jy (hM:M < pw 60) (hR:Okb n w A M) (hT:Tr K T n w A) (hK:K≤400) (hn:n≤16) (hw:w≤16) (hn0:0 < n) (hw0:0 < w) {l:List Nb} {k:Nat} {A':Mx} {col:Nat→Nat} {sn:Int} (hB:Bar n w A A' col k w sn)
  (hl:(l=[]∧k=w)∨(k < w∧∃ fr,KU n w A M fr l∧fr < w∧fr≤k∧(∀ s,s < fr→col s=s)∧(fr < k→col fr≠fr))):m_eb T=some l:=by
 refine Ret.eq ?_
 unfold m_eb
 have hcol:m_c5 T=some (w:Int):=by rw [Il hT.sh,B0]
 rw [hcol,obs,J0]
 refine (Ss hT hK A0 A0).mono fun F hF=>?_
 rw [J0]
 refine (Bt hM hR A0 A0 hF).mono ?_
 rintro ⟨F',pv,ds,dl,es,el⟩ ⟨A2,col2,k2,sn2,hB2,hF2,hpv,hd,he,hnz⟩
 simp only at hF2 hpv hd he ⊢
 obtain rfl:k2=k:=Nat.le_antisymm (hB2.uniqk hB) (hB.uniqk hB2)
 have hpl:pv.length=k2:=by rw [hpv,Qa,w7]
 rw [hpl,O0]
 rcases hl with ⟨rfl,rfl⟩ | ⟨hkw,fr,⟨u,hLg,bu,hu,hp,hu0,huz⟩,hfw,hfk,hfs,hfn⟩
 ·exact ⟨fun _=>⟨_,rfl,rfl⟩,fun h=>absurd rfl h⟩
 ·refine ⟨fun h=>absurd h A0,fun _=>?_⟩
  have hpg:∀ s,s < k2→getI pv (s:Int)=some (col2 s:Int):=fun s hs=>W2 (by rw [hpv,Ra,Cc hs]; rfl) rfl
  rw [J0]
  refine (Q0 (Post:=fun o:Int=>∃ f:Nat,o=(f:Int)∧f≤k2∧(∀ s,s < f→col2 s=s)∧(f < k2→col2 f≠f)) k2 (fun j (i:Int)=>i=(j:Int)∧j≤k2∧∀ s,s < j→col2 s=s) ⟨rfl,A0,fun s hs=>absurd hs A0⟩ ?_ A0).mono ?_
  ·rintro j _ hj ⟨rfl,hjk,hI⟩
   unfold m_ea
   simp only
   rw [hpl]
   by_cases hlt:j < k2
   ·rw [C0,hpg j hlt,obs,obs,O0]
    refine ⟨fun he=>⟨_,rfl,hlt,by rw [U0 A0 A0]; rfl,hlt,fun s hs=>?_⟩,fun he=>⟨_,rfl,j,rfl,hjk,hI,fun _ h=>he (by rw [h]; simp)⟩⟩
    have he:(col2 j:Int)=(j:Int):=by simpa using he
    by_cases e:s=j
    ·subst e; omega
    ·exact hI s A0
   ·rw [B0,obs,K0 H0]
    exact ⟨_,rfl,j,rfl,hjk,hI,fun h=>absurd h hlt⟩
  ·rintro _ ⟨f,rfl,hfk2,hfs2,hfn2⟩
   have hno2:∀ s,s < k2→col2 s≠f:=by
    intro s hs e
    by_cases h1:s < f
    ·rw [hfs2 s h1] at e; omega
    ·have h2:f < k2:=A0
     have h3:=hfn2 h2
     have h4:=hB2.ge f h2
     rcases wb f s with h5 | h5
     ·have:=hB2.asc f s h5 hs; omega
     ·obtain rfl:s=f:=A0
      exact h3 e
   obtain rfl:f=fr:=by
    rcases Pa f fr with h | h | h
    ·exfalso
     have hfw2:f < w:=A0
     let v:Nat→Int:=fun j=>if j=f then det k2 (Pm_ A2 col2) else if ∃ s,s < k2∧col2 s=j then (if h:∃ s,s < k2∧col2 s=j then - Rk A2 col2 k2 (Classical.choose h) f else 0) else 0
     have hv2:∀ s,s < k2→v (col2 s)= - Rk A2 col2 k2 s f:=fun s hs=>by
      have hex:∃ t,t < k2∧col2 t=col2 s:=⟨s,hs,rfl⟩
      show (if col2 s=f then _ else if ∃ t,t < k2∧col2 t=col2 s then (if h:∃ t,t < k2∧col2 t=col2 s then - Rk A2 col2 k2 (Classical.choose h) f else 0) else 0)=_
      rw [K0 (hno2 s hs),M0 hex,dif_pos hex]
      have hc:=Ib hex
      have e:Classical.choose hex=s:=by
       rcases Pa (Classical.choose hex) s with h5 | h5 | h5
       ·have:=hB2.asc _ s h5 hs; omega
       ·exact h5
       ·have:=hB2.asc s _ h5 hc.1; omega
      rw [e]
     have hk:=hB2.kernel hfw2 hno2 (v:=v) (M0 rfl) hv2 (fun j hj h1 h2=>by
      show (if j=f then _ else if ∃ t,t < k2∧col2 t=j then _ else 0)=0
      rw [K0 h1,K0 fun ⟨s,hs,e⟩=>h2 s hs e])
     have h0:=hB.indep hfk hfs hk (fun j hj hjw=>by
      by_cases hex:∃ t,t < k2∧col2 t=j
      ·obtain ⟨s,hs,rfl⟩:=hex
       rw [hv2 s hs,hB2.lead s f hs A0]; rfl
      ·show (if j=f then _ else if ∃ t,t < k2∧col2 t=j then _ else 0)=0
       rw [B0,K0 hex]) f h
     have:v f=det k2 (Pm_ A2 col2):=M0 rfl
     rw [this] at h0
     exact hB2.d h0
    ·exact h
    ·exfalso
     have:=hB2.indep hfk2 hfs2 hu (fun j hj hjw=>huz j A0 hjw) fr h
     omega
   have hrows:=Ja hB2
   have hkn2:=hB2.kn
   have bR:∀ s j,s < f→j < w→Bd M (Rk A2 col2 s s j)∧Bd M (det s (Pm_ A2 col2)):=fun s j hs hj=>hR A2 col2 s s j hrows A0 (fun t ht=>hB2.lt t A0) A0 hj
   rw [J0]
   refine (Y9 (n:=1) A0 A0).mono fun o1 ho1=>?_
   rw [J0]
   refine (Y9 (n:=1) A0 A0).mono fun o2 ho2=>?_
   rw [J0,Y5]
   refine ⟨A0,A0,?_⟩
   rw [A1,J0]
   refine (Q0 (Post:=fun v:List Fb=>Lf v w (fun _=>0) 1) w (fun j (s:List Fb×Int)=>s.2=(j:Int)∧s.1.length=w∧∀ i,i < j→∃ z,s.1[i]?=some z∧Fq z 0 1) ⟨rfl,B5 ..,fun i hi=>absurd hi A0⟩ ?_ A0).mono ?_
   ·rintro j ⟨v,_⟩ hj ⟨rfl,hvl,hI⟩
    simp only at hvl hI
    unfold m_d9
    simp only
    rw [O0]
    refine ⟨fun hlt=>?_,fun hge=>⟨_,rfl,hvl,fun c hc=>hI c A0⟩⟩
    have hjw:j < w:=A0
    rw [J0]
    refine (Y9 (n:=1) A0 A0).mono fun o3 ho3=>?_
    rw [U4 (by rw [hvl]; exact hjw) rfl,obs]
    refine ⟨_,rfl,hjw,by show wa .i64 (j:Int) 1=_; rw [U0 A0 A0]; rfl,by rw [O3]; exact hvl,fun i hi=>?_⟩
    by_cases e:i=j
    ·subst e
     exact ⟨_,by rw [G5]; rw [hvl]; exact hjw,0,1,⟨xe,ho3⟩,jg 0,by unfold Vq; rfl⟩
    ·obtain ⟨z,z1,z2⟩:=hI i A0
     exact ⟨z,by rw [H6 (fun h=>e h.symm)]; exact z1,z2⟩
   ·intro v hv
    rw [U4 (by rw [hv.1]; exact hfw) rfl,obs,J0]
    have hws:ws .i64 (f:Int) 1=(f:Int) - 1:=V2 A0 A0
    rw [hws]
    have hV0:Vk w f u f (v.set f (o1.1,o1.2,o2.1,o2.2)):=by
     refine ⟨by rw [O3]; exact hv.1,fun j hj=>?_⟩
     by_cases e:j=f
     ·subst e
      refine ⟨_,by rw [G5]; rw [hv.1]; exact hj,?_⟩
      rw [B0]
      have:=(Vs (z:=(o1.1,o1.2,o2.1,o2.2)) ⟨ho1,ho2⟩).scale (u j)
      rw [C6] at this; exact this
     ·obtain ⟨z,z1,z2⟩:=hv.2 j hj
      refine ⟨z,by rw [H6 (fun h=>e h.symm)]; exact z1,?_⟩
      by_cases e2:j < f
      ·rw [M0 e2]; exact z2
      ·rw [K0 e2,huz j A0 hj]
       exact z2.zero A0
    refine (pz hM hB2 hnz hfk hfw hw hfs2 bR bu hu hu0 huz hF2 ho1 ho2 hV0).mono fun v' hv'=>?_
    exact (By hM hfw hw bu hu0 hp hv').mono fun r hr=>hr.eq' hLg
end
theorem Vb {τ ρ:Type} {step:τ→Option (τ⊕ρ)} {Post:ρ→Prop} (I:τ→Prop) (μ:τ→Nat) {s:τ} (h0:I s) (hμ:μ s < 1099511627776)
  (h:∀ t,I t→Ret (step t) (VQ (fun t'=>I t'∧μ t' < μ t) Post)):Ret (loop step s) Post:=by
 have key:∀ (fuel:Nat) (t:τ),μ t < fuel→I t→Ret (loopN step fuel t) Post:=by
  intro fuel
  induction fuel with
  | zero=>intro t h1; omega
  | succ n ih=>
   intro t h1 h2
   obtain ⟨x,hx,h3⟩:=h t h2
   cases x with
   | inr r=>exact ⟨r,by simp [loopN,hx],h3⟩
   | inl t'=>
    obtain ⟨h4,h5⟩:=h3
    obtain ⟨y,hy,hp⟩:=ih t' A0 h4
    exact ⟨y,by simp [loopN,hx,hy],hp⟩
 exact key FUEL s (Ek hμ (by unfold FUEL; omega)) h0
structure PP (p:Int):Prop where
 two:2≤p
 max:p≤2147483647
 prm:Nt.Prm p.toNat
theorem Vp {x p:Int} (h:0≤x):x.tmod p=x % p:=Gb h
theorem Ic {x p:Int} (h:0≤x) (hp:0 < p):wr x p=some (x % p):=by
 unfold wr; rw [B0,Vp h]
theorem M7 {p:Int} (x:Int) (hp:0 < p):0≤x % p∧x % p < p:=⟨L3 _ A0,M3 _ hp⟩
theorem At {a p z k:Int} (h:a=z+p*k) (h0:0≤z) (h1:z < p):z=a % p:=by rw [h,yl,Y4 h0 h1]
theorem Zb {a p:Int} (hp:0 < p) (hm:p≤2147483647):m_h9 a p=some (a % p):=by
 unfold m_h9 wr m_h8
 rw [B0,obs]
 have h1:=Int.lt_tmod_of_pos a hp
 have h2:=Int.tmod_lt_of_pos a hp
 have h3:=Int.mul_tdiv_add_tmod a p
 split
 ·rw [U0 A0 A0]
  refine Z0 some (At (k:=a.tdiv p - 1) ?_ A0 A0)
  rw [C9]; omega
 ·exact Z0 some (At (k:=a.tdiv p) A0 A0 h2)
theorem Rf:m_ew=m_h9:=rfl
theorem mj {p x y:Int} (hm:p≤2147483647) (hx:0≤x∧x < p) (hy:0≤y∧y < p):0≤x*y∧x*y≤4611686014132420609:=
 ⟨K3 hx.1 hy.1,by have:=J8 (show x≤2147483647 by omega) (show y≤2147483647 by omega) hy.1 A0; omega⟩
theorem wmr {p x y:Int} (hm:p≤2147483647) (hx:0≤x∧x < p) (hy:0≤y∧y < p):wr (wm .i64 x y) p=some (x*y % p):=by
 have:=mj hm hx hy
 rw [K8 A0 A0,Ic this.1 A0]
theorem xz {p a:Nat} (hp:1 < p) (hm:p≤2147483647) (ha:a < p) {n:Nat} (hn:n < 1099511627776):m_ii (a:Int) (n:Int) (p:Int)=some ((a ^ n % p:Nat):Int):=by
 refine Ret.eq ?_
 unfold m_ii
 rw [J0]
 refine (Vb (Post:=fun o=>o=((a ^ n % p:Nat):Int)) (fun (s:Int×Int×Int)=>∃ A m O:Nat,s=((A:Int),(m:Int),(O:Int))∧A < p∧O < p∧m < 1099511627776∧O*A ^ m % p=a ^ n % p) (fun s=>s.2.1.toNat) ⟨a,n,1,rfl,ha,hp,hn,by rw [Wg]⟩ (by show ((n:Int)).toNat < _; omega) ?_).mono ?_
 ·rintro _ ⟨A,m,O,rfl,hA,hO,hm2,hI⟩
  unfold m_ih
  simp only
  have hAA:=mj (p:=p) (x:=A) (y:=A) A0 ⟨A0,A0⟩ ⟨A0,A0⟩
  have hOA:=mj (p:=p) (x:=O) (y:=A) A0 ⟨A0,A0⟩ ⟨A0,A0⟩
  have e1:wr (wm .i64 (A:Int) (A:Int)) (p:Int)=some ((A*A % p:Nat):Int):=by rw [wmr A0 ⟨A0,A0⟩ ⟨A0,A0⟩]; simp
  have e2:wr (wm .i64 (O:Int) (A:Int)) (p:Int)=some ((O*A % p:Nat):Int):=by rw [wmr A0 ⟨A0,A0⟩ ⟨A0,A0⟩]; simp
  have e3:wrc (m:Int) 2=((m % 2:Nat):Int):=by show Int.tmod (m:Int) 2=_; rw [Vp A0]; omega
  have e4:wqc .i64 (m:Int) 2=((m / 2:Nat):Int):=by
   show IntKind.wrap .i64 (Int.tdiv (m:Int) 2)=_
   rw [kh A0,IntWalk.i64_in _ ⟨A0,A0⟩]; omega
  have hlt:∀ z:Nat,z % p < p:=fun z=>ub _ A0
  rw [O0]
  refine ⟨fun h0=>?_,fun h0=>?_⟩
  ·rw [e3,O0]
   refine ⟨fun h1=>?_,fun h1=>?_⟩
   ·rw [e2,obs]
    unfold m_ig
    rw [e1,obs,e4]
    refine ⟨_,rfl,⟨_,_,_,rfl,hlt _,hlt _,A0,?_⟩,by show ((m / 2:Nat):Int).toNat < ((m:Int)).toNat; omega⟩
    rw [Nt.Sz A0]; exact hI
   ·unfold m_ig
    rw [e1,obs,e4]
    refine ⟨_,rfl,⟨_,_,_,rfl,hlt _,hO,A0,?_⟩,by show ((m / 2:Nat):Int).toNat < ((m:Int)).toNat; omega⟩
    rw [Nt.Uz A0]; exact hI
  ·refine ⟨_,rfl,?_⟩
   obtain rfl:m=0:=A0
   rw [Nat.pow_zero,Ee,vu hO] at hI
   show (O:Int)=_
   rw [hI]
 ·rintro _ rfl
  exact ⟨_,rfl,rfl⟩
theorem Fs {p a:Int} (hp:PP p) (ha:0 < a∧a < p):∃ f,m_ij a p=some f∧(0≤f∧f < p)∧a*f % p=1:=by
 have h2:=hp.two
 have h3:=hp.max
 obtain ⟨P,rfl⟩:=W5 (show 0≤p by omega)
 obtain ⟨A,rfl⟩:=W5 (show 0≤a by omega)
 refine ⟨((A ^ (P - 2) % P:Nat):Int),?_,⟨A0,?_⟩,?_⟩
 ·unfold m_ij
  rw [V2 A0 A0,show (P:Int) - 2=((P - 2:Nat):Int) by omega,xz A0 A0 A0 A0,obs]
 ·have:=ub (A ^ (P - 2)) (show P > 0 by omega); omega
 ·have:=Nt.ZA hp.prm (a:=A) A0 (by simpa using (show A < P by omega))
  rw [A1] at this
  exact_mod_cast this
def Ln (l:LI) (w:Nat) (f:Nat→Int):Prop:=l.length=w∧∀ c,c < w→l[c]?=some (f c)
def Tb (T:L2) (n w:Nat) (A:Mx):Prop:=T.length=n∧∀ r,r < n→∃ l,T[r]?=some l∧Ln l w (A r)
theorem Ln.congr {l:LI} {w:Nat} {f g:Nat→Int} (h:Ln l w f) (e:∀ c,c < w→f c=g c):Ln l w g:=⟨h.1,fun c hc=>by rw [h.2 c hc,e c hc]⟩
theorem Ln.set {l:LI} {w:Nat} {f:Nat→Int} (h:Ln l w f) {c:Nat} (hc:c < w) (x:Int):Ln (l.set c x) w (fun j=>if j=c then x else f j):=by
 refine ⟨by rw [O3]; exact h.1,fun j hj=>?_⟩
 rw [fh]
 by_cases e:c=j
 ·subst e
  show _=some (if c=c then x else f c)
  rw [M0 rfl,M0 (by rw [h.1]; exact hc),M0 rfl]
 ·show _=some (if j=c then x else f j)
  rw [K0 e,K0 (Ne.symm e)]; exact h.2 j hj
theorem Tb.congr {T:L2} {n w:Nat} {A B:Mx} (h:Tb T n w A) (e:∀ r c,r < n→c < w→A r c=B r c):Tb T n w B:=⟨h.1,fun r hr=>by obtain ⟨l,h1,h2⟩:=h.2 r hr; exact ⟨l,h1,h2.congr fun c hc=>e r c hr hc⟩⟩
theorem Tb.set {T:L2} {n w:Nat} {A:Mx} (h:Tb T n w A) {k:Nat} (hk:k < n) {l:LI} {g:Nat→Int} (hl:Ln l w g):Tb (T.set k l) n w (up A k g):=by
 refine ⟨by rw [O3]; exact h.1,fun r hr=>?_⟩
 rw [fh]
 by_cases e:k=r
 ·subst e; rw [M0 rfl,M0 (by rw [h.1]; exact hk)]; exact ⟨l,rfl,hl.congr fun c _=>C2.symm⟩
 ·rw [K0 e]; obtain ⟨m,h1,h2⟩:=h.2 r hr; exact ⟨m,h1,h2.congr fun c _=>(H2 fun e'=>e e'.symm).symm⟩
theorem Ln.get {l:LI} {w:Nat} {f:Nat→Int} (h:Ln l w f) {c:Nat} (hc:c < w) {Q:Int→Prop} (hQ:Q (f c)):Ret (getI l (c:Int)) Q:=by
 rw [C3]
 refine ⟨A0,by rw [h.1]; omega,fun x hx=>?_⟩
 rw [A1,h.2 c hc] at hx
 obtain rfl:=N3 hx
 exact hQ
theorem Tb.get {T:L2} {n w:Nat} {A:Mx} (h:Tb T n w A) {r:Nat} (hr:r < n) {Q:LI→Prop} (hQ:∀ l,T[r]?=some l→Ln l w (A r)→Q l):Ret (getI T (r:Int)) Q:=by
 rw [C3]
 refine ⟨A0,by rw [h.1]; omega,fun x hx=>?_⟩
 rw [A1] at hx
 obtain ⟨l,h1,h2⟩:=h.2 r hr
 rw [h1] at hx
 obtain rfl:=N3 hx
 exact hQ l h1 h2
section
variable {p:Int} {n w:Nat}
theorem fq (p a b:Int):(a - b % p) % p=(a - b) % p:=Cg.iff.1 ((Cg.refl p a).sub (Cg.mod p b))
theorem px (hp:0 < p) (hm:p≤2147483647) {l o:LI} {f g:Nat→Int} {x:Int} (hl:Ln l w f) (ho:Ln o w g) (hf:∀ c,c < w→0≤f c∧f c < p) (hg:∀ c,c < w→0≤g c∧g c < p) (hx:0≤x∧x < p) (hw:w≤1000):
  Ret (m_il l o x p) (fun l'=>Ln l' w (fun c=>(f c - x*g c) % p)):=by
 unfold m_il
 rw [J0]
 refine (Q0 (Post:=fun l'=>Ln l' w (fun c=>(f c - x*g c) % p)) w (fun k (s:LI×Int)=>s.2=(k:Int)∧Ln s.1 w (fun j=>if j < k then (f j - x*g j) % p else f j)) ⟨rfl,hl.congr fun c _=>by rw [B0]⟩ ?_ A0).mono fun _ h=>⟨_,rfl,h⟩
 rintro k ⟨l',_⟩ hk ⟨rfl,h⟩
 unfold m_ik
 simp only at h ⊢
 rw [O0,ho.1]
 refine ⟨fun hlt=>?_,fun hge=>⟨_,rfl,?_⟩⟩
 ·have hkw:k < w:=A0
  rw [J0]; refine ho.get hkw ?_
  rw [J0]; refine h.get hkw ?_
  show Ret ((wr (wm .i64 x (g k)) p).bind _) _
  rw [B0,wmr hm hx (hg k hkw),obs]
  have h1:=M7 (x*g k) hp
  have h2:=hf k hkw
  rw [V2 A0 A0,Zb hp hm,obs,J0,K4]
  refine ⟨A0,by rw [h.1]; omega,_,rfl,?_⟩
  refine ⟨A0,by show wa .i64 (k:Int) 1=_; rw [U0 A0 A0]; omega,?_⟩
  show Ln (l'.set (k:Int).toNat _) w _
  rw [A1]
  refine (h.set hkw _).congr fun j _=>?_
  by_cases e:j=k
  ·subst e; rw [M0 rfl,C0,fq]
  ·rw [K0 e]
   by_cases e2:j < k
   ·rw [M0 e2,C0]
   ·rw [K0 e2,B0]
 ·show Ln l' w _
  exact h.congr fun j hj=>by rw [C0]
theorem cy (hp:0 < p) (hm:p≤2147483647) {T:L2} {A:Mx} (hT:Tb T n w A) {k:Nat} (hk:k < n) (hr:∀ c,c < w→0≤A k c∧A k c < p) {f:Int} (hf:0≤f∧f < p) {top piv:LI} (h1:top.length=w) (h2:piv.length=k) (hw:w≤1000):
  Ret (loop (m_ip top piv f p) (T,0)) (fun T'=>Tb T' n w (up A k (fun j=>A k j*f % p))):=by
 refine Q0 w (fun m (s:L2×Int)=>s.2=(m:Int)∧Tb s.1 n w (up A k (fun j=>if j < m then A k j*f % p else A k j))) ⟨rfl,hT.congr fun r c hr hc=>?_⟩ ?_ A0
 ·by_cases e:r=k
  ·subst e; rw [C2,B0]
  ·rw [H2 e]
 ·rintro m ⟨T',_⟩ hmw ⟨rfl,h⟩
  unfold m_ip
  simp only at h ⊢
  rw [O0,h1,h2]
  refine ⟨fun hlt=>?_,fun hge=>⟨_,rfl,?_⟩⟩
  ·have hmw:m < w:=A0
   rw [J0]; refine h.get hk fun l hl1 hl2=>?_
   rw [J0]; refine h.get hk fun l' hl1' hl2'=>?_
   obtain rfl:=N3 (hl1.symm.trans hl1')
   rw [J0]; refine hl2.get hmw ?_
   rw [C2,B0,wmr hm (hr m hmw) hf,obs,J0,K4]
   refine ⟨A0,by rw [hl2.1]; omega,?_⟩
   rw [J0,K4]
   refine ⟨A0,by rw [h.1]; omega,_,rfl,?_⟩
   refine ⟨A0,by show wa .i64 (m:Int) 1=_; rw [U0 A0 A0]; omega,?_⟩
   show Tb (T'.set (k:Int).toNat (l.set (m:Int).toNat _)) n w _
   rw [A1,A1]
   refine (h.set hk (hl2.set hmw _)).congr fun r c hr hc=>?_
   by_cases e:r=k
   ·subst e
    rw [C2,C2]
    by_cases e2:c=m
    ·subst e2; rw [M0 rfl,C2,C0]
    ·rw [K0 e2,C2]
     by_cases e3:c < m
     ·rw [M0 e3,C0]
     ·rw [K0 e3,B0]
   ·rw [H2 e,H2 e,H2 e]
  ·show Tb T' n w _
   refine h.congr fun r c hr hc=>?_
   by_cases e:r=k
   ·subst e; rw [C2,C2,C0]
   ·rw [H2 e,H2 e]
def Em (p:Int) (A:Mx) (k c m:Nat):Mx:=fun r j=>if r≠k∧r < m then (A r j - A r c*A k j) % p else A r j
theorem rC (hp:0 < p) (hm:p≤2147483647) {T:L2} {A:Mx} (hT:Tb T n w A) {k c:Nat} (hk:k < n) (hc:c < w) (hr:∀ r j,r < n→j < w→0≤A r j∧A r j < p) {T0:L2} {piv:LI} (h1:T0.length=n) (h2:piv.length=k) (hw:w≤1000) (hn:n≤1000):
  Ret (loop (m_io T0 piv (c:Int) p) (T,0)) (fun T'=>Tb T' n w (Em p A k c n)):=by
 refine Q0 n (fun m (s:L2×Int)=>s.2=(m:Int)∧Tb s.1 n w (Em p A k c m)) ⟨rfl,hT.congr fun r j hr hc=>?_⟩ ?_ A0
 ·unfold Em; rw [B0]
 ·rintro m ⟨T',_⟩ hmw ⟨rfl,h⟩
  unfold m_io m_in
  simp only at h ⊢
  rw [O0,h1,h2]
  refine ⟨fun hlt=>?_,fun hge=>⟨_,rfl,?_⟩⟩
  ·have hmn:m < n:=A0
   have nxt:wa .i64 (m:Int) 1=((m+1:Nat):Int):=by rw [U0 A0 A0]; rfl
   have Emm:Em p A k c m m=A m:=by funext j; unfold Em; rw [B0]
   have Emk:Em p A k c m k=A k:=by funext j; unfold Em; rw [B0]
   rw [J0]; refine h.get hmn fun l hl1 hl2=>?_
   rw [Emm] at hl2
   rw [J0,O0]
   refine ⟨fun he=>?_,fun he=>?_⟩
   ·have he:m=k:=A0
    rw [D4,K0 H0]
    refine ⟨_,rfl,A0,nxt,?_⟩
    refine h.congr fun r j hr hc=>?_
    unfold Em
    by_cases e:r≠k∧r < m
    ·rw [M0 e,C0]
    ·rw [K0 e,B0]
   ·have he:m≠k:=A0
    rw [J0]; refine hl2.get hc ?_
    rw [D4,O0]
    have hz:=hr m c hmn hc
    refine ⟨fun hne=>?_,fun hne=>?_⟩
    ·rw [J0]; refine h.get hk fun lk hk1 hk2=>?_
     rw [Emk] at hk2
     rw [J0]; refine hl2.get hc ?_
     have hnei:neI (m:Int) (k:Int)=some ():=by unfold neI; rw [B0]
     rw [hnei,obs,J0]
     refine (px hp hm hl2 hk2 (fun j hj=>hr m j hmn hj) (fun j hj=>hr k j hk hj) hz hw).mono fun l' hl'=>?_
     rw [J0,K4]
     refine ⟨A0,by rw [h.1]; omega,_,rfl,A0,nxt,?_⟩
     show Tb (T'.set (m:Int).toNat l') n w _
     rw [A1]
     refine (h.set hmn hl').congr fun r j hr hc=>?_
     by_cases e:r=m
     ·subst e; rw [C2]; unfold Em; rw [M0 ⟨he,A0⟩]
     ·rw [H2 e]; unfold Em
      by_cases e2:r≠k∧r < m
      ·rw [M0 e2,C0]
      ·rw [K0 e2,B0]
    ·have h0:A m c=0:=by simpa using hne
     refine ⟨_,rfl,A0,nxt,?_⟩
     refine h.congr fun r j hr' hc=>?_
     unfold Em
     by_cases e:r=m
     ·subst e
      rw [B0,M0 ⟨he,A0⟩,h0,Q3,pa]
      have:=hr r j hr' hc
      rw [Y4 this.1 this.2]
     ·by_cases e2:r≠k∧r < m
      ·rw [M0 e2,C0]
      ·rw [K0 e2,B0]
  ·show Tb T' n w _
   refine h.congr fun r j hr hc=>?_
   unfold Em
   by_cases e:r≠k∧r < m
   ·rw [M0 e,C0]
   ·rw [K0 e,B0]
theorem SB {T:L2} {A:Mx} (hT:Tb T n w A) {c:Nat} (hc:c < w) (hn:n≤1000):
  Ret (m_if T (c:Int)) (fun i=>(i= -1∧∀ r,r < n→A r c=0)∨∃ r:Nat,i=(r:Int)∧r < n∧A r c≠0):=by
 unfold m_if
 rw [J0]
 refine (Q0 (Post:=fun o=>(o=.inl ()∧∀ r,r < n→A r c=0)∨∃ r:Nat,o=.inr (r:Int)∧r < n∧A r c≠0) n (fun k (i:Int)=>i=(k:Int)∧k≤n∧∀ r,r < k→A r c=0) ⟨rfl,A0,fun r h=>absurd h A0⟩ ?_ A0).mono ?_
 ·rintro k _ hk ⟨rfl,hkn,h0⟩
  unfold m_ie m_id
  rw [O0,hT.1]
  refine ⟨fun hlt=>?_,fun hge=>⟨_,rfl,.inl ⟨rfl,fun r hr=>h0 r A0⟩⟩⟩
  have hkn:k < n:=A0
  rw [J0]; refine hT.get hkn fun l hl1 hl2=>?_
  rw [J0,J0]; refine hl2.get hc ?_
  rw [D4,O0]
  refine ⟨fun hne=>⟨_,rfl,.inr ⟨k,rfl,hkn,by simpa using hne⟩⟩,fun hne=>⟨_,rfl,A0,by rw [U0 A0 A0]; rfl,A0,fun r hr=>?_⟩⟩
  by_cases e:r=k
  ·subst e; simpa using hne
  ·exact h0 r A0
 ·rintro o (⟨rfl,h⟩ | ⟨r,rfl,h1,h2⟩)
  ·exact ⟨_,rfl,.inl ⟨rfl,h⟩⟩
  ·exact ⟨_,rfl,.inr ⟨r,rfl,h1,h2⟩⟩
end
section
variable {p:Int} {n w:Nat} {A B:Mx} {col:Nat→Nat} {k c:Nat}
end
end Km
namespace Dt
section
open Sx Go M Vc Km
variable {p:Int} {n w:Nat} {A B:Mx} {col:Nat→Nat} {k c:Nat}
theorem Rre.none (h:Rre p n w B col k c) (hc:c < w) (hz:∀ r,k≤r→r < n→B r c=0):Rre p n w B col k (c+1) where
 kn:=h.kn
 cw:=hc
 lt:=fun s hs=>by have:=h.lt s hs; omega
 asc:=h.asc
 unit:=h.unit
 zero:=fun r j h1 h2 h3=>by
  by_cases e:j=c
  ·subst e; exact hz r h1 h2
  ·exact h.zero r j h1 h2 A0
 rng:=h.rng
 lead:=h.lead
end
end Dt
namespace Km
open Sx Go M Vc Dt
section
variable {p:Int} {n w:Nat} {A B:Mx} {col:Nat→Nat} {k c:Nat}
end
end Km
namespace Dt
section
open Sx Go M Vc Km
variable {p:Int} {n w:Nat} {A B:Mx} {col:Nat→Nat} {k c:Nat}
theorem Rre.full (h:Rre p n w B col n c):Rre p n w B col n w where
 kn:=h.kn
 cw:=O2 w
 lt:=fun s hs=>by have:=h.lt s hs; have:=h.cw; omega
 asc:=h.asc
 unit:=h.unit
 zero:=fun r j h1 h2 h3=>absurd h1 A0
 rng:=h.rng
 lead:=h.lead
end
end Dt
namespace Km
open Sx Go M Vc Dt
section
variable {p:Int} {n w:Nat} {A B:Mx} {col:Nat→Nat} {k c:Nat}
def St3 (p:Int) (n:Nat) (B:Mx) (k c:Nat) (f:Int):Mx:=Em p (up B k (fun j=>B k j*f % p)) k c n
theorem St3.self {f:Int} {j:Nat}:St3 p n B k c f k j=B k j*f % p:=by
 unfold St3 Em; rw [B0,C2]
theorem St3.oth {f:Int} {r j:Nat} (hr:r≠k) (hn:r < n):St3 p n B k c f r j=(B r j - B r c*(B k j*f % p)) % p:=by
 unfold St3 Em; rw [M0 ⟨hr,hn⟩,H2 hr,H2 hr,C2]
theorem St3.cg {f:Int} {r j:Nat} (hn:r < n):Cg p (St3 p n B k c f r j) (Dt.adds (up B k (fun c=>f*B k c)) k (fun r=>-(B r c)) n r j):=by
 by_cases hr:r=k
 ·subst hr
  rw [St3.self,Y6 A0,C2,I2]
  exact Cg.mod p _
 ·rw [St3.oth hr hn,V8 ⟨hr,hn⟩,H2 hr,C2]
  refine (Cg.mod p _).trans ?_
  have:B r j+ -(B r c)*(f*B k j)=B r j - B r c*(B k j*f):=by
   rw [lh,I2 f]; rfl
  rw [this]
  exact (Cg.refl p _).sub ((Cg.refl p _).mul (Cg.mod p _))
theorem ax (h:Rre p n w B col k c) {t:Nat} (hk:k < n) (hkt:k≤t) (ht:t < n):∀ s r,s < k→r < n→sw B k t r (col s)=if r=s then 1 else 0:=by
 intro s r hs hr
 unfold sw
 by_cases h1:r=k
 ·rw [M0 h1,h.unit s t hs ht,B0,B0]
 ·rw [K0 h1]
  by_cases h2:r=t
  ·rw [M0 h2,h.unit s k hs hk,B0,B0]
  ·rw [K0 h2]; exact h.unit s r hs hr
theorem Zw (h:Rre p n w B col k c) {t:Nat} (hk:k < n) (hkt:k≤t) (ht:t < n):∀ r j,k≤r→r < n→j < c→sw B k t r j=0:=by
 intro r j h1 h2 h3
 unfold sw
 split
 ·exact h.zero t j hkt ht h3
 ·split
  ·exact h.zero k j (O2 k) hk h3
  ·exact h.zero r j h1 h2 h3
end
end Km
namespace Dt
section
open Sx Go M Vc Km
variable {p:Int} {n w:Nat} {A B:Mx} {col:Nat→Nat} {k c:Nat}
theorem Rre.next (hp:2≤p) (h:Rre p n w B col k c) (hc:c < w) {t:Nat} (hk:k < n) (hkt:k≤t) (ht:t < n) {f:Int} (hf:sw B k t k c*f % p=1):
  Rre p n w (St3 p n (sw B k t) k c f) (fun s=>if s=k then c else col s) (k+1) (c+1):=by
 have pv:∀ r,r < n→r≠k→St3 p n (sw B k t) k c f r c=0:=by
  intro r hr hne
  rw [St3.oth hne hr,hf,C6,fl,Ua]
 have lo:=ax h hk hkt ht
 have ze:=Zw h hk hkt ht
 have kc:∀ s,s < k→sw B k t s=B s:=by
  intro s hs; funext j; unfold sw; rw [B0,B0]
 refine ⟨hk,hc,fun s hs=>?_,fun s u h1 h2=>?_,fun s r hs hr=>?_,fun r j h1 h2 h3=>?_,fun r j h1 h2=>?_,fun s j hs hj=>?_⟩
 ·split
  ·omega
  ·have:=h.lt s A0; omega
 ·rw [K0 (show s≠k by omega)]
  split
  ·exact h.lt s A0
  ·exact h.asc s u h1 A0
 ·by_cases e:s=k
  ·subst e
   rw [M0 rfl]
   by_cases e2:r=s
   ·subst e2; rw [M0 rfl,St3.self]; exact hf
   ·rw [K0 e2]; exact pv r hr e2
  ·rw [K0 e]
   by_cases e2:r=k
   ·subst e2
    rw [St3.self,lo s r A0 hk,B0,Q3,Ua]
   ·rw [St3.oth e2 hr,lo s k A0 hk,B0,Q3,Ua,w4,pa,lo s r A0 hr]
    split
    ·exact Y4 A0 A0
    ·exact Ua p
 ·by_cases e:j=c
  ·subst e; exact pv r h2 A0
  ·rw [St3.oth A0 h2,ze r j A0 h2 A0,ze k j (O2 k) hk A0,Q3,Ua,w4,pa,Ua]
 ·by_cases e:r=k
  ·subst e; rw [St3.self]; exact M7 _ A0
  ·rw [St3.oth e h1]; exact M7 _ A0
 ·by_cases e:s=k
  ·subst e
   rw [M0 rfl] at hj
   rw [St3.self,ze s j (O2 s) hk hj,Q3,Ua]
  ·rw [K0 e] at hj
   have:=h.lt s A0
   rw [St3.oth e A0,ze k j (O2 k) hk A0,Q3,Ua,w4,pa,kc s A0,h.lead s j A0 hj,Ua]
end
end Dt
namespace Km
open Sx Go M Vc Dt
section
variable {p:Int} {n w:Nat} {A B:Mx} {col:Nat→Nat} {k c:Nat}
theorem Ci (B:Mx) (k:Nat):sw B k k=B:=by
 funext r c; unfold sw; split
 ·rename_i h; rw [h]
 ·rfl
theorem Rq.sw3 {t:Nat} (hk:k < n) (ht:t < n) {f:Int} (hf:Cg p (sw B k t k c*f) 1):Rq p n w B (St3 p n (sw B k t) k c f):=by
 refine (Rq.sw B hk ht).trans ((Rq.step (Dt.sw B k t) hk hf fun r=>-(Dt.sw B k t r c)).trans (Rq.cg fun r j hr _=>(St3.cg hr).symm))
theorem det_next {t:Nat} (hk:k < n) (ht:t < n) {f d q:Int} (hf:Cg p (sw B k t k c*f) 1) (hd:Cg p d (q*det n B)):Cg p d (((if t=k then q else -q)*sw B k t k c)*det n (St3 p n (sw B k t) k c f)):=by
 have h1:Cg p (det n (St3 p n (sw B k t) k c f)) (f*det n (sw B k t)):=by
  rw [← IC (Dt.sw B k t) hk f (fun r=>-(Dt.sw B k t r c))]
  exact Cg.det fun r j hr _=>St3.cg hr
 have h2:(if t=k then q else -q)*det n (sw B k t)=q*det n B:=by
  split
  ·rename_i e; subst e; rw [Ci]
  ·rename_i e
   rw [(K9 n).swap hk ht A0 B,Int.neg_mul_neg]
 have h3:Cg p (((if t=k then q else -q)*sw B k t k c)*det n (St3 p n (sw B k t) k c f)) (q*det n B):=by
  refine ((Cg.refl p _).mul h1).trans ?_
  have e:(if t=k then q else -q)*sw B k t k c*(f*det n (sw B k t))=(sw B k t k c*f)*((if t=k then q else -q)*det n (sw B k t)):=by grind
  rw [e,h2]
  have:=hf.mul (Cg.refl p (q*det n B))
  rwa [E4] at this
 exact hd.trans h3.symm
end
def Pv (l:LI) (k:Nat) (col:Nat→Nat):Prop:=l.length=k∧∀ s,s < k→l[s]?=some (col s:Int)
theorem Pv.push {l:LI} {k c:Nat} {col:Nat→Nat} (h:Pv l k col):Pv (l++[(c:Int)]) (k+1) (fun s=>if s=k then c else col s):=by
 refine ⟨by simp [h.1],fun s hs=>?_⟩
 by_cases e:s=k
 ·subst e; simp only [if_true]; rw [I6 (by rw [h.1]; omega),h.1,E6]; rfl
 ·rw [B6 (by rw [h.1]; omega),h.2 s A0]; simp only [e,if_false]
theorem Tb.drop {n w:Nat} {T:L2} {A:Mx} (h:Tb T n w A) (k:Nat) (hk:k≤n):Tb ((T.take n).drop k) (n - k) w (fun r=>A (k+r)):=by
 refine ⟨by rw [y6,Z3,h.1]; omega,fun r hr=>?_⟩
 obtain ⟨l,h1,h2⟩:=h.2 (k+r) A0
 exact ⟨l,by rw [G8,A6,C0]; exact h1,h2⟩
def Ech (p:Int) (n w:Nat) (A:Mx) (o:L2×LI×Int) (k:Nat) (B:Mx) (col:Nat→Nat) (c:Nat):Prop:=
 Tb o.1 n w B∧Rre p n w B col k c∧Rq p n w A B∧Pv o.2.1 k col∧(0≤o.2.2∧o.2.2 < p)∧Cg p (det n A) (o.2.2*det n B)∧∃ u,Cg p (o.2.2*u) 1
theorem uC {p:Int} (hP:PP p) {n w:Nat} (hn:0 < n) (hn2:n≤1000) (hw:w≤1000) {T:L2} {A:Mx} (hT:Tb T n w A) (hA:∀ r j,r < n→j < w→0≤A r j∧A r j < p):
  Ret (m_is T p) (fun o=>∃ k B col,Ech p n w A o k B col w):=by
 have hp:=hP.two
 have hm:=hP.max
 unfold m_is m_h1
 rw [J0,O0,hT.1]
 refine ⟨fun h=>absurd h A0,fun _=>?_⟩
 rw [J0]
 have hg:=hT.get hn (Q:=fun l=>l.length=w) (fun l _ hl=>hl.1)
 refine hg.mono fun l0 hl0=>?_
 rw [D4,hl0,J0]
 refine (Q0 (Post:=fun o=>∃ k B col,Ech p n w A o k B col w) w (fun c (s:L2×LI×Int×Int)=>s.2.2.2=(c:Int)∧∃ k B col,Ech p n w A (s.1,s.2.1,s.2.2.1) k B col c) ⟨rfl,0,A,fun _=>0,hT,⟨A0,A0,fun s h=>absurd h A0,fun s t h1 h2=>absurd h2 A0,fun s r h=>absurd h A0,fun r j _ _ h=>absurd h A0,hA,fun s j h=>absurd h A0⟩,Rq.refl _ _ _ _,⟨rfl,fun s h=>absurd h A0⟩,⟨by show (0:Int)≤1; omega,by show (1:Int) < p; omega⟩,⟨by show Cg p _ (1*_); rw [E4]; exact .refl _ _,1,.refl _ _⟩⟩ ?_ A0).mono ?_
 ·rintro c ⟨T',pv,q,_⟩ hcw ⟨rfl,k,B,col,h1,h2,h3,h4,h5,h6⟩
  simp only at h1 h4 h5 h6
  unfold m_ir m_im
  simp only
  have hkn:=h2.kn
  rw [O0]
  refine ⟨fun hlt=>?_,fun hge=>⟨_,rfl,k,B,col,h1,(by have e:c=w:=A0; subst e; exact h2),h3,h4,h5,h6⟩⟩
  have hcw:c < w:=A0
  have nxt:wa .i64 (c:Int) 1=((c+1:Nat):Int):=by rw [U0 A0 A0]; rfl
  rw [O0,h4.1,h1.1]
  refine ⟨fun he=>⟨_,rfl,k,B,col,h1,(by have e:k=n:=A0; subst e; exact h2.full),h3,h4,h5,h6⟩,fun he=>?_⟩
  have hkn:k < n:=A0
  rw [J0,Qc]
  refine ⟨A0,A0,by rw [h1.1]; omega,?_⟩
  rw [A1,A1,J0]
  refine (SB (h1.drop k A0) hcw A0).mono fun i hi=>?_
  rw [U0 (by rcases hi with ⟨rfl,_⟩ | ⟨r,rfl,_⟩<;>omega) (by rcases hi with ⟨rfl,_⟩ | ⟨r,rfl,h,_⟩<;>omega)]
  rw [O0]
  refine ⟨fun hlo=>?_,fun hlo=>?_⟩
  ·obtain ⟨rfl,hz⟩:i= -1∧∀ r,r < n - k→B (k+r) c=0:=by
    rcases hi with h | ⟨r,rfl,_⟩
    ·exact h
    ·omega
   refine ⟨_,rfl,A0,nxt,k,B,col,h1,h2.none hcw (fun r hr1 hr2=>?_),h3,h4,h5,h6⟩
   have:=hz (r - k) A0
   rwa [show k+(r - k)=r by omega] at this
  ·obtain ⟨r,rfl,hr,hne⟩:∃ r:Nat,i=(r:Int)∧r < n - k∧B (k+r) c≠0:=by
    rcases hi with ⟨rfl,_⟩ | h
    ·omega
    ·exact h
   have key:∀ (T1:L2) (q1:Int),Tb T1 n w (sw B k (k+r))→(0≤q1∧q1 < p)→Cg p q1 (if k+r=k then q else -q)→
     Ret (m_iq pv (c:Int) p T1 q1) (VQ (fun t':L2×LI×Int×Int=>c < w∧t'.2.2.2=((c+1:Nat):Int)∧∃ k B col,Ech p n w A (t'.1,t'.2.1,t'.2.2.1) k B col (c+1)) (fun o=>∃ k B col,Ech p n w A o k B col w)):=by
    intro T1 q1 hT1 hq1 hqq
    have hB1:∀ r' j,r' < n→j < w→0≤sw B k (k+r) r' j∧sw B k (k+r) r' j < p:=by
     intro r' j hr' hj
     unfold sw
     split
     ·exact h2.rng _ _ A0 hj
     ·split
      ·exact h2.rng _ _ hkn hj
      ·exact h2.rng _ _ hr' hj
    have hpv:sw B k (k+r) k c=B (k+r) c:=by unfold sw; rw [M0 rfl]
    have hb:=hB1 k c hkn hcw
    obtain ⟨f,hf1,hf2,hf3⟩:=Fs hP (a:=sw B k (k+r) k c) ⟨by rw [hpv] at hb ⊢; omega,hb.2⟩
    have hfc:Cg p (sw B k (k+r) k c*f) 1:=by
     have e1:(1:Int) % p=1:=Y4 A0 A0
     exact Cg.iff.2 (by rw [hf3,e1])
    unfold m_iq
    rw [h4.1,J0]; refine hT1.get hkn fun l1 hl1 hl1'=>?_
    rw [J0]; refine hl1'.get hcw ?_
    rw [wmr hm hq1 hb,obs,J0]; refine hT1.get hkn fun l2 hl2 hl2'=>?_
    rw [J0]; refine hl2'.get hcw ?_
    rw [hf1,obs,J0]; refine hT1.get hkn fun l3 hl3 hl3'=>?_
    rw [J0]
    refine (cy A0 hm hT1 hkn (fun j hj=>hB1 k j hkn hj) hf2 hl3'.1 h4.1 hw).mono fun T2 hT2=>?_
    rw [J0]
    refine (rC A0 hm hT2 hkn hcw (fun r' j hr' hj=>?_) hT2.1 h4.1 hw hn2).mono fun T3 hT3=>?_
    ·by_cases e:r'=k
     ·subst e; rw [C2]; exact M7 _ A0
     ·rw [H2 e]; exact hB1 r' j hr' hj
    rw [J0,D2]
    have:=h2.kc
    refine ⟨by rw [h4.1]; simp only [E2,N2]; omega,_,rfl,hcw,nxt,k+1,_,_,hT3,h2.next hp hcw hkn A0 A0 hf3,h3.trans (Rq.sw3 hkn A0 hfc),h4.push,M7 _ A0,?_,?_⟩
    ·refine (det_next hkn (show k+r < n by omega) hfc h6.1).trans ?_
     refine Cg.mul ?_ (Cg.refl p _)
     exact ((hqq.symm.mul (Cg.refl p _))).trans (Cg.mod p _).symm
    ·obtain ⟨u,hu⟩:=h6.2
     refine ⟨(if k+r=k then u else -u)*f,?_⟩
     have e1:Cg p (q1*(if k+r=k then u else -u)) 1:=by
      refine (hqq.mul (Cg.refl p _)).trans ?_
      split
      ·exact hu
      ·rw [Int.neg_mul_neg]; exact hu
     have e2:=e1.mul hfc
     rw [E4] at e2
     refine ((Cg.mod p _).mul (Cg.refl p _)).trans ?_
     have e3:q1*sw B k (k+r) k c*((if k+r=k then u else -u)*f)=q1*(if k+r=k then u else -u)*(sw B k (k+r) k c*f):=by grind
     show Cg p (q1*sw B k (k+r) k c*((if k+r=k then u else -u)*f)) 1
     rw [e3]; exact e2
   rw [O0]
   refine ⟨fun hgt=>?_,fun hgt=>?_⟩
   ·have hr0:0 < r:=A0
    have ecast:(k:Int)+(r:Int)=((k+r:Nat):Int):=A0
    rw [ecast,J0]; refine h1.get (show k+r < n by omega) fun la hla hla'=>?_
    rw [J0]; refine h1.get hkn fun lk hlk hlk'=>?_
    rw [J0,K4]
    refine ⟨A0,by rw [h1.1]; omega,?_⟩
    rw [J0,K4]
    refine ⟨A0,by rw [O3,h1.1]; omega,?_⟩
    rw [Zb A0 hm,obs]
    refine key _ _ ?_ (M7 _ A0) ?_
    ·rw [A1,A1]
     refine ((h1.set hkn hla').set (show k+r < n by omega) hlk').congr fun r' j _ _=>?_
     unfold sw up
     by_cases e1:r'=k
     ·rw [B0,M0 e1,M0 e1]
     ·by_cases e2:r'=k+r
      ·rw [M0 e2,K0 e1,M0 e2]
      ·rw [K0 e2,K0 e1,K0 e1,K0 e2]
    ·rw [B0]
     have:wneg .i64 q= -q:=IntWalk.i64_in _ ⟨A0,A0⟩
     rw [this]
     exact Cg.mod p _
   ·have hr0:r=0:=A0
    subst hr0
    refine key _ _ ?_ h5 ?_
    ·rw [w9,Ci]; exact h1
    ·rw [M0 (w9 k)]; exact .refl _ _
 ·rintro ⟨T',pv,q⟩ h
  exact ⟨_,rfl,h⟩
end Km
namespace Dt
section
variable {p:Int} {n w:Nat} {B B':Mx} {col col':Nat→Nat} {k k':Nat}
theorem Rre.inj (h:Rre p n w B col k w):∀ s t,s < k→t < k→col s=col t→s=t:=by
 intro s t hs ht he
 rcases Pa s t with h1 | h1 | h1
 ·have:=h.asc s t h1 ht; omega
 ·exact h1
 ·have:=h.asc t s h1 hs; omega
theorem Rre.vec (h:Rre p n w B col k w) {fr:Nat} (hno:∀ s,s < k→col s≠fr):∃ v:Nat→Int,v fr=1∧(∀ s,s < k→v (col s)= - B s fr)∧∀ j,j≠fr→(∀ s,s < k→col s≠j)→v j=0:=by
 have hex:∀ j,∃ z:Int,(j=fr→z=1)∧(∀ s,s < k→col s=j→z= - B s fr)∧(j≠fr→(∀ s,s < k→col s≠j)→z=0):=by
  intro j
  by_cases h1:j=fr
  ·exact ⟨1,fun _=>rfl,fun s hs he=>absurd (he.trans h1) (hno s hs),fun h2=>absurd h1 h2⟩
  ·by_cases h2:∃ s,s < k∧col s=j
   ·obtain ⟨s,hs,he⟩:=h2
    exact ⟨- B s fr,fun e=>absurd e h1,fun t ht he'=>by rw [h.inj s t hs ht (he.trans he'.symm)],fun _ h3=>absurd he (h3 s hs)⟩
   ·exact ⟨0,fun e=>absurd e h1,fun t ht he'=>absurd ⟨t,ht,he'⟩ h2,fun _ _=>rfl⟩
 refine ⟨fun j=>Classical.choose (hex j),(Ib (hex fr)).1 rfl,fun s hs=>(Ib (hex (col s))).2.1 s hs rfl,fun j h1 h2=>(Ib (hex j)).2.2 h1 h2⟩
theorem Rre.free (hp:2≤p) (h:Rre p n w B col k w) (h':Rre p n w B' col' k' w) (hN:∀ x,Nl p n w B x→Nl p n w B' x) {fr:Nat} (hfr:fr < w) (hno:∀ s,s < k→col s≠fr):∀ s,s < k'→col' s≠fr:=by
 intro s hs he
 obtain ⟨v,v1,v2,v3⟩:=h.vec hno
 have h1:=hN v (h.kernel hfr hno v1 (fun s hs=>by rw [v2 s hs]; exact .refl _ _) (fun j _ hj hn=>v3 j hj hn)) s (by have:=h'.kn; omega)
 have e:sm w (fun c=>B' s c*v c)=sm w (fun c=>if c=fr then (fun _=>(1:Int)) c else 0):=V0 fun c hc=>by
  rcases Pa c fr with h2 | h2 | h2
  ·rw [h'.lead s c hs A0,Q3,B0]
  ·subst h2
   have:=h'.unit s s hs (by have:=h'.kn; omega)
   rw [he,M0 rfl] at this
   rw [this,v1,M0 rfl]; rfl
  ·have hv:v c=0:=by
    by_cases h3:∃ t,t < k∧col t=c
    ·obtain ⟨t,ht,hc'⟩:=h3
     rw [← hc',v2 t ht,h.lead t fr ht A0]; rfl
    ·exact v3 c A0 fun t ht hc'=>h3 ⟨t,ht,hc'⟩
   rw [hv,w4,B0]
 rw [e,J4 (f:=fun _=>(1:Int)) hfr] at h1
 have:=Cg.zero.1 h1
 rw [Y4 A0 A0] at this
 omega
theorem Rre.enum (h:Rre p n w B col k w) (h':Rre p n w B' col' k' w) (h1:∀ s,s < k→∃ t,t < k'∧col' t=col s) (h2:∀ s,s < k'→∃ t,t < k∧col t=col' s):∀ s,s < k→s < k'∧col s=col' s:=by
 intro s
 induction s using Nat.strongRecOn with
 | ind s ih=>
  intro hs
  obtain ⟨t,ht,he⟩:=h1 s hs
  have hts:s≤t:=by
   refine H1 fun hc=>?_
   have h3:=(ih t A0 A0).2
   have:=h.asc t s A0 hs
   omega
  have hsk:s < k':=A0
  obtain ⟨u,hu,he2⟩:=h2 s hsk
  have hus:s≤u:=by
   refine H1 fun hc=>?_
   have h3:=(ih u A0 hu).2
   have:=h'.asc u s A0 hsk
   omega
  refine ⟨hsk,?_⟩
  have a1:col s≤col u:=by
   rcases wb s u with h3 | h3
   ·have:=h.asc s u h3 hu; omega
   ·have:s=u:=A0
    rw [this]; exact O2 _
  have a2:col' s≤col' t:=by
   rcases wb s t with h3 | h3
   ·have:=h'.asc s t h3 ht; omega
   ·have:s=t:=A0
    rw [this]; exact O2 _
  omega
theorem Rre.uniq (hp:2≤p) (h:Rre p n w B col k w) (h':Rre p n w B' col' k' w) (hN:Rq p n w B B'):k=k'∧(∀ s,s < k→col s=col' s)∧∀ r c,r < n→c < w→B r c=B' r c:=by
 have f1:∀ s,s < k→∃ t,t < k'∧col' t=col s:=fun s hs=>H1 fun hc=>h'.free hp h (fun x=>(hN x).2) (h.lt s hs) (fun t ht he=>hc ⟨t,ht,he⟩) s hs rfl
 have f2:∀ s,s < k'→∃ t,t < k∧col t=col' s:=fun s hs=>H1 fun hc=>h.free hp h' (fun x=>(hN x).1) (h'.lt s hs) (fun t ht he=>hc ⟨t,ht,he⟩) s hs rfl
 have e1:=h.enum h' f1 f2
 have e2:=h'.enum h f2 f1
 have hk:k=k':=by
  rcases Pa k k' with h3 | h3 | h3
  ·have:=(e2 k h3).1; omega
  ·exact h3
  ·have:=(e1 k' h3).1; omega
 refine ⟨hk,fun s hs=>(e1 s hs).2,fun r c hr hc=>?_⟩
 rcases wb r k with h3 | h3
 ·by_cases hpv:∃ s,s < k∧col s=c
  ·obtain ⟨s,hs,rfl⟩:=hpv
   rw [h.unit s r hs hr,(e1 s hs).2,h'.unit s r A0 hr]
  ·have hno:∀ s,s < k→col s≠c:=fun s hs he=>hpv ⟨s,hs,he⟩
   obtain ⟨v,v1,v2,v3⟩:=h.vec hno
   have h4:=(hN v).1 (h.kernel hc hno v1 (fun s hs=>by rw [v2 s hs]; exact .refl _ _) (fun j _ hj hn=>v3 j hj hn)) r hr
   have e:sm w (fun j=>B' r j*v j)=sm w (fun j=>if j=c then (fun _=>B' r c) j else 0)+sm w (fun j=>if j=col r then (fun _=>- B r c) j else 0):=by
    rw [← B7]
    refine V0 fun j hj=>?_
    by_cases h5:j=c
    ·subst h5
     rw [M0 rfl,K0 (fun e=>hno r h3 e.symm),v1]; simp
    ·rw [K0 h5]
     by_cases h6:∃ s,s < k∧col s=j
     ·obtain ⟨s,hs,he⟩:=h6
      have hu:=h'.unit s r A0 hr
      rw [← (e1 s hs).2,he] at hu
      rw [hu]
      by_cases h7:r=s
      ·subst h7; rw [M0 rfl,M0 he.symm,← he,v2 r hs]; simp
      ·rw [K0 h7,K0 (fun e=>h7 (h.inj r s h3 hs (e.symm.trans he.symm)))]; simp
     ·rw [v3 j h5 fun s hs he=>h6 ⟨s,hs,he⟩,K0 (fun e=>h6 ⟨r,h3,e.symm⟩)]; simp
   rw [e,J4 (f:=fun _=>B' r c) hc,J4 (f:=fun _=>- B r c) (h.lt r h3)] at h4
   have h8:=h4.add (Cg.refl p (B r c))
   rw [Le] at h8
   have e9:B' r c+ -B r c+B r c=B' r c:=A0
   rw [e9] at h8
   exact (h8.eq (h'.rng r c hr hc) (h.rng r c hr hc)).symm
 ·rw [h.zero r c h3 hr hc,h'.zero r c A0 hr hc]
end
end Dt
namespace Km
open Sx Go M Vc Dt
theorem sqd {i:Int} (h2:2≤i) (h3:i≤46342):0≤i*i∧i*i≤46342*46342:=⟨K3 A0 A0,J8 h3 h3 A0 A0⟩
theorem Es {p:Int} (hP:PP p):m_hc p=some true:=by
 have hp:=hP.two
 have hm:=hP.max
 refine Ret.eq ?_
 unfold m_hc
 rw [O0]
 refine ⟨fun h=>?_,fun _=>?_⟩
 ·simp only [H5,decide_eq_true_eq] at h; omega
 ·rw [J0]
  refine (Vb (Post:=fun o=>o=.inl ()) (fun i=>2≤i∧i≤46342) (fun i=>(46342 - i).toNat) (by decide) (by decide) ?_).mono ?_
  ·rintro i ⟨h2,h3⟩
   obtain ⟨h4,h5⟩:=sqd h2 h3
   unfold m_hb
   rw [K8 A0 A0]
   split
   ·rename_i hle
    have h6:i≤46341:=by
     refine H1 fun hc=>?_
     obtain rfl:i=46342:=A0
     omega
    rw [Ic A0 A0,obs]
    split
    ·rename_i h0
     exfalso
     have hd:i ∣ p:=tl h0
     obtain ⟨P,rfl⟩:=W5 (show 0≤p by omega)
     obtain ⟨I,rfl⟩:=W5 (show 0≤i by omega)
     have hd':I ∣ P:=by exact_mod_cast hd
     have:=hP.prm.div I (by simpa using hd')
     rw [A1] at this
     rcases this with e | e
     ·omega
     ·subst e
      have:(I:Int)*2≤(I:Int)*(I:Int):=B3 A0 A0
      omega
    ·refine ⟨_,rfl,?_⟩
     rw [U0 A0 A0]
     exact ⟨⟨A0,A0⟩,by show (46342 - (i+1)).toNat < (46342 - i).toNat; omega⟩
   ·exact ⟨_,rfl,rfl⟩
  ·rintro _ rfl
   exact ⟨_,rfl,rfl⟩
section
variable {p:Int} {n w:Nat} {T:L2} {X:Mx}
theorem Vj (hn:0 < n) (hT:Tb T n w X):m_h1 T=some (w:Int):=by
 refine Ret.eq ?_
 unfold m_h1
 rw [O0,hT.1]
 refine ⟨fun h=>absurd h A0,fun _=>?_⟩
 rw [J0]
 refine (hT.get hn (Q:=fun l=>l.length=w) (fun l _ hl=>hl.1)).mono fun l hl=>?_
 rw [D4,hl]
theorem Ut (hP:PP p) (hn:0 < n) (hn2:n≤200) (hw:w≤200) (hT:Tb T n w X):m_h6 T p=some 0:=by
 refine Ret.eq ?_
 unfold m_h6
 rw [Vj hn hT,obs,Es hP,obs,M0 rfl,J0]
 have hc:m_h5 T (w:Int)=some false:=by
  refine Ret.eq ?_
  unfold m_h5 m_h4
  rw [J0,J0]
  refine (Q0 (Post:=fun o=>o=.inl ()) n (fun k (i:Int)=>i=(k:Int)) rfl ?_ A0).mono ?_
  ·rintro k _ hk rfl
   unfold m_h3 m_h2
   rw [O0,hT.1]
   refine ⟨fun hlt=>?_,fun _=>⟨_,rfl,rfl⟩⟩
   rw [J0]; refine hT.get (show k < n by omega) fun l _ hl=>?_
   rw [obs,hl.1,K0 H0]
   exact ⟨_,rfl,A0,by rw [U0 A0 A0]; rfl⟩
  ·rintro _ rfl
   exact ⟨_,rfl,_,rfl,rfl⟩
 rw [Oy hc,K0 H0,hT.1,K0 (by simp; omega),D4]
theorem az (hp:0 < p) (hm:p≤2147483647) (hn2:n≤1000) (hw:w≤1000) (hT:Tb T n w X):Ret (m_ic T p) (fun R=>Tb R n w (fun r c=>X r c % p)):=by
 unfold m_ic
 rw [J0]
 refine (Q0 (Post:=fun R=>Tb R n w (fun r c=>X r c % p)) n (fun k (s:L2×Int)=>s.2=(k:Int)∧Tb s.1 k w (fun r c=>X r c % p)) ⟨rfl,rfl,fun r h=>absurd h A0⟩ ?_ A0).mono fun R h=>⟨_,rfl,h⟩
 rintro k ⟨R,_⟩ hk ⟨rfl,h⟩
 unfold m_ib
 simp only at h ⊢
 rw [O0,hT.1]
 refine ⟨fun hlt=>?_,fun _=>⟨_,rfl,by show Tb R n w _; have:k=n:=A0; exact this▸h⟩⟩
 have hkn:k < n:=A0
 rw [J0]; refine hT.get hkn fun l _ hl=>?_
 rw [J0]
 refine (Q0 (Post:=fun o=>Ln o w (fun c=>X k c % p)) w (fun j (s:LI×Int)=>s.2=(j:Int)∧Ln s.1 j (fun c=>X k c % p)) ⟨rfl,rfl,fun c h=>absurd h A0⟩ ?_ A0).mono fun o ho=>?_
 ·rintro j ⟨o,_⟩ hj ⟨rfl,ho⟩
  unfold m_ia
  simp only at ho ⊢
  rw [O0,hl.1]
  refine ⟨fun hlt=>?_,fun _=>⟨_,rfl,by show Ln o w _; have:j=w:=A0; exact this▸ho⟩⟩
  rw [J0]; refine hl.get (show j < w by omega) ?_
  rw [Zb hp hm,obs,J0,D2]
  refine ⟨by rw [ho.1]; simp only [E2,N2]; omega,_,rfl,A0,by show wa .i64 (j:Int) 1=_; rw [U0 A0 A0]; rfl,by show (o++[_]).length=j+1; rw [P1,ho.1]; rfl,fun c hc=>?_⟩
  show (o++[X k j % p])[c]?=_
  by_cases e:c=j
  ·subst e; rw [I6 (by rw [ho.1]; omega),ho.1,E6]; rfl
  ·rw [B6 (by rw [ho.1]; omega),ho.2 c A0]
 ·rw [J0,D2]
  refine ⟨by rw [h.1]; simp only [E2,N2]; omega,_,rfl,A0,by show wa .i64 (k:Int) 1=_; rw [U0 A0 A0]; rfl,by show (R++[_]).length=k+1; rw [P1,h.1]; rfl,fun r hr=>?_⟩
  show ∃ l,(R++[o])[r]?=some l∧_
  by_cases e:r=k
  ·subst e; exact ⟨o,by rw [I6 (by rw [h.1]; omega),h.1,E6]; rfl,ho⟩
  ·obtain ⟨l,h1,h2⟩:=h.2 r A0
   exact ⟨l,by rw [B6 (by rw [h.1]; omega)]; exact h1,h2⟩
def Rd (p:Int) (X:Mx):Mx:=fun r c=>X r c % p
theorem Ct (hP:PP p) (hn:0 < n) (hn2:n≤200) (hw:w≤201) (hT:Tb T n w X):∃ R o,m_ic T p=some R∧Tb R n w (Rd p X)∧m_is R p=some o∧∃ k B col,Ech p n w (Rd p X) o k B col w:=by
 have hp:=hP.two
 obtain ⟨R,h1,h2⟩:=az (p:=p) A0 hP.max A0 A0 hT
 obtain ⟨o,h3,h4⟩:=uC hP hn A0 A0 h2 fun r j _ _=>M7 _ A0
 exact ⟨R,o,h1,h2,h3,h4⟩
theorem ir (hP:PP p) (hn:0 < n) (hn2:n≤200) (hw:w≤200) (hT:Tb T n w X) {R:L2} {o:L2×LI×Int} (hR:m_ic T p=some R) (hE:m_is R p=some o):m_kl T p=some ((o.2.1.length:Int),0):=by
 unfold m_kl
 rw [Ut hP hn hn2 hw hT,obs,M0 rfl,hR,obs,hE,obs]
end
section
variable {p:Int} {n w:Nat}
theorem Uy:m_ez=m_ih:=rfl
theorem Vy {a:Int} (hP:PP p) (ha:0≤a∧a < p):m_e1 a p=m_ij a p:=by
 unfold m_e1 m_e0 m_ij m_ii
 have:=hP.two
 rw [Uy,Rf,Zb A0 hP.max,obs,Y4 ha.1 ha.2]
theorem iy (hp:0 < p) (hm:p≤2147483647) {T:L2} {A:Mx} (hT:Tb T n w A) {k:Nat} (hk:k < n) (hr:∀ c,c < w→0≤A k c∧A k c < p) {f:Int} (hf:0≤f∧f < p) {piv:LI} (h2:piv.length=k) (hw:w≤1000):
  Ret (loop (m_e5 piv f p) (T,0)) (fun T'=>Tb T' n w (up A k (fun j=>A k j*f % p))):=by
 refine Q0 w (fun m (s:L2×Int)=>s.2=(m:Int)∧Tb s.1 n w (up A k (fun j=>if j < m then A k j*f % p else A k j))) ⟨rfl,hT.congr fun r c hr hc=>?_⟩ ?_ A0
 ·by_cases e:r=k
  ·subst e; rw [C2,B0]
  ·rw [H2 e]
 ·rintro m ⟨T',_⟩ hmw ⟨rfl,h⟩
  unfold m_e5
  simp only at h ⊢
  rw [J0,h2]; refine h.get hk fun l0 _ hl0=>?_
  rw [O0,hl0.1]
  refine ⟨fun hlt=>?_,fun hge=>⟨_,rfl,?_⟩⟩
  ·have hmw:m < w:=A0
   rw [J0]; refine h.get hk fun l hl1 hl2=>?_
   rw [J0]; refine h.get hk fun l' hl1' hl2'=>?_
   obtain rfl:=N3 (hl1.symm.trans hl1')
   rw [J0]; refine hl2.get hmw ?_
   rw [C2,B0,wmr hm (hr m hmw) hf,obs,J0,K4]
   refine ⟨A0,by rw [hl2.1]; omega,?_⟩
   rw [J0,K4]
   refine ⟨A0,by rw [h.1]; omega,_,rfl,?_⟩
   refine ⟨A0,by show wa .i64 (m:Int) 1=_; rw [U0 A0 A0]; omega,?_⟩
   show Tb (T'.set (k:Int).toNat (l.set (m:Int).toNat _)) n w _
   rw [A1,A1]
   refine (h.set hk (hl2.set hmw _)).congr fun r c hr hc=>?_
   by_cases e:r=k
   ·subst e
    rw [C2,C2]
    by_cases e2:c=m
    ·subst e2; rw [M0 rfl,C2,C0]
    ·rw [K0 e2,C2]
     by_cases e3:c < m
     ·rw [M0 e3,C0]
     ·rw [K0 e3,B0]
   ·rw [H2 e,H2 e,H2 e]
  ·show Tb T' n w _
   refine h.congr fun r c hr hc=>?_
   by_cases e:r=k
   ·subst e; rw [C2,C2,C0]
   ·rw [H2 e,H2 e]
theorem Gy (hp:0 < p) (hm:p≤2147483647) {T:L2} {A:Mx} (hT:Tb T n w A) {k i:Nat} (hk:k < n) (hi:i < n) (hr:∀ r j,r < n→j < w→0≤A r j∧A r j < p) {x:Int} (hx:0≤x∧x < p) {piv:LI} (h2:piv.length=k) (hw:w≤1000):
  Ret (loop (m_e3 (i:Int) piv x p) (T,0)) (fun T'=>Tb T' n w (if i=k then A else up A i (fun j=>(A i j - x*A k j) % p))):=by
 refine Q0 w (fun m (s:L2×Int)=>s.2=(m:Int)∧Tb s.1 n w (if i=k then A else up A i (fun j=>if j < m then (A i j - x*A k j) % p else A i j))) ⟨rfl,hT.congr fun r c hr hc=>?_⟩ ?_ A0
 ·split
  ·rfl
  ·by_cases e:r=i
   ·subst e; rw [C2,B0]
   ·rw [H2 e]
 ·rintro m ⟨T',_⟩ hmw ⟨rfl,h⟩
  unfold m_e3
  simp only at h ⊢
  rw [J0,h2]; refine h.get hi fun l0 _ hl0=>?_
  rw [O0,hl0.1]
  refine ⟨fun hc=>?_,fun hc=>⟨_,rfl,?_⟩⟩
  ·simp only [V3,decide_eq_true_eq,I7,decide_eq_false_iff_not] at hc
   have hmw:m < w:=A0
   have hik:i≠k:=A0
   rw [K0 hik] at h
   rw [J0]; refine h.get hi fun l hl1 hl2=>?_
   rw [J0]; refine h.get hi fun l' hl1' hl2'=>?_
   obtain rfl:=N3 (hl1.symm.trans hl1')
   rw [J0]; refine hl2.get hmw ?_
   rw [J0]; refine h.get hk fun lk _ hlk=>?_
   rw [J0]; refine hlk.get hmw ?_
   rw [C2,B0,H2 (Ne.symm hik),wmr hm hx (hr k m hk hmw),obs]
   have h5:=M7 (x*A k m) hp
   have h6:=hr i m hi hmw
   rw [V2 A0 A0,Rf,Zb hp hm,obs,J0,K4]
   refine ⟨A0,by rw [hl2.1]; omega,?_⟩
   rw [J0,K4]
   refine ⟨A0,by rw [h.1]; omega,_,rfl,?_⟩
   refine ⟨A0,by show wa .i64 (m:Int) 1=_; rw [U0 A0 A0]; omega,?_⟩
   show Tb (T'.set (i:Int).toNat (l.set (m:Int).toNat _)) n w _
   rw [A1,A1,K0 hik]
   refine (h.set hi (hl2.set hmw _)).congr fun r c hr hc=>?_
   by_cases e:r=i
   ·subst e
    rw [C2,C2]
    by_cases e2:c=m
    ·subst e2; rw [M0 rfl,C2,C0,fq]
    ·rw [K0 e2,C2]
     by_cases e3:c < m
     ·rw [M0 e3,C0]
     ·rw [K0 e3,B0]
   ·rw [H2 e,H2 e,H2 e]
  ·show Tb T' n w _
   by_cases hik:i=k
   ·rw [M0 hik] at h ⊢; exact h
   ·rw [K0 hik] at h ⊢
    simp only [V3,decide_eq_true_eq,I7,decide_eq_false_iff_not,not_and,Decidable.not_not] at hc
    refine h.congr fun r c hr hc'=>?_
    by_cases e:r=i
    ·subst e
     rw [C2,C2,M0]
     refine H1 fun hcm=>?_
     have:=hc A0
     omega
    ·rw [H2 e,H2 e]
theorem sC (hp:0 < p) (hm:p≤2147483647) {T:L2} {A:Mx} (hT:Tb T n w A) {k c:Nat} (hk:k < n) (hc:c < w) (hr:∀ r j,r < n→j < w→0≤A r j∧A r j < p) {piv:LI} (h2:piv.length=k) (hw:w≤1000) (hn:n≤1000):
  Ret (loop (m_e4 (c:Int) piv p) (T,0)) (fun T'=>Tb T' n w (Em p A k c n)):=by
 refine Q0 n (fun m (s:L2×Int)=>s.2=(m:Int)∧Tb s.1 n w (Em p A k c m)) ⟨rfl,hT.congr fun r j hr hc=>?_⟩ ?_ A0
 ·unfold Em; rw [B0]
 ·rintro m ⟨T',_⟩ hmw ⟨rfl,h⟩
  unfold m_e4
  simp only at h ⊢
  rw [O0,h.1]
  refine ⟨fun hlt=>?_,fun hge=>⟨_,rfl,?_⟩⟩
  ·have hmn:m < n:=A0
   have nxt:wa .i64 (m:Int) 1=((m+1:Nat):Int):=by rw [U0 A0 A0]; rfl
   have Emm:Em p A k c m m=A m:=by funext j; unfold Em; rw [B0]
   have Emk:Em p A k c m k=A k:=by funext j; unfold Em; rw [B0]
   have hE:∀ r j,r < n→j < w→0≤Em p A k c m r j∧Em p A k c m r j < p:=by
    intro r j h3 h4
    unfold Em
    split
    ·exact M7 _ hp
    ·exact hr r j h3 h4
   rw [J0]; refine h.get hmn fun l hl1 hl2=>?_
   rw [Emm] at hl2
   rw [J0]; refine hl2.get hc ?_
   rw [J0]
   refine (Gy hp hm h hk hmn hE (hr m c hmn hc) h2 hw).mono fun T2 hT2=>⟨_,rfl,A0,nxt,?_⟩
   refine hT2.congr fun r j hr' hj=>?_
   by_cases e:m=k
   ·rw [M0 e]; unfold Em
    by_cases e2:r≠k∧r < m
    ·rw [M0 e2,C0]
    ·rw [K0 e2,B0]
   ·rw [K0 e,Emm,Emk]
    by_cases e3:r=m
    ·subst e3; rw [C2]; unfold Em; rw [M0 ⟨e,A0⟩]
    ·rw [H2 e3]; unfold Em
     by_cases e2:r≠k∧r < m
     ·rw [M0 e2,C0]
     ·rw [K0 e2,B0]
  ·show Tb T' n w _
   refine h.congr fun r j hr hc=>?_
   unfold Em
   by_cases e:r≠k∧r < m
   ·rw [M0 e,C0]
   ·rw [K0 e,B0]
theorem TB {T:L2} {A:Mx} (hT:Tb T n w A) {c k:Nat} (hc:c < w) (hk:k≤n) (hn:n≤1000):
  Ret (loop (m_e7 T (c:Int)) (k:Int)) (fun i=>∃ r:Nat,i=(r:Int)∧k≤r∧((r=n∧∀ r,k≤r→r < n→A r c=0)∨(r < n∧A r c≠0))):=by
 refine Q0 (n - k) (fun m (i:Int)=>i=((k+m:Nat):Int)∧∀ r,k≤r→r < k+m→A r c=0) ⟨rfl,fun r h1 h2=>absurd h1 A0⟩ ?_ A0
 rintro m _ hm ⟨rfl,h0⟩
 unfold m_e7
 rw [J0,O0,hT.1]
 refine ⟨fun hlt=>?_,fun hge=>?_⟩
 ·have hkn:k+m < n:=A0
  rw [J0]; refine hT.get hkn fun l _ hl=>?_
  rw [J0]; refine hl.get hc ?_
  rw [D4,O0]
  refine ⟨fun hz=>?_,fun hz=>?_⟩
  ·have hz:A (k+m) c=0:=by simpa using hz
   refine ⟨_,rfl,A0,by rw [U0 A0 A0]; omega,fun r h1 h2=>?_⟩
   by_cases e:r=k+m
   ·rw [e]; exact hz
   ·exact h0 r h1 A0
  ·exact ⟨_,rfl,k+m,rfl,A0,.inr ⟨hkn,by simpa using hz⟩⟩
 ·rw [D4,K0 H0]
  exact ⟨_,rfl,k+m,rfl,A0,.inl ⟨A0,fun r h1 h2=>h0 r h1 A0⟩⟩
def EchR (p:Int) (n w:Nat) (A:Mx) (o:L2×LI×Int) (k:Nat) (B:Mx) (col:Nat→Nat) (c:Nat):Prop:=
 Tb o.1 n w B∧Rre p n w B col k c∧Rq p n w A B∧Pv o.2.1 k col∧(0≤o.2.2∧o.2.2 < p)∧(k=c→Cg p (det n A) (o.2.2*det n B))
theorem PC {T:L2} {X:Mx} (hn:0 < n) (hT:Tb T n w X):m_ex T=some (w:Int):=Vj hn hT
theorem dz (hp:0 < p) (hm:p≤2147483647) (hn2:n≤1000) (hw:w≤1000) {T:L2} {X:Mx} (hT:Tb T n w X):Ret (loop (m_fa T p) ([],0)) (fun R=>Tb R n w (Rd p X)):=by
 refine Q0 n (fun k (s:L2×Int)=>s.2=(k:Int)∧Tb s.1 k w (Rd p X)) ⟨rfl,rfl,fun r h=>absurd h A0⟩ ?_ A0
 rintro k ⟨R,_⟩ hk ⟨rfl,h⟩
 unfold m_fa
 simp only at h ⊢
 rw [O0,hT.1]
 refine ⟨fun hlt=>?_,fun _=>⟨_,rfl,by show Tb R n w _; have:k=n:=A0; exact this▸h⟩⟩
 have hkn:k < n:=A0
 rw [J0]
 refine (Q0 (Post:=fun o=>Ln o w (Rd p X k)) w (fun j (s:LI×Int)=>s.2=(j:Int)∧Ln s.1 j (Rd p X k)) ⟨rfl,rfl,fun c h=>absurd h A0⟩ ?_ A0).mono fun o ho=>?_
 ·rintro j ⟨o,_⟩ hj ⟨rfl,ho⟩
  unfold m_e9
  simp only at ho ⊢
  rw [J0]; refine hT.get hkn fun l0 _ hl0=>?_
  rw [O0,hl0.1]
  refine ⟨fun hlt=>?_,fun _=>⟨_,rfl,by show Ln o w _; have:j=w:=A0; exact this▸ho⟩⟩
  rw [J0]; refine hT.get hkn fun l _ hl=>?_
  rw [J0]; refine hl.get (show j < w by omega) ?_
  rw [Rf,Zb hp hm,obs,J0,D2]
  refine ⟨by rw [ho.1]; simp only [E2,N2]; omega,_,rfl,A0,by show wa .i64 (j:Int) 1=_; rw [U0 A0 A0]; rfl,by show (o++[_]).length=j+1; rw [P1,ho.1]; rfl,fun c hc=>?_⟩
  show (o++[X k j % p])[c]?=_
  by_cases e:c=j
  ·subst e; rw [I6 (by rw [ho.1]; omega),ho.1,E6]; rfl
  ·rw [B6 (by rw [ho.1]; omega),ho.2 c A0]
 ·rw [J0,D2]
  refine ⟨by rw [h.1]; simp only [E2,N2]; omega,_,rfl,A0,by show wa .i64 (k:Int) 1=_; rw [U0 A0 A0]; rfl,by show (R++[_]).length=k+1; rw [P1,h.1]; rfl,fun r hr=>?_⟩
  show ∃ l,(R++[o])[r]?=some l∧_
  by_cases e:r=k
  ·subst e; exact ⟨o,by rw [I6 (by rw [h.1]; omega),h.1,E6]; rfl,ho⟩
  ·obtain ⟨l,h1,h2⟩:=h.2 r A0
   exact ⟨l,by rw [B6 (by rw [h.1]; omega)]; exact h1,h2⟩
end
theorem vC {p:Int} (hP:PP p) {n w:Nat} (hn:0 < n) (hn2:n≤1000) (hw:w≤1000) {T:L2} {X:Mx} (hT:Tb T n w X):
  Ret (m_fb T p) (fun o=>∃ k B col,EchR p n w (Rd p X) o k B col w):=by
 have hp:=hP.two
 have hm:=hP.max
 unfold m_fb
 rw [J0]
 refine (dz (p:=p) A0 hm hn2 hw hT).mono fun R hR=>?_
 have hA:∀ r j,r < n→j < w→0≤Rd p X r j∧Rd p X r j < p:=fun r j _ _=>M7 _ A0
 generalize Rd p X=A at hR hA
 rw [Ic A0 A0,obs,Y4 A0 A0,J0]
 refine (Q0 (Post:=fun s:L2×Int×LI=>∃ k B col,EchR p n w A (s.1,s.2.2,s.2.1) k B col w) w (fun c (s:L2×Int×LI×Int)=>s.2.2.2=(c:Int)∧∃ k B col,EchR p n w A (s.1,s.2.2.1,s.2.1) k B col c) ⟨rfl,0,A,fun _=>0,hR,⟨A0,A0,fun s h=>absurd h A0,fun s t h1 h2=>absurd h2 A0,fun s r h=>absurd h A0,fun r j _ _ h=>absurd h A0,hA,fun s j h=>absurd h A0⟩,Rq.refl _ _ _ _,⟨rfl,fun s h=>absurd h A0⟩,⟨by show (0:Int)≤1; omega,by show (1:Int) < p; omega⟩,fun _=>by show Cg p _ (1*_); rw [E4]; exact .refl _ _⟩ ?_ A0).mono ?_
 ·rintro c ⟨T',q,pv,_⟩ hcw ⟨rfl,k,B,col,h1,h2,h3,h4,h5,h6⟩
  simp only at h1 h4 h5 h6
  unfold m_e8 m_e2
  simp only
  have hkn:=h2.kn
  rw [PC hn hT,obs,O0]
  refine ⟨fun hlt=>?_,fun hge=>⟨_,rfl,k,B,col,h1,(by have e:c=w:=A0; subst e; exact h2),h3,h4,h5,(by have e:c=w:=A0; subst e; exact h6)⟩⟩
  have hcw:c < w:=A0
  have nxt:wa .i64 (c:Int) 1=((c+1:Nat):Int):=by rw [U0 A0 A0]; rfl
  rw [J0,h4.1]
  refine (TB h1 hcw hkn A0).mono fun i hi=>?_
  obtain ⟨t,rfl,hkt,hi⟩:=hi
  rw [O0,h1.1]
  refine ⟨fun he=>?_,fun he=>?_⟩
  ·have hz:∀ r,k≤r→r < n→B r c=0:=by
    rcases hi with ⟨_,h⟩ | ⟨h,_⟩
    ·exact h
    ·omega
   have:=h2.kc
   exact ⟨_,rfl,A0,nxt,k,B,col,h1,h2.none hcw hz,h3,h4,⟨by show (0:Int)≤0; omega,by show (0:Int) < p; omega⟩,fun h=>absurd h A0⟩
  ·obtain ⟨htn,hne⟩:t < n∧B t c≠0:=by
    rcases hi with ⟨h,_⟩ | h
    ·omega
    ·exact h
   have hkn:k < n:=A0
   have key:∀ (T1:L2) (q1:Int),Tb T1 n w (sw B k t)→(0≤q1∧q1 < p)→Cg p q1 (if t=k then q else -q)→
     Ret (m_e6 pv (c:Int) p T1 q1) (VQ (fun t':L2×Int×LI×Int=>c < w∧t'.2.2.2=((c+1:Nat):Int)∧∃ k B col,EchR p n w A (t'.1,t'.2.2.1,t'.2.1) k B col (c+1)) (fun s:L2×Int×LI=>∃ k B col,EchR p n w A (s.1,s.2.2,s.2.1) k B col w)):=by
    intro T1 q1 hT1 hq1 hqq
    have hB1:∀ r' j,r' < n→j < w→0≤sw B k t r' j∧sw B k t r' j < p:=by
     intro r' j hr' hj
     unfold sw
     split
     ·exact h2.rng _ _ htn hj
     ·split
      ·exact h2.rng _ _ hkn hj
      ·exact h2.rng _ _ hr' hj
    have hpv:sw B k t k c=B t c:=by unfold sw; rw [M0 rfl]
    have hb:=hB1 k c hkn hcw
    obtain ⟨f,hf1,hf2,hf3⟩:=Fs hP (a:=sw B k t k c) ⟨by rw [hpv] at hb ⊢; omega,hb.2⟩
    have hfc:Cg p (sw B k t k c*f) 1:=by
     have e1:(1:Int) % p=1:=Y4 A0 A0
     exact Cg.iff.2 (by rw [hf3,e1])
    unfold m_e6 m_e2
    rw [h4.1,J0]; refine hT1.get hkn fun l1 hl1 hl1'=>?_
    rw [J0]; refine hl1'.get hcw ?_
    rw [wmr hm hq1 hb,obs,J0]; refine hT1.get hkn fun l2 hl2 hl2'=>?_
    rw [J0]; refine hl2'.get hcw ?_
    rw [Vy hP hb,hf1,obs,J0]
    refine (iy A0 hm hT1 hkn (fun j hj=>hB1 k j hkn hj) hf2 h4.1 hw).mono fun T2 hT2=>?_
    rw [J0]
    refine (sC A0 hm hT2 hkn hcw (fun r' j hr' hj=>?_) h4.1 hw hn2).mono fun T3 hT3=>?_
    ·by_cases e:r'=k
     ·subst e; rw [C2]; exact M7 _ A0
     ·rw [H2 e]; exact hB1 r' j hr' hj
    rw [J0,D2]
    have:=h2.kc
    refine ⟨by rw [h4.1]; simp only [E2,N2]; omega,_,rfl,hcw,nxt,k+1,_,_,hT3,h2.next hp hcw hkn hkt htn hf3,h3.trans (Rq.sw3 hkn htn hfc),h4.push,M7 _ A0,fun hkc=>?_⟩
    refine (det_next hkn htn hfc (h6 A0)).trans ?_
    refine Cg.mul ?_ (Cg.refl p _)
    exact ((hqq.symm.mul (Cg.refl p _))).trans (Cg.mod p _).symm
   rw [O0]
   refine ⟨fun heq=>?_,fun hneq=>?_⟩
   ·have htk:t=k:=A0
    subst htk
    refine key _ _ ?_ h5 ?_
    ·rw [Ci]; exact h1
    ·rw [M0 rfl]; exact .refl _ _
   ·have htk:t≠k:=A0
    rw [J0]; refine h1.get hkn fun lk hlk hlk'=>?_
    rw [J0]; refine h1.get htn fun la hla hla'=>?_
    rw [J0,K4]
    refine ⟨A0,by rw [h1.1]; omega,?_⟩
    rw [J0,K4]
    refine ⟨A0,by rw [O3,h1.1]; omega,?_⟩
    rw [Rf,Zb A0 hm,obs]
    refine key _ _ ?_ (M7 _ A0) ?_
    ·rw [A1,A1]
     refine ((h1.set htn hlk').set hkn hla').congr fun r' j _ _=>?_
     unfold sw up
     by_cases e1:r'=k
     ·simp only [e1,if_true]
     ·by_cases e2:r'=t
      ·simp only [e1,if_false]
      ·simp only [e1,e2,if_false]
    ·rw [K0 htk]
     have:wneg .i64 q= -q:=IntWalk.i64_in _ ⟨A0,A0⟩
     rw [this]
     exact Cg.mod p _
 ·rintro ⟨T',q,pv⟩ h
  exact ⟨_,rfl,h⟩
section
variable {p:Int} {n:Nat} {T:L2} {X Y:Mx}
theorem jq (hP:PP p) (hn:0 < n) (hn2:n≤200) (hT:Tb T n n X):m_h7 T p=some 0:=by
 unfold m_h7
 rw [Ut hP hn hn2 hn2 hT,obs,M0 rfl,Vj hn hT,obs,obs,hT.1,K0 H0]
end
end Km
namespace Dt
section
open Sx Go M Vc Km
variable {p:Int} {n:Nat} {T:L2} {X Y:Mx}
theorem Rre.id {B:Mx} {col:Nat→Nat} (h:Rre p n n B col n n):∀ s,s < n→col s=s:=by
 intro s hs
 have h1:=h.ge s hs
 have h2:∀ d,s+d < n→col s+d≤col (s+d):=by
  intro d
  induction d with
  | zero=>intro _; exact O2 _
  | succ d ih=>intro hd; have:=h.asc (s+d) (s+(d+1)) A0 A0; have:=ih A0; omega
 have h3:=h2 (n - 1 - s) A0
 have h4:=h.lt (n - 1) A0
 rw [show s+(n - 1 - s)=n - 1 by omega] at h3
 omega
end
end Dt
namespace Km
open Sx Go M Vc Dt
section
variable {p:Int} {n:Nat} {T:L2} {X Y:Mx}
theorem GC {B:Mx} {r:Nat} (hr:r < n) (hz:∀ j,j < n→B r j=0):det n B=0:=by
 have h1:=(K9 n).scale hr B 0
 rw [Q3] at h1
 rw [← h1]
 refine A5 fun i j hi hj=>?_
 by_cases e:i=r
 ·subst e; rw [C2,Q3,hz j hj]
 ·rw [H2 e]
theorem det_ok (hP:PP p) (hn:0 < n) (hn2:n≤200) (hT:Tb T n n X):∃ d R o,m_it T p=some (d,0)∧(0≤d∧d < p)∧Cg p (det n X) d∧m_ic T p=some R∧m_is R p=some o∧(d≠0↔o.2.1.length=n):=by
 have hp:=hP.two
 obtain ⟨R,o,hR,hRT,hEo,k,B,col,e1,e2,e3,e4,e5,e6,u,hu⟩:=Ct hP hn hn2 A0 hT
 have hX:Cg p (det n X) (det n (Rd p X)):=Cg.det fun i j _ _=>(Cg.mod p _).symm
 have hkn:=e2.kn
 by_cases hk:k=n
 ·subst hk
  refine ⟨o.2.2,R,o,?_,e5,?_,hR,hEo,⟨fun _=>e4.1,fun _ h0=>?_⟩⟩
  ·unfold m_it
   rw [jq hP hn hn2 hT,obs,M0 rfl,hR,obs,hEo,obs,e4.1,hT.1,B0]
  ·have h1:det k B=1:=by
    rw [← Dg k]
    refine A5 fun i j hi hj=>?_
    have:=e2.unit j i hj hi
    rw [e2.id j hj] at this
    rw [this]; rfl
   rw [h1,C6] at e6
   exact hX.trans e6
  ·rw [h0,Q3] at hu
   have:=Cg.iff.1 hu
   rw [Ua,Y4 A0 A0] at this
   omega
 ·refine ⟨0,R,o,?_,⟨A0,A0⟩,?_,hR,hEo,⟨fun h=>absurd rfl h,fun h=>absurd (e4.1.symm.trans h) hk⟩⟩
  ·unfold m_it
   rw [jq hP hn hn2 hT,obs,M0 rfl,hR,obs,hEo,obs,e4.1,hT.1,C0]
  ·have h1:det n B=0:=GC (r:=n - 1) A0 fun j hj=>e2.zero (n - 1) j A0 A0 hj
   rw [h1,w4] at e6
   exact hX.trans e6
theorem KC (hP:PP p):m_it [] p=some (1,0):=by
 unfold m_it m_h7 m_h6
 have h1:m_h1 []=some 0:=rfl
 have h2:m_h5 [] 0=some false:=I0
 have h3:m_ic [] p=some []:=by
  refine Ret.eq ?_
  unfold m_ic
  rw [J0]
  refine (Q0 (Post:=fun R=>R=[]) 0 (fun k (s:L2×Int)=>s=([],0)) rfl ?_ A0).mono fun R h=>⟨_,rfl,h⟩
  rintro k _ hk rfl
  exact ⟨_,rfl,rfl⟩
 have h4:m_is [] p=some ([],[],1):=by
  refine Ret.eq ?_
  unfold m_is
  rw [h1,obs,J0]
  refine (Q0 (Post:=fun o=>o=([],[],1)) 0 (fun k (s:L2×LI×Int×Int)=>s=([],[],1,0)) rfl ?_ A0).mono fun o h=>by subst h; exact ⟨_,rfl,rfl⟩
  rintro k _ hk rfl
  exact ⟨_,rfl,rfl⟩
 rw [h1,obs,Es hP,obs,M0 rfl,h2,obs,K0 H0,K0 (by decide),obs,M0 rfl,obs,obs,K0 (by decide),obs,M0 rfl,h3,obs,h4,obs]
 rfl
end
open Lm
theorem sqb {i:Int} (h2:2≤i) (h3:i≤46342):0≤i*i∧i*i≤46342*46342:=⟨K3 A0 A0,J8 h3 h3 A0 A0⟩
theorem Ej (x:Int):m_hc x=some false∨(m_hc x=some true∧PP x):=by
 by_cases hx:x < 2∨2147483647 < x
 ·refine .inl ?_
  unfold m_hc
  rw [M0 (by simpa using hx)]
 ·have hx:2≤x∧x≤2147483647:=A0
  obtain ⟨P,rfl⟩:=W5 (show 0≤x by omega)
  have h:Ret (loop (m_hb (P:Int)) 2) (fun o=>o=.inl ()→∀ d,2≤d→d*d≤P→¬ d ∣ P):=by
   refine Vb (fun i=>(2≤i∧i≤46342)∧∀ d:Nat,2≤d→(d:Int) < i→¬ d ∣ P) (fun i=>(46342 - i).toNat) ⟨by decide,fun d h1 h2=>absurd h2 A0⟩ (by decide) ?_
   rintro i ⟨⟨h2,h3⟩,h0⟩
   obtain ⟨h4,h5⟩:=sqb h2 h3
   unfold m_hb
   rw [K8 A0 A0]
   split
   ·rename_i hle
    have h6:i≤46341:=by
     refine H1 fun hc=>?_
     obtain rfl:i=46342:=A0
     omega
    rw [Ic A0 A0,obs]
    split
    ·exact ⟨_,rfl,fun h=>by cases h⟩
    ·rename_i hne
     refine ⟨_,rfl,?_⟩
     rw [U0 A0 A0]
     refine ⟨⟨⟨A0,A0⟩,fun d hd1 hd2 hd3=>?_⟩,by show (46342 - (i+1)).toNat < (46342 - i).toNat; omega⟩
     by_cases e:(d:Int)=i
     ·apply hne
      rw [← e]
      exact VD (by exact_mod_cast hd3)
     ·exact h0 d hd1 A0 hd3
   ·rename_i hgt
    refine ⟨_,rfl,fun _ d hd1 hd2=>h0 d hd1 ?_⟩
    refine H1 fun hc=>?_
    have:i*i≤(d:Int)*(d:Int):=J8 A0 A0 A0 A0
    have h9:((d*d:Nat):Int)≤(P:Int):=A0
    simp at h9
    omega
  obtain ⟨o,ho,hpo⟩:=h
  unfold m_hc
  rw [K0 (by simp; omega),ho,obs]
  cases o with
  | inr u=>exact .inl rfl
  | inl u=>exact .inr ⟨rfl,hx.1,hx.2,Nt.Prm.of (by rw [A1]; omega) (by rw [A1]; exact hpo rfl)⟩
theorem Xi {p:Int} (hp:PP p):m_hc p=some true:=by
 rcases Ej p with h | ⟨h,_⟩
 ·exfalso
  unfold m_hc at h
  have h2:=hp.two
  have h3:=hp.max
  rw [K0 (by simp; omega)] at h
  obtain ⟨P,rfl⟩:=W5 (show 0≤p by omega)
  have key:Ret (loop (m_hb (P:Int)) 2) (fun o=>o=.inl ()):=by
   refine Vb (fun i=>2≤i∧i≤46342) (fun i=>(46342 - i).toNat) (by decide) (by decide) ?_
   rintro i ⟨h2,h3⟩
   obtain ⟨h4,h5⟩:=sqb h2 h3
   unfold m_hb
   rw [K8 A0 A0]
   split
   ·rename_i hle
    have h6:i≤46341:=by
     refine H1 fun hc=>?_
     obtain rfl:i=46342:=A0
     omega
    rw [Ic A0 A0,obs]
    split
    ·rename_i h0
     exfalso
     have hd:i ∣ (P:Int):=tl h0
     obtain ⟨I,rfl⟩:=W5 (show 0≤i by omega)
     have hd':I ∣ P:=by exact_mod_cast hd
     have:=hp.prm.div I (by simpa using hd')
     rw [A1] at this
     rcases this with e | e
     ·omega
     ·subst e
      have:(I:Int)*2≤(I:Int)*(I:Int):=B3 A0 A0
      omega
    ·refine ⟨_,rfl,?_⟩
     rw [U0 A0 A0]
     exact ⟨⟨A0,A0⟩,by show (46342 - (i+1)).toNat < (46342 - i).toNat; omega⟩
   ·exact ⟨_,rfl,rfl⟩
  obtain ⟨o,ho,rfl⟩:=key
  rw [ho,obs] at h
  cases h
 ·exact h
theorem Rz:PP 2147483647:=⟨by decide,by decide,Nt.Nz⟩
theorem isp:m_hc 2147483647=some true:=Xi Rz
theorem ar (s:Bool) (l:LI):m_h0 s l 2147483647=(m_hz s l 2147483647).bind fun r=>some (r,0):=by
 unfold m_h0
 rw [isp,obs,M0 rfl]
theorem Tt (T:L2):m_h6 T 2147483647=(m_h1 T).bind fun r4=>(m_h5 T r4).bind fun r8=>if r8=true then some 5 else if ((decide ((200:Int) < (T.length:Int))) || (decide ((200:Int) < r4)))=true then some 6 else some 0:=by
 unfold m_h6
 rw [isp]
 cases m_h1 T with
 | none=>rfl
 | some c=>rw [obs,obs,obs,M0 rfl]
theorem Dr:Ret (m_kg 2147483648 5) (fun l=>l.length≤5∧l[0]?=some 2147483647∧∀ p,p∈l→PP p):=by
 have e1:imin (ws .i64 2147483648 1) 2147483647=2147483647:=I0
 have e5:imin 5 100=5:=I0
 unfold m_kg
 rw [B0,e1,J0]
 refine (Vb (Post:=fun (l:LI)=>l.length≤5∧l[0]?=some 2147483647∧∀ p,p∈l→PP p) (fun (s:LI×Int)=>s.1.length≤5∧s.2≤2147483647∧(s.1=[]∧s.2=2147483647∨s.1[0]?=some 2147483647)∧∀ p,p∈s.1→PP p) (fun s=>s.2.toNat) ⟨by decide,by decide,.inl ⟨rfl,rfl⟩,fun p hp=>by cases hp⟩ (by decide) ?_).mono fun l h=>⟨_,rfl,h⟩
 rintro ⟨l,i⟩ ⟨h1,h2,h3,h4⟩
 simp only at h1 h2 h3 h4
 unfold m_kf
 simp only
 rw [e5,O0]
 refine ⟨fun hc=>?_,fun hc=>⟨_,rfl,h1,?_,h4⟩⟩
 ·simp only [V3,decide_eq_true_eq] at hc
  obtain ⟨hc1,hc2⟩:=hc
  have ew:ws .i64 i 1=i - 1:=V2 A0 A0
  rcases Ej i with hp | ⟨hp,hP⟩
  ·rw [hp,obs,K0 H0]
   refine ⟨_,rfl,⟨h1,by show ws .i64 i 1≤_; omega,?_,h4⟩,by show (ws .i64 i 1).toNat < i.toNat; omega⟩
   rcases h3 with ⟨_,rfl⟩ | h3
   ·rw [isp] at hp; cases hp
   ·exact .inr h3
  ·rw [hp,obs,M0 rfl,J0,D2]
   refine ⟨G0,_,rfl,⟨by show (l++[i]).length≤5; rw [P1]; simp only [E2,N2]; omega,by show ws .i64 i 1≤_; omega,?_,?_⟩,by show (ws .i64 i 1).toNat < i.toNat; omega⟩
   ·rcases h3 with ⟨rfl,rfl⟩ | h3
    ·exact .inr rfl
    ·exact .inr (by show (l++[i])[0]?=_; rw [B6 (by have:=(S2.1 h3).1; exact this)]; exact h3)
   ·intro p hp
    rcases Z6.1 hp with hp | hp
    ·exact h4 p hp
    ·rw [w6.1 hp]; exact hP
 ·rcases h3 with ⟨rfl,rfl⟩ | h3
  ·exfalso; apply hc; decide
  ·exact h3
def exM:List (List (Bool×LI)):=[[(false,[1]),(false,[2])],[(false,[2]),(false,[4])]]
def exK:List (List (Bool×LI)):=[[(true,[2]),(false,[1])]]
theorem iC:m_kj exM 2147483647=some [[1,2],[2,4]]:=by
 delta m_kj m_ki m_kh
 simp only [ar]
 kernel_rfl
theorem xt:m_ko [[1,2],[2,4]] 2147483647=some [0]:=by
 delta m_ko m_kn m_kl
 simp only [Tt]
 kernel_rfl
theorem eC:m_kr [[1,2],[2,4]] 2=some [[1,2],[2,4]]:=I0
theorem lC:m_iw exM 1 2147483647 [0] [0] exK=some true:=by
 delta m_iw m_iv m_iu m_it m_h7
 simp only [ar,Tt]
 kernel_rfl
def exV:LI:=[4607182418800017408,4611686018427387904,4611686018427387904,4616189618054758400]
theorem qt:m_ha 2 2 [0,2,4] [0,1,0,1] exV=some (exM,0,0):=I0
theorem mC:m_kd exM 2=some exK:=I0
theorem fC:m_ku 2 2 [0,2,4] [0,1,0,1] exV=some ([(true,[2]),(false,[1])],true,0):=I0
theorem IA {σ ρ:Type} {step:σ→Option (σ⊕ρ)} {s:σ} {o:ρ} (h:step s=some (.inr o)):loop step s=some o:=
 Ret.eq (Q0 0 (fun _ t=>t=s) rfl (by rintro k _ hk rfl; rw [h]; exact ⟨_,rfl,rfl⟩) A0)
theorem kC:m_kt 2 2 [0,2,4] [0,1,0,1] exV=some (1,2147483647,[0],[0],exK,0):=by
 obtain ⟨l,h1,h2,h3,h4⟩:=Dr
 have hl:0 < l.length:=(S2.1 h3).1
 have hg:getI l 0=some 2147483647:=h3
 unfold m_kt
 rw [qt,obs]
 simp only [if_true]
 rw [mC,obs,h1,obs,IA (o:=.inr (2147483647,[0],[0]))]
 ·rfl
 ·unfold m_ks
  rw [C0,hg,obs]
  simp only
  rw [iC,obs,xt,obs,M0 I0,eC,obs,xt,obs]
theorem nC:m_jt 2 2 [0,2,4] [0,1,0,1] exV 1 2147483647 [0] [0] exK=some true:=by
 unfold m_jt
 rw [qt,obs]
 simp only [if_true]
 rw [isp,obs,obs,K0 H0,show m_he [0] 1 2=some true by kernel_rfl,obs,M0 rfl,obs,obs,K0 H0,lC,obs,obs,K0 H0]
 kernel_rfl
theorem ex_b:((getI [(true,[(2:Int)]),(false,[1])] 0).bind fun x39=>(m_j (-2)).bind fun r41=>(m_kx x39.1 x39.2 r41.1 r41.2).bind fun r43=>some r43)=some true:=I0
theorem eD:m_ky=some true:=by
 unfold m_ky
 rw [show m_bz 2 0=some 4611686018427387904 by kernel_rfl,obs,show m_bz 4 0=some 4616189618054758400 by kernel_rfl,obs]
 have hR:=kC
 have hS:=fC
 have hC:=nC
 unfold exV at hR hS hC
 rw [hR,obs,hS,obs]
 simp only [hC,ex_b,if_true,decide_true,obs,show exK.length=1 from rfl,E2,N2]
 rfl
namespace Gm
theorem B8 {α:Type} {l:List α} {k:Nat} (h:k < l.length):getI l (k:Int)=some l[k]:=by show l[k]?=_; simp [h]
theorem U2 {α β:Type} {e:Option α} {f:α→Option β} {x:α} (h:e=some x):e.bind f=f x:=by rw [h,obs]
def InW (n:Int):Prop:=-9223372036854775808≤n∧n≤9223372036854775807
theorem Ye {x y:Int} (h:InW (x - y)):ws .i64 x y=x - y:=IntWalk.i64_in _ h
theorem wa1 {k:Nat} (h:k < 4611686018427387904):wa .i64 (k:Int) 1=((k+1:Nat):Int):=by rw [U0 A0 A0]; rfl
theorem KA (x y:Int):m_fn x y=some (decide (x < y)):=by
 unfold m_fn m_fm; simp
theorem Mg {l:LI} (h:l.Pairwise (· < ·)) {i j:Nat} (hj:j < l.length) (hij:i < j):l[i] < l[j]:=
 FD.1 h i j A0 hj hij
theorem kd {l:LI} {n:Nat} (h:l.Pairwise (· < ·)) (hr:∀ x,x∈l→0≤x∧x < n):l.length≤n:=by
 have key:∀ i,∀ hi:i < l.length,(i:Int)≤l[i]:=by
  intro i
  induction i with
  | zero=>intro hi; have:=hr _ (z6 hi); omega
  | succ i ih=>
   intro hi
   have h1:=ih A0
   have h2:=Mg h hi (i:=i) A0
   omega
 by_cases h0:l.length=0
 ·omega
 ·have h1:=key (l.length - 1) A0
  have h2:=hr _ (z6 (show l.length - 1 < l.length by omega))
  omega
def off (E:L2) (j:Nat):Nat:=(E.take j).flatten.length
structure Mv (R C:Nat) (E:L2) (st ix vl:LI):Prop where
 len:E.length=C
 asc:∀ l,l∈E→l.Pairwise (· < ·)
 rng:∀ l,l∈E→∀ i,i∈l→0≤i∧i < (R:Int)
 ixe:ix=E.flatten
 sl:st.length=C+1
 ste:∀ j,j≤C→st[j]?=some (off E j:Int)
 vle:vl.length=ix.length
 fin:∀ v,v∈vl→m_fv v=some false
theorem cj {E:L2} {j:Nat} {l:LI} (h:E[j]?=some l):off E (j+1)=off E j+l.length:=by
 unfold off
 rw [tks h,Yk,P1]
 simp
theorem pe {E:L2} {i j:Nat} (h:i≤j):off E i≤off E j:=by
 unfold off
 have:E.take i <+: E.take j:=by
  rw [show i=min i j by omega,← ah]
  exact List.take_prefix _ _
 obtain ⟨t,ht⟩:=this
 rw [← ht,Yk,P1]
 omega
theorem oe (E:L2) {j:Nat}:off E j≤E.flatten.length:=by
 have h:=pe (E:=E) (i:=j) (j:=max j E.length) A0
 unfold off at h ⊢
 rw [y9 (l:=E) (i:=max j E.length) A0] at h
 exact h
theorem Mr (E:L2):off E E.length=E.flatten.length:=by
 unfold off; rw [E8]
theorem Gi:∀ {E:L2} {j:Nat} {l:LI},E[j]?=some l→(E.flatten.take (off E (j+1))).drop (off E j)=l
 | [],j,l,h=>by simp at h
 | x::E,0,l,h=>by
  have:x=l:=by simpa using h
  subst this
  simp [off]
 | x::E,j+1,l,h=>by
  have h1:=Gi (E:=E) (j:=j) (l:=l) (by simpa using h)
  have e1:∀ j,off (x::E) (j+1)=x.length+off E j:=fun j=>by simp [off]
  rw [e1,e1,List.flatten_cons,CD,MD]
  exact h1
theorem Gx {st:LI} (hl:st.length≤100000) (h:∀ k,∀ hk:k+1 < st.length,st[k]≤st[k+1]):m_fp st=some true:=by
 unfold m_fp
 cases st with
 | nil=>
  have h1:loop (m_fo []) (ws .i64 (([]:LI).length:Int) 1)=some (.inl ()):=by
   refine Ret.eq ?_
   refine Q0 0 (fun k (t:Int)=>t= -1) (by rw [Ye (by constructor<;>simp)]; rfl) ?_
   rintro k _ hk rfl
   unfold m_fo
   rw [B0,D4,Ba]
  rw [U2 h1]
 | cons x r=>
  have e0:ws .i64 (((x::r).length:Nat):Int) 1=(r.length:Int):=by
   simp only [E2] at hl ⊢
   rw [Ye (by constructor<;>omega)]
   omega
  have hrl:r.length≤100000:=by simp at hl; omega
  have h1:loop (m_fo (x::r)) (ws .i64 (((x::r).length:Nat):Int) 1)=some (.inl ()):=by
   refine Ret.eq ?_
   refine Q0 r.length (fun k (t:Int)=>t=((r.length - k:Nat):Int)) (by rw [e0]; simp) ?_
   rintro k _ hk rfl
   unfold m_fo
   simp only [E2] at hl
   by_cases hkn:k < r.length
   ·have e1:ws .i64 ((r.length - k:Nat):Int) 1=((r.length - (k+1):Nat):Int):=by
     rw [Ye (by constructor<;>omega)]
     omega
    have i1:r.length - k < (x::r).length:=by simp; omega
    have i2:r.length - (k+1) < (x::r).length:=by simp; omega
    have h2:=h (r.length - (k+1)) (by simp; omega)
    have h3:¬ (x::r)[r.length - k] < (x::r)[r.length - (k+1)]:=by
     have:(x::r)[r.length - (k+1)+1]'(by simp; omega)=(x::r)[r.length - k]:=by congr 1; omega
     rw [this] at h2
     omega
    rw [C0,U2 (B8 i1),e1,U2 (B8 i2),U2 (KA _ _),K0 (by simpa using h3),D4,Ca]
    exact ⟨hkn,rfl⟩
   ·rw [B0,D4,Ba]
  rw [U2 h1]
theorem QC {l:LI} {R:Nat} (h:l.Pairwise (· < ·)) (hr:∀ x,x∈l→0≤x∧x < (R:Int)) (hl:l.length≤100000):loop (m_fq l (R:Int)) (-1,0)=some (.inl ()):=by
 refine Ret.eq ?_
 refine Q0 l.length (fun k (t:Int×Int)=>t.2=(k:Int)∧(t.1= -1∨(0 < k∧l[k - 1]?=some t.1))∧(k=0→t.1= -1)) ⟨rfl,.inl rfl,fun _=>rfl⟩ ?_
 rintro k ⟨a,b⟩ hk ⟨e1,e2,e3⟩
 simp only at e1 e2 e3
 subst e1
 unfold m_fq
 simp only
 by_cases hkn:k < l.length
 ·have hw:wa .i64 (k:Int) 1=((k+1:Nat):Int):=wa1 A0
  have hx:=hr _ (z6 hkn)
  have hlt:a < l[k]:=by
   rcases e2 with h1 | ⟨h1,h2⟩
   ·omega
   ·rw [U3 A0] at h2
    have:=Mg h (i:=k - 1) (j:=k) hkn A0
    have:=N3 h2
    omega
  have hc:¬ ((decide (l[k]≤a)) || (decide ((R:Int)≤l[k])))=true:=by
   simp only [H5,decide_eq_true_eq]
   omega
  rw [C0,U2 (B8 hkn),K0 hc,hw,D4,Ca]
  exact ⟨hkn,rfl,.inr ⟨A0,H0⟩,fun h=>A0⟩
 ·rw [B0,D4,Ba]
theorem oA {vl:LI} (h:∀ v,v∈vl→m_fv v=some false) (hl:vl.length≤100000):m_fy vl=some false:=by
 have h1:loop (m_fw vl) 0=some (.inl ()):=by
  refine Ret.eq ?_
  refine Q0 vl.length (fun k (t:Int)=>t=(k:Int)) rfl ?_
  rintro k _ hk rfl
  unfold m_fw
  by_cases hkn:k < vl.length
  ·have hw:wa .i64 (k:Int) 1=((k+1:Nat):Int):=wa1 A0
   rw [C0,U2 (B8 hkn),U2 (h _ (z6 hkn)),K0 H0,hw,D4,Ca]
   exact ⟨hkn,rfl⟩
  ·rw [B0,D4,Ba]
 unfold m_fy m_fx
 rw [U2 h1]
 rfl
theorem DA {R C:Nat} {E:L2} {st ix vl:LI} (h:Mv R C E st ix vl) (hR:R≤200) (hC:C≤200) (hix:ix.length≤10000):m_fz (R:Int) (C:Int) st ix vl=some 0:=by
 have hlen:=h.len
 have hsl:=h.sl
 have w1:m_fl (R:Int) 0 200=some true:=by
  unfold m_fl
  have a1:decide ((0:Int)≤(R:Int))=true:=by simp
  have a2:decide ((R:Int)≤200)=true:=by simp; omega
  rw [a1,a2]; rfl
 have w2:m_fl (C:Int) 0 200=some true:=by
  unfold m_fl
  have a1:decide ((0:Int)≤(C:Int))=true:=by simp
  have a2:decide ((C:Int)≤200)=true:=by simp; omega
  rw [a1,a2]; rfl
 have hcols:loop (m_fr (C:Int) st ix (R:Int)) 0=some (.inl ()):=by
  refine Ret.eq ?_
  refine Q0 C (fun k (t:Int)=>t=(k:Int)) rfl ?_
  rintro k _ hk rfl
  unfold m_fr
  by_cases hkn:k < C
  ·have hw:wa .i64 (k:Int) 1=((k+1:Nat):Int):=wa1 A0
   have g1:getI st (k:Int)=some (off E k:Int):=h.ste k A0
   have g2:getI st ((k+1:Nat):Int)=some (off E (k+1):Int):=h.ste (k+1) A0
   have hl:E[k]?=some E[k]:=by simp [hlen,hkn]
   have o1:=pe (E:=E) (i:=k) (j:=k+1) A0
   have o2:=oe E (j:=k+1)
   have hsl:sli ix (off E k:Int) (off E (k+1):Int)=some E[k]:=by
    unfold sli subL
    rw [M0 (by rw [h.ixe]; omega),h.ixe]
    simp only [A1]
    rw [Gi hl]
   have hm:=z6 (l:=E) (n:=k) A0
   have:=kd (h.asc _ hm) (h.rng _ hm)
   rw [C0,U2 g1,hw,U2 g2,U2 hsl,U2 (QC (h.asc _ hm) (h.rng _ hm) A0),D4,Ca]
   exact ⟨hkn,rfl⟩
  ·rw [B0,D4,Ba]
 have g0:getI st 0=some 0:=by
  have:=h.ste 0 A0
  exact this
 have gC:getI st (C:Int)=some (ix.length:Int):=by
  have:=h.ste C A0
  rw [← hlen,Mr,← h.ixe] at this
  rw [← hlen]
  exact this
 have hsrt:m_fp st=some true:=by
  refine Gx A0 fun k hk=>?_
  have a1:=h.ste k A0
  have a2:=h.ste (k+1) A0
  rw [U3 A0] at a1 a2
  have:=N3 a1
  have:=N3 a2
  have:=pe (E:=E) (i:=k) (j:=k+1) A0
  omega
 have hmc:m_fs (R:Int) (C:Int) st ix vl=some true:=by
  unfold m_fs
  have hw:wa .i64 (C:Int) 1=((C+1:Nat):Int):=wa1 A0
  rw [hw,C0,U2 g0,obs]
  simp only [decide_true,W7]
  rw [K0 H0,U2 hsrt,obs]
  simp only [W7]
  rw [K0 H0,U2 gC,obs]
  simp only [decide_true,W7]
  rw [K0 H0,obs,h.vle]
  simp only [decide_true,W7]
  rw [K0 H0,U2 hcols]
 unfold m_fz
 rw [U2 w1,M0 rfl,U2 w2,obs]
 have hc:¬ ((!true) || (decide ((10000:Int) < (ix.length:Int))))=true:=by
  simp only [H5,decide_eq_true_eq,W7]
  rintro (h | h)
  ·cases h
  ·omega
 rw [K0 hc,U2 hmc,M0 rfl,U2 (oA h.fin (by have:=h.vle; omega)),K0 H0]
section
variable {R C:Nat} {E:L2} {st ix vl:LI}
theorem Mv.at_ (h:Mv R C E st ix vl) {j:Nat} {l:LI} (hl:E[j]?=some l) {k:Nat} (hk:k < l.length):ix[off E j+k]?=l[k]?:=by
 have h1:=Gi hl
 have h2:=cj hl
 rw [h.ixe]
 have:l[k]?=((E.flatten.take (off E (j+1))).drop (off E j))[k]?:=by rw [h1]
 rw [this,G8,A6]
 rw [C0]
theorem Mv.start (h:Mv R C E st ix vl) {j:Nat} (hj:j≤C):getI st (j:Int)=some (off E j:Int):=h.ste j hj
end
def RF (vl:LI):Prop:=∀ v,v∈vl→m_d v=some true
theorem RB {vl:LI} (h:RF vl) (hl:vl.length≤100000):m_b7 vl=some true:=by
 have h1:loop (m_b6 vl) 0=some (.inl ()):=by
  refine Ret.eq ?_
  refine Q0 vl.length (fun k (t:Int)=>t=(k:Int)) rfl ?_
  rintro k _ hk rfl
  unfold m_b6
  by_cases hkn:k < vl.length
  ·have hw:wa .i64 (k:Int) 1=((k+1:Nat):Int):=wa1 A0
   rw [C0,U2 (B8 hkn),U2 (h _ (z6 hkn)),M0 rfl,hw,D4,Ca]
   exact ⟨hkn,rfl⟩
  ·rw [B0,D4,Ba]
 unfold m_b7
 rw [U2 h1]
section
variable {R C:Nat} {E:L2} {st ix vl:LI}
theorem dC (h:Mv R C E st ix vl) (hR:R≤100000) (hx:ix.length≤100000) (hC:C≤100000) {j:Nat} (hj:j < C):loop (m_b8 st (j:Int) ix (R:Int)) (off E j:Int)=some (.inl ()):=by
 have hl:E[j]?=some (E[j]'(by rw [h.len]; exact hj)):=U3 (by rw [h.len]; exact hj)
 generalize E[j]'(by rw [h.len]; exact hj)=l at hl
 have hos:=cj hl
 have hot:=oe E (j:=j+1)
 have hxl:off E (j+1)≤100000:=by rw [← h.ixe] at hot; omega
 have hasc:=h.asc l (U9 hl)
 have hrng:=h.rng l (U9 hl)
 refine Ret.eq ?_
 refine Q0 l.length (fun k (t:Int)=>t=((off E j+k:Nat):Int)) rfl ?_
 rintro k _ hk rfl
 unfold m_b8
 have hwj:wa .i64 (j:Int) 1=((j+1:Nat):Int):=wa1 A0
 rw [hwj,U2 (h.start A0)]
 by_cases hkl:k < l.length
 ·have hw:wa .i64 ((off E j+k:Nat):Int) 1=((off E j+(k+1):Nat):Int):=by rw [wa1 A0]; omega
  have hg:getI ix ((off E j+k:Nat):Int)=some l[k]:=(h.at_ hl hkl).trans (U3 hkl)
  have hr:=hrng _ (z6 hkl)
  rw [C0,U2 hg,B0,U2 hg,obs,decide_eq_false A0,K0 H0,U2 (h.start A0)]
  by_cases hk0:k=0
  ·subst hk0
   rw [B0,obs,obs,K0 H0,hw,D4,Ca]
   exact ⟨hkl,rfl⟩
  ·have hws:ws .i64 ((off E j+k:Nat):Int) 1=((off E j+(k - 1):Nat):Int):=by rw [Ye (by constructor<;>omega)]; omega
   have hg2:getI ix ((off E j+(k - 1):Nat):Int)=some (l[k - 1]'(A0)):=(h.at_ hl A0).trans (U3 A0)
   have hlt:=Mg hasc (i:=k - 1) (j:=k) hkl A0
   rw [C0,U2 hg,hws,U2 hg2,obs,decide_eq_false A0,obs,K0 H0,hw,D4,Ca]
   exact ⟨hkl,rfl⟩
 ·rw [B0,D4,Ba]
theorem cC (h:Mv R C E st ix vl) (hR:R≤200) (hC:C≤200) (hx:ix.length≤10000) (hf:RF vl):m_cb (R:Int) (C:Int) st ix vl=some 0:=by
 have hsl:=h.sl
 have hvl:=h.vle
 have g0:getI st 0=some 0:=h.ste 0 A0
 have gC:getI st (C:Int)=some (ix.length:Int):=by
  have:=h.ste C A0
  rw [← h.len,Mr,← h.ixe] at this
  rw [← h.len]
  exact this
 have hw:wa .i64 (C:Int) 1=((C+1:Nat):Int):=wa1 A0
 have l1:loop (m_ca (C:Int) st) 0=some (.inl ()):=by
  refine Ret.eq ?_
  refine Q0 C (fun k (t:Int)=>t=(k:Int)) rfl ?_
  rintro k _ hk rfl
  unfold m_ca
  by_cases hkn:k < C
  ·have hwk:wa .i64 (k:Int) 1=((k+1:Nat):Int):=wa1 A0
   have o1:=pe (E:=E) (i:=k) (j:=k+1) A0
   rw [C0,U2 (h.start A0),hwk,U2 (h.start A0),B0,D4,Ca]
   exact ⟨hkn,rfl⟩
  ·rw [B0,D4,Ba]
 have l2:loop (m_b9 (C:Int) st ix (R:Int)) 0=some (.inl ()):=by
  refine Ret.eq ?_
  refine Q0 C (fun k (t:Int)=>t=(k:Int)) rfl ?_
  rintro k _ hk rfl
  unfold m_b9
  by_cases hkn:k < C
  ·have hwk:wa .i64 (k:Int) 1=((k+1:Nat):Int):=wa1 A0
   rw [C0,U2 (h.start A0),U2 (dC h A0 A0 A0 hkn),hwk,D4,Ca]
   exact ⟨hkn,rfl⟩
  ·rw [B0,D4,Ba]
 unfold m_cb
 rw [K0 (by simp only [H5,decide_eq_true_eq]; omega),hw,K0 (by simp only [H5,I7,decide_eq_false_iff_not]; omega),U2 g0,obs]
 simp only [decide_true,W7]
 rw [K0 H0,U2 gC,obs]
 simp only [decide_true,W7]
 rw [K0 H0,U2 l1]
 simp only
 rw [U2 l2]
 simp only
 rw [U2 (RB hf A0),M0 rfl]
end
end Gm
open Gm
theorem bc (x:Int) {n:Nat} (h0:0 < n) (h1:n < 9223372036854775808):∃ z:Nat,m_a x (n:Int)=some (z:Int)∧z < n:=by
 unfold m_a
 rw [P2 (x:=(n:Int)) ⟨A0,A0⟩,wh]
 have h2:=L3 x (show (18446744073709551616:Int)≠0 by omega)
 generalize x % 18446744073709551616=y at*
 unfold wr
 rw [B0,obs,Gb h2]
 have h3:=L3 y (show (n:Int)≠0 by omega)
 have h4:=M3 y (show (0:Int) < n by omega)
 exact ⟨(y % n).toNat,by rw [M8 ⟨A0,A0⟩]; congr 1; omega,A0⟩
def U64 (x:Int):Prop:=0≤x∧x < 18446744073709551616
theorem iw (x y:Int):U64 (wxor .u64 x y):=by
 unfold wxor U64
 rw [IntKind.wrap_u64]
 omega
theorem Ze (l:LI) (k:Int) (hl:l.length < 9223372036854775808):Ret (m_c l k) U64:=by
 have hj:∀ x,Ret (m_b x) U64:=fun x=>⟨_,rfl,iw _ _⟩
 unfold m_c
 rw [O0]
 refine ⟨fun h0=>?_,fun _=>hj _⟩
 obtain ⟨z,h1,h2⟩:=bc k (n:=l.length) A0 hl
 rw [h1,obs,U2 (B8 h2)]
 exact hj _
theorem Gf.mono {a b a' b':Nat} {f:Int} (h:Gf a b f) (h1:a'≤a) (h2:b≤b'):Gf a' b' f:=by
 rcases h with h | ⟨s,e,m,hs,h3,h4,hm,hf⟩
 ·exact .inl h
 ·exact .inr ⟨s,e,m,hs,A0,A0,hm,hf⟩
theorem Gf.fin {a b:Nat} {f:Int} (h:Gf a b f) (ha:0 < a) (hb:b < 2047):m_fv f=some false∧m_d f=some true:=by
 rcases h with rfl | ⟨s,e,m,hs,h1,h2,hm,rfl⟩
 ·exact ⟨I0,I0⟩
 ·unfold m_fv m_fu m_ft m_d
  rw [obs,obs,xg hs A0 hm,M8 ⟨A0,A0⟩]
  simp only
  rw [decide_eq_false A0]
  exact ⟨rfl,rfl⟩
def gfB (f:Int):Bool:=decide (0≤f∧f < 18446744073709551616) && (decide (f=0) || decide (980≤f / 4503599627370496 % 2048∧f / 4503599627370496 % 2048≤1066))
theorem DB {f:Int} (h:gfB f=true):Gf 980 1066 f:=by
 unfold gfB at h
 simp only [V3,H5,decide_eq_true_eq] at h
 obtain ⟨⟨h0,h1⟩,h2 | h2⟩:=h
 ·exact .inl h2
 ·obtain ⟨s,e,m,hs,he,hm,rfl⟩:=jt h0 h1
  refine .inr ⟨s,e,m,hs,?_,?_,hm,rfl⟩<;>(unfold Fl Fn_ at h2; omega)
theorem Hx:(List.range 19).all (fun n=>match m_bz ((n:Int) - 9) 0 with | some f=>gfB f | none=>false)=true:=I0
theorem Ix {x:Int} (hx:U64 x):Ret (m_b0 x) (Gf 980 1066):=by
 unfold U64 at hx
 have e1:wrc x 19=x % 19:=Gb hx.1
 have h2:=L3 x (show (19:Int)≠0 by omega)
 have h3:=M3 x (show (0:Int) < 19 by omega)
 have h4:=E7.1 Hx (x % 19).toNat (M6.2 A0)
 rw [Me h2] at h4
 unfold m_b0
 rw [e1,M8 ⟨A0,A0⟩,V2 A0 A0]
 split at h4
 ·rename_i f hf
  rw [hf,obs]
  exact ⟨f,rfl,DB h4⟩
 ·cases h4
theorem gA {x:Int} (hx:U64 x) {st:Nat} (hst:st < 3):Ret (m_b1 x (st:Int)) (Gf 980 1066):=by
 obtain ⟨z,h1,h2⟩:=bc (st:Int) (n:=4) A0 A0
 have hz:(z:Int)=(st:Int):=by
  have:m_a (st:Int) ((4:Nat):Int)=some (st:Int):=by
   rcases (show st=0∨st=1∨st=2 by omega) with rfl | rfl | rfl<;>kernel_rfl
  rw [this] at h1
  exact (N3 h1).symm
 rw [hz] at h1
 unfold U64 at hx
 obtain ⟨s,e,m,hs,he,hm,rfl⟩:=jt hx.1 hx.2
 unfold m_b1
 rw [show (4:Int)=((4:Nat):Int) from rfl,h1,obs]
 rcases (show st=0∨st=1∨st=2 by omega) with rfl | rfl | rfl
 ·rw [B0,B0,B0,J0]
  exact (Ix hx).mono fun f hf=>⟨f,rfl,hf⟩
 ·rw [C0]
  have e1:wand .u64 (wsrc .u64 (Fl s e m) 52) 7=(((2048*s+e) % 8:Nat):Int):=by
   rw [Xs hs he hm,show (7:Int)=((7:Nat):Int) from rfl,Nd (x:=2048*s+e) (y:=7) A0 A0]
   exact Z0 _ (vd (2048*s+e) 3)
  have e2:wslc .u64 (wa .u64 1019 (((2048*s+e) % 8:Nat):Int)) 52=((4503599627370496*(1019+(2048*s+e) % 8):Nat):Int):=by
   rw [Q6 ⟨A0,A0⟩]
   unfold wslc
   show IntKind.u64.wrap (_*2 ^ 52)=_
   rw [IntWalk.u64_in _ A0]
   omega
  have e3:=Zs hs he hm (q:=0) A0 (e':=1019+(2048*s+e) % 8) A0 (y:=9227875636482146303) (by decide) (by decide)
  rw [e1,e2]
  exact ⟨_,rfl,.inr ⟨s,1019+(2048*s+e) % 8,m / 1 ,hs,A0,A0,A0,by rw [show (9227875636482146303:Int)=((9227875636482146303:Nat):Int) from rfl,e3]; congr 1; omega⟩⟩
 ·rw [B0,C0]
  have e0:wsrc .u64 (Fl s e m) 8=((Fn_ s e m / 256:Nat):Int):=by
   unfold wsrc Fl
   show Int.fdiv _ (2 ^ 8)=_
   rw [Gd _ A0]
   rfl
  have e1:wrc (wsrc .u64 (Fl s e m) 8) 81=((Fn_ s e m / 256 % 81:Nat):Int):=by
   rw [e0]
   show Int.tmod _ 81=_
   rw [Gb A0]
   rfl
  generalize hr:Fn_ s e m / 256 % 81=r at e1
  have hr2:r < 81:=A0
  have e2:wslc .u64 (wa .u64 983 (r:Int)) 52=((4503599627370496*(983+r):Nat):Int):=by
   rw [Q6 ⟨A0,A0⟩]
   unfold wslc
   show IntKind.u64.wrap (_*2 ^ 52)=_
   rw [IntWalk.u64_in _ A0]
   omega
  have e3:=Zs hs he hm (q:=51) A0 (e':=983+r) A0 (y:=9225623836668461056) (by decide) (by decide)
  rw [e1,e2]
  exact ⟨_,rfl,.inr ⟨s,983+r,2 ^ 51*(m / 2 ^ 51),hs,A0,A0,A0,by rw [show (9225623836668461056:Int)=((9225623836668461056:Nat):Int) from rfl,e3]⟩⟩
structure Pm (a b R C:Nat) (E:L2) (st ix vl:LI):Prop where
 mv:Mv R C E st ix vl
 gf:∀ v,v∈vl→Gf a b v
 le:ix.length≤R*C
theorem Pm.zero (a b R:Nat):Pm a b R 0 [] [0] [] []:=⟨⟨rfl,(by intro l h; cases h),(by intro l h; cases h),rfl,rfl,(by
 intro j hj
 obtain rfl:j=0:=A0
 rfl),rfl,(by intro l h; cases h)⟩,(by intro l h; cases h),oc _⟩
theorem Pm.snoc {a b R C:Nat} {E:L2} {st ix vl l u:LI} (h:Pm a b R C E st ix vl) (ha:0 < a) (hb:b < 2047) (hs:l.Pairwise (· < ·)) (hr:∀ x,x∈l→0≤x∧x < (R:Int)) (hu:u.length=l.length) (hg:∀ v,v∈u→Gf a b v):Pm a b R (C+1) (E++[l]) (st++[((ix++l).length:Int)]) (ix++l) (vl++u):=by
 have hl:=kd hs hr
 refine ⟨⟨by rw [P1,h.mv.len]; rfl,?_,?_,by rw [Yk,← h.mv.ixe]; simp,by rw [P1,h.mv.sl]; rfl,?_,by rw [P1,P1,h.mv.vle,hu],?_⟩,?_,?_⟩
 ·intro m hm
  rcases Z6.1 hm with hm | hm
  ·exact h.mv.asc m hm
  ·rw [w6.1 hm]; exact hs
 ·intro m hm
  rcases Z6.1 hm with hm | hm
  ·exact h.mv.rng m hm
  ·rw [w6.1 hm]; exact hr
 ·intro j hj
  have hoff:∀ j,j≤C→off (E++[l]) j=off E j:=by
   intro j hj
   unfold off
   rw [DD (by rw [h.mv.len]; exact hj)]
  by_cases hj2:j≤C
  ·rw [B6 (by rw [h.mv.sl]; omega),h.mv.ste j hj2,hoff j hj2]
  ·obtain rfl:j=C+1:=A0
   rw [I6 (by rw [h.mv.sl]; omega),h.mv.sl,E6]
   have e1:off (E++[l]) (C+1)=(ix++l).length:=by
    unfold off
    rw [y9 (by rw [P1,h.mv.len]; exact O2 _),Yk,← h.mv.ixe]
    simp
   rw [e1]; rfl
 ·intro v hv
  rcases Z6.1 hv with hv | hv
  ·exact h.mv.fin v hv
  ·exact ((hg v hv).fin ha hb).1
 ·intro v hv
  rcases Z6.1 hv with hv | hv
  ·exact h.gf v hv
  ·exact hg v hv
 ·rw [P1,Nat.mul_add,Ee]
  have:=h.le
  omega
theorem FB (l:LI) (hl:l.length < 9223372036854775808) {r c st:Nat} (hr:r≤20) (hc:c≤20) (hst:st < 3):Ret (m_b5 l (r:Int) (c:Int) (st:Int)) (fun o=>o.1=(r:Int)∧o.2.1=(c:Int)∧∃ E,Pm 980 1066 r c E o.2.2.1 o.2.2.2.1 o.2.2.2.2):=by
 unfold m_b5
 rw [J0]
 refine (Q0 (Post:=fun o:LI×LI×LI=>∃ E,Pm 980 1066 r c E o.1 o.2.1 o.2.2) c (fun k (t:LI×LI×LI×Int)=>t.2.2.2=(k:Int)∧∃ E,Pm 980 1066 r k E t.1 t.2.1 t.2.2.1) ⟨rfl,[],Pm.zero ..⟩ ?_ A0).mono ?_
 ·rintro k ⟨sl,ix,vl,_⟩ hk ⟨rfl,E,hE⟩
  simp only at hE
  unfold m_b4
  simp only
  rw [O0]
  refine ⟨fun hlt=>?_,fun hge=>⟨_,rfl,by obtain rfl:k=c:=A0; exact ⟨E,hE⟩⟩⟩
  have hrk:r*k≤400:=N9 (D8 hr (by omega:k≤20)) A0
  have hle:=hE.le
  have hvl:=hE.mv.vle
  have hsl:=hE.mv.sl
  rw [J0]
  refine (Q0 (Post:=fun o:LI×LI=>∃ u v:LI,o=(ix++u,vl++v)∧u.Pairwise (· < ·)∧(∀ x,x∈u→0≤x∧x < (r:Int))∧v.length=u.length∧∀ f,f∈v→Gf 980 1066 f) r (fun i (t:LI×LI×Int)=>t.2.2=(i:Int)∧∃ u v:LI,t.1=ix++u∧t.2.1=vl++v∧u.Pairwise (· < ·)∧(∀ x,x∈u→0≤x∧x < (i:Int))∧v.length=u.length∧∀ f,f∈v→Gf 980 1066 f) ⟨rfl,[],[],H0,H0,List.Pairwise.nil,(by intro x h; cases h),rfl,(by intro x h; cases h)⟩ ?_ A0).mono ?_
  ·rintro i ⟨_,_,_⟩ hi ⟨rfl,u,v,rfl,rfl,h1,h2,h3,h4⟩
   unfold m_b3
   simp only
   rw [O0]
   refine ⟨fun hlt=>?_,fun hge=>⟨_,rfl,u,v,rfl,h1,fun x hx=>by have:=h2 x hx; omega,h3,h4⟩⟩
   have hul:=kd h1 h2
   rw [J0]
   refine (Ze l _ hl).mono fun x hx=>?_
   have hnext:wa .i64 (i:Int) 1=((i+1:Nat):Int):=wa1 A0
   rw [O0]
   refine ⟨fun hp=>?_,fun hp=>?_⟩
   ·rw [J0,D2]
    refine ⟨by rw [P1]; simp only [E2,N2]; omega,?_⟩
    rw [J0]
    refine (gA hx hst).mono fun f hf=>?_
    rw [J0,D2]
    refine ⟨by rw [P1]; simp only [E2,N2]; omega,_,rfl,A0,hnext,u++[(i:Int)],v++[f],H0,H0,?_,?_,by simp [h3],?_⟩
    ·rw [Ge]
     exact ⟨h1,bh ..,fun x hx y hy=>by rw [w6.1 hy]; exact (h2 x hx).2⟩
    ·intro y hy
     rcases Z6.1 hy with hy | hy
     ·have:=h2 y hy; omega
     ·rw [w6.1 hy]; omega
    ·intro y hy
     rcases Z6.1 hy with hy | hy
     ·exact h4 y hy
     ·rw [w6.1 hy]; exact hf
   ·exact ⟨_,rfl,A0,hnext,u,v,rfl,rfl,h1,fun x hx=>by have:=h2 x hx; omega,h3,h4⟩
  ·rintro _ ⟨u,v,rfl,h1,h2,h3,h4⟩
   simp only
   have hul:=kd h1 h2
   rw [J0,D2]
   refine ⟨G0,_,rfl,A0,wa1 A0,E++[u],hE.snoc A0 A0 h1 h2 h3 h4⟩
 ·rintro ⟨sl,ix,vl⟩ ⟨E,hE⟩
  exact ⟨_,rfl,rfl,rfl,E,hE⟩
section
variable {a b R C:Nat} {E:L2} {st ix vl:LI}
theorem Pm.rf (h:Pm a b R C E st ix vl) (ha:0 < a) (hb:b < 2047):RF vl:=fun v hv=>((h.gf v hv).fin ha hb).2
theorem Pm.chk (h:Pm a b R C E st ix vl) (hR:R≤20) (hC:C≤20):m_fz (R:Int) (C:Int) st ix vl=some 0:=
 DA h.mv A0 A0 (by have:=h.le; have:=D8 hR hC; omega)
theorem Pm.rchk (h:Pm a b R C E st ix vl) (ha:0 < a) (hb:b < 2047) (hR:R≤20) (hC:C≤20):m_cb (R:Int) (C:Int) st ix vl=some 0:=
 cC h.mv A0 A0 (by have:=h.le; have:=D8 hR hC; omega) (h.rf ha hb)
theorem fD (h:Pm a b R C E st ix vl) (ha:0 < a) (hb:b < 2047) (hR:R≤20) (hC:C≤20) (i:Int) {j:Nat} (hj:j < C):Ret (m_cd (R:Int) (C:Int) st ix vl i (j:Int)) (Gf a b):=by
 have hle:ix.length≤400:=N9 h.le (D8 hR hC)
 have hvl:=h.mv.vle
 unfold m_cd
 rw [h.rchk ha hb hR hC,obs,K0 (by simp; omega),U2 (h.mv.start A0)]
 have o1:=pe (E:=E) (i:=j) (j:=j+1) A0
 have o2:=oe E (j:=j+1)
 rw [← h.mv.ixe] at o2
 have hL:Ret (loop (m_cc st (j:Int) ix i vl) (off E j:Int)) (fun o=>∀ v,o=.inr v→Gf a b v):=by
  refine Q0 (off E (j+1) - off E j) (fun k (t:Int)=>t=((off E j+k:Nat):Int)) rfl ?_ A0
  rintro k _ hk rfl
  unfold m_cc
  rw [wa1 A0,U2 (h.mv.start A0),O0]
  refine ⟨fun hlt=>?_,fun _=>⟨_,rfl,fun v hv=>by cases hv⟩⟩
  rw [U2 (B8 A0),O0]
  refine ⟨fun _=>?_,fun _=>⟨_,rfl,A0,by rw [wa1 A0]; rfl⟩⟩
  rw [U2 (B8 A0)]
  exact ⟨_,rfl,fun v hv=>by cases hv; exact h.gf _ (z6 _)⟩
 rw [J0]
 refine hL.mono fun o ho=>?_
 cases o with
 | inl u=>exact ⟨_,rfl,.inl rfl⟩
 | inr v=>exact ⟨_,rfl,ho v rfl⟩
end
theorem jy {f:Int} (h:Gf 980 1066 f) {k:Int} (hk: -3≤k∧k≤3):Ret (m_ck f k 0) (Gf 977 1069):=by
 rcases h with rfl | ⟨s,e,m,hs,h1,h2,hm,rfl⟩
 ·exact ⟨0,ay k,.inl rfl⟩
 ·obtain ⟨s',m',a1,a2,a3⟩:=ky hs (e:=e) A0 A0 hm (k:=k) A0
  exact ⟨_,a3,.inr ⟨s',_,m',a1,A0,A0,a2,rfl⟩⟩
theorem Yz (l:LI) (hl:l.length < 9223372036854775808) (x3 x4 x5:Int) (low:Bool):Ret (m_co l x3 x4 x5 low) (fun o=>∃ R C E,R≤4∧C≤4∧o.1=((R:Nat):Int)∧o.2.1=((C:Nat):Int)∧Pm 977 1069 R C E o.2.2.1 o.2.2.2.1 o.2.2.2.2):=by
 obtain ⟨st,a1,a2⟩:=bc x5 (n:=3) A0 A0
 obtain ⟨R,b1,b2⟩:=bc x3 (n:=5) A0 A0
 obtain ⟨C,c1,c2⟩:=bc x4 (n:=5) A0 A0
 obtain ⟨g,d1,d2,d3,E,d4⟩:=FB l hl (r:=R) (c:=C) (st:=st) A0 A0 a2
 unfold m_co
 rw [show (3:Int)=((3:Nat):Int) from rfl,a1,obs,show (5:Int)=((5:Nat):Int) from rfl,b1,obs,c1,obs,d1,obs,O0]
 refine ⟨fun _=>?_,fun _=>⟨_,rfl,R,C,E,A0,A0,d2,d3,⟨d4.mv,fun v hv=>(d4.gf v hv).mono A0 A0,d4.le⟩⟩⟩
 rw [J0]
 refine (Q0 (Post:=fun o:LI×LI×LI=>∃ E,Pm 977 1069 R C E o.1 o.2.1 o.2.2) C (fun k (t:LI×LI×LI×Int)=>t.2.2.2=(k:Int)∧∃ E,Pm 977 1069 R k E t.1 t.2.1 t.2.2.1) ⟨rfl,[],Pm.zero ..⟩ ?_ A0).mono ?_
 ·rintro k ⟨sl,ix,vl,_⟩ hk ⟨rfl,E',hE⟩
  simp only at hE
  unfold m_cn
  simp only
  rw [d3,O0]
  refine ⟨fun hlt=>?_,fun hge=>⟨_,rfl,by obtain rfl:k=C:=A0; exact ⟨E',hE⟩⟩⟩
  have hrk:R*k≤400:=N9 (D8 (by omega:R≤20) (by omega:k≤20)) A0
  have hle:=hE.le
  have hvl:=hE.mv.vle
  have hsl:=hE.mv.sl
  have hj9:∀ j:Nat,j < C→Ret (m_cm l (k:Int) g ix vl sl (j:Int)) (VQ (fun t':LI×LI×LI×Int=>k < C∧t'.2.2.2=((k+1:Nat):Int)∧∃ E,Pm 977 1069 R (k+1) E t'.1 t'.2.1 t'.2.2.1) (fun o:LI×LI×LI=>∃ E,Pm 977 1069 R C E o.1 o.2.1 o.2.2)):=by
   intro j hj
   unfold m_cm
   rw [J0]
   refine (Ze l _ hl).mono fun x hx=>?_
   unfold U64 at hx
   have e1:wrc x 7=x % 7:=Gb hx.1
   have h2:=L3 x (show (7:Int)≠0 by omega)
   have h3:=M3 x (show (0:Int) < 7 by omega)
   rw [J0]
   refine (Q0 (Post:=fun o:LI×LI=>∃ u v:LI,o=(ix++u,vl++v)∧u.Pairwise (· < ·)∧(∀ x,x∈u→0≤x∧x < (R:Int))∧v.length=u.length∧∀ f,f∈v→Gf 977 1069 f) R (fun i (t:LI×LI×Int)=>t.2.2=(i:Int)∧∃ u v:LI,t.1=ix++u∧t.2.1=vl++v∧u.Pairwise (· < ·)∧(∀ x,x∈u→0≤x∧x < (i:Int))∧v.length=u.length∧∀ f,f∈v→Gf 977 1069 f) ⟨rfl,[],[],H0,H0,List.Pairwise.nil,(by intro x h; cases h),rfl,(by intro x h; cases h)⟩ ?_ A0).mono ?_
   ·rintro i ⟨_,_,_⟩ hi ⟨rfl,u,v,rfl,rfl,h1,h2',h3',h4⟩
    unfold m_cl
    simp only
    rw [d2,d3,O0]
    refine ⟨fun hlt=>?_,fun hge=>⟨_,rfl,u,v,rfl,h1,fun x hx=>by have:=h2' x hx; omega,h3',h4⟩⟩
    have hul:=kd h1 h2'
    have hnext:wa .i64 (i:Int) 1=((i+1:Nat):Int):=wa1 A0
    rw [J0,D2]
    refine ⟨by rw [P1]; simp only [E2,N2]; omega,?_⟩
    rw [J0]
    refine (fD d4 A0 A0 A0 A0 (i:Int) hj).mono fun f hf=>?_
    rw [e1,M8 ⟨A0,A0⟩,V2 A0 A0,J0]
    refine (jy hf A0).mono fun f' hf'=>?_
    rw [J0,D2]
    refine ⟨by rw [P1]; simp only [E2,N2]; omega,_,rfl,A0,hnext,u++[(i:Int)],v++[f'],H0,H0,?_,?_,by simp [h3'],?_⟩
    ·rw [Ge]
     exact ⟨h1,bh ..,fun x hx y hy=>by rw [w6.1 hy]; exact (h2' x hx).2⟩
    ·intro y hy
     rcases Z6.1 hy with hy | hy
     ·have:=h2' y hy; omega
     ·rw [w6.1 hy]; omega
    ·intro y hy
     rcases Z6.1 hy with hy | hy
     ·exact h4 y hy
     ·rw [w6.1 hy]; exact hf'
   ·rintro _ ⟨u,v,rfl,h1,h2,h3,h4⟩
    simp only
    have hul:=kd h1 h2
    rw [J0,D2]
    refine ⟨G0,_,rfl,A0,wa1 A0,E'++[u],hE.snoc A0 A0 h1 h2 h3 h4⟩
  have hB:Ret (if (0:Int) < (k:Int) then (m_c l (wa .i64 800 (k:Int))).bind fun r158=>some (decide ((wrc r158 2)=0)) else some false) (fun r=>r=true→0 < k):=by
   rw [O0]
   refine ⟨fun h0=>?_,fun _=>⟨_,rfl,fun h=>by cases h⟩⟩
   rw [J0]
   exact (Ze l _ hl).mono fun x _=>⟨_,rfl,fun _=>A0⟩
  rw [J0]
  refine hB.mono fun r155 h155=>?_
  rw [O0]
  refine ⟨fun h1=>?_,fun _=>hj9 k A0⟩
  have h0:=h155 h1
  rw [J0]
  refine (Ze l _ hl).mono fun x hx=>?_
  unfold U64 at hx
  rw [P2 (x:=(k:Int)) ⟨A0,A0⟩]
  unfold wr
  have h3:=L3 x (show (k:Int)≠0 by omega)
  have h4:=M3 x (show (0:Int) < k by omega)
  rw [B0,obs,Gb hx.1,M8 ⟨A0,A0⟩,show x % (k:Int)=((x % (k:Int)).toNat:Int) by omega]
  exact hj9 _ A0
 ·rintro ⟨sl,ix,vl⟩ ⟨E',hE⟩
  exact ⟨_,rfl,R,C,E',A0,A0,d2,d3,hE⟩
def ex (f:Int):Option Int:=(m_ci f).bind fun d=>(m_cp d.1 d.2.1 d.2.2.1 d.2.2.2).bind fun g=>if g=0 then none else some d.2.2.2
def nm (sh f:Int):Int:=((ex f).bind fun e=>(m_ci f).bind fun d=>some (sv d.2.1 d.2.2.1*2 ^ (e - sh).toNat)).getD 0
theorem Gf.ex {f:Int} (h:Gf 977 1069 f):∃ d g,m_g0 f=some d∧m_ci f=some d∧m_g1 d.1 d.2.1 d.2.2.1 d.2.2.2=some g∧m_cp d.1 d.2.1 d.2.2.1 d.2.2.2=some g∧((g=0∧Km.ex f=none)∨(g≠0∧Km.ex f=some d.2.2.2∧∃ (k:Nat) (u:Int),d.2.2.2= -98+k∧k≤300∧Bg u d.2.1 d.2.2.1∧(-9007199254740992 < u∧u < 9007199254740992)∧-(2 ^ 145) < u*2 ^ k∧u*2 ^ k < 2 ^ 145)):=by
 obtain ⟨v,d,hF⟩:=h.dy A0 A0 A0
 obtain ⟨g,g1,g2,g3⟩:=hF.sign A0
 have e1:Km.ex f=if g=0 then none else some d.2.2.2:=by
  unfold Km.ex
  rw [hF.r,obs,g2,obs]
 refine ⟨d,g,hF.p,hF.r,g1,g2,?_⟩
 by_cases h0:g=0
 ·exact .inl ⟨h0,by rw [e1,M0 h0]⟩
 ·refine .inr ⟨h0,by rw [e1,K0 h0],?_⟩
  obtain ⟨k,u,b1,b2,b3,b4,b5,b6⟩:=hF.bg fun hv=>h0 (g3.2 hv)
  rw [b4] at b6
  exact ⟨k,u,by rw [b1]; rfl,b2,b3,b5,b6⟩
def st (a:Int×Bool) (f:Int):Int×Bool:=match ex f with
 | none=>a
 | some e=>if a.2=true∨e < a.1 then (e,false) else a
def shf (l:LI):Int:=(l.foldl st (0,true)).1
theorem Wd {l:LI} {k:Nat} {f:Int} (h:l[k]?=some f):(l.take (k+1)).foldl st (0,true)=st ((l.take k).foldl st (0,true)) f:=by
 rw [tks h,List.foldl_append]; rfl
def Sp (l:LI) (a:Int×Bool):Prop:=(a.2=true→a.1=0∧∀ f,f∈l→ex f=none)∧(a.2=false→-98≤a.1∧∀ f e,f∈l→ex f=some e→a.1≤e)
theorem Ax {l:LI} (hg:∀ f,f∈l→Gf 977 1069 f):∀ k,k≤l.length→Sp (l.take k) ((l.take k).foldl st (0,true)):=by
 intro k
 induction k with
 | zero=>exact fun _=>⟨fun _=>⟨rfl,by intro f hf; simp at hf⟩,fun h=>by simp at h⟩
 | succ k ih=>
  intro hk
  obtain ⟨f,hf⟩:∃ f,l[k]?=some f:=⟨_,U3 A0⟩
  have hi:=ih A0
  rw [Wd hf]
  generalize (l.take k).foldl st (0,true)=a at hi
  obtain ⟨h1,h2⟩:=hi
  obtain ⟨d,g,_,_,_,_,hd⟩:=(hg f (U9 hf)).ex
  unfold st
  rcases hd with ⟨_,he⟩ | ⟨_,he,k',u,hk',_⟩
  ·rw [he]
   refine ⟨fun h=>⟨(h1 h).1,fun x hx=>?_⟩,fun h=>⟨(h2 h).1,fun x e hx hxe=>?_⟩⟩
   ·rcases (mts hf).1 hx with hx | hx
    ·exact (h1 h).2 x hx
    ·rw [hx]; exact he
   ·rcases (mts hf).1 hx with hx | hx
    ·exact (h2 h).2 x e hx hxe
    ·rw [hx,he] at hxe; cases hxe
  ·rw [he]
   simp only
   split
   ·rename_i hc
    refine ⟨fun h=>by simp at h,fun _=>⟨by show -98≤d.2.2.2; omega,fun x e hx hxe=>?_⟩⟩
    show d.2.2.2≤e
    rcases (mts hf).1 hx with hx | hx
    ·rcases hc with hc | hc
     ·rw [(h1 hc).2 x hx] at hxe; cases hxe
     ·cases ha:a.2
      ·have:=(h2 ha).2 x e hx hxe; omega
      ·rw [(h1 ha).2 x hx] at hxe; cases hxe
    ·rw [hx,he] at hxe; cases hxe; exact Qe _
   ·rename_i hc
    rw [not_or] at hc
    have ha:a.2=false:=by cases h:a.2 with | true=>exact absurd h hc.1 | false=>rfl
    refine ⟨fun h=>(by rw [ha] at h; cases h),fun _=>⟨(h2 ha).1,fun x e hx hxe=>?_⟩⟩
    rcases (mts hf).1 hx with hx | hx
    ·exact (h2 ha).2 x e hx hxe
    ·rw [hx,he] at hxe; cases hxe; omega
theorem Ji {l:LI} (hg:∀ f,f∈l→Gf 977 1069 f): -98≤shf l∧∀ f e,f∈l→ex f=some e→shf l≤e:=by
 have h:=Ax hg l.length (O2 _)
 rw [E8] at h
 unfold shf
 generalize l.foldl st (0,true)=a at h
 cases ha:a.2
 ·exact h.2 ha
 ·have:=h.1 ha
  exact ⟨A0,fun f e hf he=>by rw [this.2 f hf] at he; cases he⟩
theorem Xx {l:LI} (hl:l.length≤100000) (hg:∀ f,f∈l→Gf 977 1069 f):loop (m_g9 l) (0,true,0)=some (shf l):=by
 refine Ret.eq (Q0 l.length (fun k (t:Int×Bool×Int)=>t.2.2=(k:Int)∧(t.1,t.2.1)=(l.take k).foldl st (0,true)) ⟨rfl,rfl⟩ ?_ A0)
 rintro k ⟨s,b,_⟩ hk ⟨rfl,h1⟩
 simp only at h1
 unfold m_g9
 simp only
 rw [O0]
 refine ⟨fun hlt=>?_,fun hge=>⟨_,rfl,?_⟩⟩
 ·have hkl:k < l.length:=A0
  have hf:l[k]?=some l[k]:=U3 hkl
  obtain ⟨d,g,d1,_,d3,_,hd⟩:=(hg _ (z6 hkl)).ex
  rw [U2 (B8 hkl),d1,obs,d3,obs]
  unfold m_g8
  have hw:wa .i64 (k:Int) 1=((k+1:Nat):Int):=wa1 A0
  rw [O0]
  refine ⟨fun hc=>⟨_,rfl,hkl,hw,?_⟩,fun hc=>⟨_,rfl,hkl,hw,?_⟩⟩
  ·simp only [V3,H5,I7,decide_eq_false_iff_not,decide_eq_true_eq] at hc
   rw [Wd hf,← h1]
   unfold st
   rcases hd with ⟨h0,_⟩ | ⟨_,he,_⟩
   ·exact absurd h0 hc.1
   ·rw [he]; simp only; rw [M0 hc.2]
  ·simp only [V3,H5,I7,decide_eq_false_iff_not,decide_eq_true_eq] at hc
   rw [Wd hf,← h1]
   unfold st
   rcases hd with ⟨_,he⟩ | ⟨h0,he,_⟩
   ·rw [he]
   ·rw [he]; simp only; rw [K0 (fun h=>hc ⟨h0,h⟩)]
 ·rw [y9 A0] at h1
  exact Z0 (·.1) h1
theorem Vx {l:LI} (hl:l.length≤100000) (hg:∀ f,f∈l→Gf 977 1069 f):loop (m_c0 l) (0,false,0)=some (shf l):=by
 refine Ret.eq (Q0 l.length (fun k (t:Int×Bool×Int)=>t.2.2=(k:Int)∧(t.1,!t.2.1)=(l.take k).foldl st (0,true)) ⟨rfl,rfl⟩ ?_ A0)
 rintro k ⟨s,b,_⟩ hk ⟨rfl,h1⟩
 simp only at h1
 unfold m_c0
 simp only
 rw [O0]
 refine ⟨fun hlt=>?_,fun hge=>⟨_,rfl,?_⟩⟩
 ·have hkl:k < l.length:=A0
  have hf:l[k]?=some l[k]:=U3 hkl
  obtain ⟨d,g,_,d1,_,d3,hd⟩:=(hg _ (z6 hkl)).ex
  rw [U2 (B8 hkl),d1,obs,d3,obs]
  unfold m_cz
  have hw:wa .i64 (k:Int) 1=((k+1:Nat):Int):=wa1 A0
  rw [O0]
  refine ⟨fun hc=>⟨_,rfl,hkl,hw,?_⟩,fun hc=>⟨_,rfl,hkl,hw,?_⟩⟩
  ·simp only [V3,H5,I7,decide_eq_false_iff_not,decide_eq_true_eq] at hc
   rw [Wd hf,← h1]
   unfold st
   rcases hd with ⟨h0,_⟩ | ⟨_,he,_⟩
   ·exact absurd h0 hc.1
   ·rw [he]; simp only; rw [M0 (by rw [I7]; exact hc.2)]; rfl
  ·simp only [V3,H5,I7,decide_eq_false_iff_not,decide_eq_true_eq] at hc
   rw [Wd hf,← h1]
   unfold st
   rcases hd with ⟨_,he⟩ | ⟨h0,he,_⟩
   ·rw [he]
   ·rw [he]; simp only; rw [K0 (fun h=>hc ⟨h0,by rw [I7] at h; exact h⟩)]
 ·rw [y9 A0] at h1
  exact Z0 (·.1) h1
def look (l:List (Int×Int×Int)) (i j:Int):Int:=match l.find? (fun e=>decide (e.1=i∧e.2.1=j)) with | some e=>e.2.2 | none=>0
structure Ent (R C:Nat) (vl:LI) (l:List (Int×Int×Int)):Prop where
 rng:∀ e,e∈l→(0≤e.1∧e.1 < (R:Int))∧(0≤e.2.1∧e.2.1 < (C:Int))∧e.2.2∈vl
 dis:l.Pairwise fun a b=>¬ (a.1=b.1∧a.2.1=b.2.1)
theorem As {R C:Nat} {vl:LI} {l:List (Int×Int×Int)} (h:Ent R C vl l) {k:Nat} {e:Int×Int×Int} (he:l[k]?=some e):look (l.take k) e.1 e.2.1=0∧∀ i j,look (l.take (k+1)) i j=if i=e.1∧j=e.2.1 then e.2.2 else look (l.take k) i j:=by
 have hd:∀ x,x∈l.take k→¬ (x.1=e.1∧x.2.1=e.2.1):=by
  intro x hx
  have h1:(l.take (k+1)).Pairwise fun a b=>¬ (a.1=b.1∧a.2.1=b.2.1):=h.dis.sublist (List.take_sublist _ _)
  rw [tks he,Ge] at h1
  exact h1.2.2 x hx e H0
 have hn:(l.take k).find? (fun x=>decide (x.1=e.1∧x.2.1=e.2.1))=none:=by
  rw [List.find?_eq_none]
  intro x hx
  simpa using hd x hx
 refine ⟨by unfold look; rw [hn],fun i j=>?_⟩
 unfold look
 rw [tks he,List.find?_append]
 by_cases hij:i=e.1∧j=e.2.1
 ·rw [M0 hij,hij.1,hij.2,hn]
  simp
 ·rw [K0 hij]
  have:[e].find? (fun x=>decide (x.1=i∧x.2.1=j))=none:=by
   rw [List.find?_eq_none]
   intro x hx
   rw [w6.1 hx]
   simp only [decide_eq_true_eq]
   exact fun h=>hij ⟨h.1.symm,h.2.symm⟩
  rw [this,Option.or_none]
section
variable {R C:Nat} {E:L2} {st ix vl:LI}
theorem pC (h:Pm 977 1069 R C E st ix vl) (hR:R≤20) (hC:C≤20):∃ l,loop (m_g3 (C:Int) st ix vl) ([],0)=some l∧Ent R C vl l∧l.length≤400:=by
 have hle:ix.length≤400:=N9 h.le (D8 hR hC)
 have hvl:=h.mv.vle
 refine (Q0 (Post:=fun l=>Ent R C vl l∧l.length≤400) C (fun k (t:List (Int×Int×Int)×Int)=>t.2=(k:Int)∧Ent R k vl t.1∧t.1.length=off E k) ⟨rfl,⟨(by intro e he; cases he),List.Pairwise.nil⟩,by simp [off]⟩ ?_ A0).mono fun l h=>h
 rintro k ⟨L,_⟩ hk ⟨rfl,h1,h2⟩
 simp only at h1 h2
 have o3:=oe E (j:=k)
 rw [← h.mv.ixe] at o3
 unfold m_g3
 simp only
 rw [O0]
 refine ⟨fun hlt=>?_,fun hge=>⟨_,rfl,by obtain rfl:k=C:=A0; exact ⟨h1,A0⟩⟩⟩
 have hkC:k < C:=A0
 have hl:E[k]?=some (E[k]'(by rw [h.mv.len]; exact hkC)):=U3 (by rw [h.mv.len]; exact hkC)
 generalize E[k]'(by rw [h.mv.len]; exact hkC)=c at hl
 have hos:=cj hl
 have o2:=oe E (j:=k+1)
 rw [← h.mv.ixe] at o2
 have hasc:=h.mv.asc c (U9 hl)
 have hrng:=h.mv.rng c (U9 hl)
 rw [U2 (h.mv.start A0),J0]
 refine (Q0 (Post:=fun l=>Ent R (k+1) vl l∧l.length=off E (k+1)) c.length (fun i (t:List (Int×Int×Int)×Int)=>t.2=((off E k+i:Nat):Int)∧Ent R (k+1) vl t.1∧t.1.length=off E k+i∧∀ e,e∈t.1→e.2.1 < (k:Int)∨∃ i',i' < i∧c[i']?=some e.1) ⟨rfl,⟨fun e he=>by have:=h1.rng e he; exact ⟨this.1,A0,this.2.2⟩,h1.dis⟩,by show L.length=_; omega,fun e he=>.inl (h1.rng e he).2.1.2⟩ ?_ A0).mono ?_
 ·rintro i ⟨M,_⟩ hi ⟨rfl,g1,g2,g3⟩
  simp only at g1 g2 g3
  unfold m_g2
  simp only
  rw [wa1 A0,U2 (h.mv.start A0),O0]
  refine ⟨fun hlt=>?_,fun hge=>⟨_,rfl,g1,A0⟩⟩
  have hic:i < c.length:=A0
  have hg:getI ix ((off E k+i:Nat):Int)=some c[i]:=(h.mv.at_ hl hic).trans (U3 hic)
  rw [U2 hg,U2 (B8 A0),J0,D2]
  refine ⟨by rw [g2]; simp only [E2,N2]; omega,_,rfl,hic,by rw [wa1 A0]; rfl,⟨?_,?_⟩,by rw [P1,g2]; rfl,?_⟩
  ·intro e he
   rcases Z6.1 he with he | he
   ·exact g1.rng e he
   ·rw [w6.1 he]
    exact ⟨hrng _ (z6 hic),⟨by show (0:Int)≤k; omega,by show (k:Int) < _; omega⟩,z6 _⟩
  ·rw [Ge]
   refine ⟨g1.dis,bh ..,fun e he y hy=>?_⟩
   rw [w6.1 hy]
   rintro ⟨q1,q2⟩
   rcases g3 e he with g | ⟨i',hi',hc⟩
   ·have:e.2.1=(k:Int):=q2
    omega
   ·have:=Mg hasc hic hi'
    rw [U3 A0] at hc
    have h9:=N3 hc
    have:e.1=c[i]:=q1
    omega
  ·intro e he
   rcases Z6.1 he with he | he
   ·rcases g3 e he with g | ⟨i',hi',hc⟩
    ·exact .inl g
    ·exact .inr ⟨i',A0,hc⟩
   ·rw [w6.1 he]
    exact .inr ⟨i,A0,U3 hic⟩
 ·rintro M ⟨g1,g2⟩
  exact ⟨_,rfl,hkC,wa1 A0,g1,g2⟩
theorem Qy (h:Pm 977 1069 R C E st ix vl) (hR:R≤20) (hC:C≤20) {l:List (Int×Int×Int)} (hl:loop (m_g3 (C:Int) st ix vl) ([],0)=some l):m_cs (R:Int) (C:Int) st ix vl=some l:=by
 have e1:m_cr=m_g3:=rfl
 unfold m_cs
 rw [h.rchk A0 A0 hR hC,obs,M0 rfl,e1,hl,obs]
end
theorem gj {sh f:Int} (h:Gf 977 1069 f) (h1: -98≤sh) (h2:∀ e,ex f=some e→sh≤e):∃ d g,m_g0 f=some d∧m_ci f=some d∧m_g1 d.1 d.2.1 d.2.2.1 d.2.2.2=some g∧m_cp d.1 d.2.1 d.2.2.1 d.2.2.2=some g∧Bd (pw 5) (nm sh f)∧((g=0∧nm sh f=0)∨(g≠0∧Ret (m_gt d.2.1 d.2.2.1 (ws .i64 d.2.2.2 sh)) (fun r=>Bg (nm sh f) r.1 r.2.1)∧Ret (m_9 d.2.1 d.2.2.1 (ws .i64 d.2.2.2 sh)) (fun r=>Bg (nm sh f) r.1 r.2))):=by
 obtain ⟨d,g,a1,a2,a3,a4,hd⟩:=h.ex
 refine ⟨d,g,a1,a2,a3,a4,?_⟩
 rcases hd with ⟨h0,he⟩ | ⟨h0,he,k,u,b1,b2,b3,⟨b4,b5⟩,b6,b7⟩
 ·have e0:nm sh f=0:=by unfold nm; rw [he]; rfl
  exact ⟨by rw [e0]; have:=W1 5; exact ⟨A0,A0⟩,.inl ⟨h0,e0⟩⟩
 ·have hs:=h2 _ he
  have hn:nm sh f=u*2 ^ (d.2.2.2 - sh).toNat:=by unfold nm; rw [he,obs,a2,obs,b3.sv]; rfl
  have hl:=b3.len2 b4 b5
  have hw:ws .i64 d.2.2.2 sh=(((d.2.2.2 - sh).toNat:Nat):Int):=by rw [V2 A0 A0]; omega
  have s1:=yq (s:=d.2.1) b3.1 A0 (N:=(d.2.2.2 - sh).toNat) A0
  have s2:=Ii (s:=d.2.1) b3.1 A0 (N:=(d.2.2.2 - sh).toNat) A0
  rw [b3.sv,← hn,← hw] at s1 s2
  refine ⟨?_,.inr ⟨h0,s1.mono fun r hr=>hr.1,s2⟩⟩
  rw [hn]
  have hp:=T9 (N:=(d.2.2.2 - sh).toNat) (M:=k) A0
  have hp0:(0:Int) < 2 ^ (d.2.2.2 - sh).toNat:=C5 A0
  have h5:(2:Int) ^ 145≤pw 5:=by rw [D7]; exact T9 A0
  generalize (2:Int) ^ 145=P at*
  generalize (2:Int) ^ (d.2.2.2 - sh).toNat=Q at*
  generalize (2:Int) ^ k=S at*
  by_cases hu:0≤u
  ·have c1:u*Q≤u*S:=B3 hp hu
   have c2:0≤u*Q:=K3 hu A0
   exact ⟨A0,A0⟩
  ·have c1:u*S≤u*Q:=Int.mul_le_mul_of_nonpos_left A0 hp
   have c2:u*Q≤0:=OD A0 A0
   exact ⟨A0,A0⟩
theorem fj (sh:Int):nm sh 0=0:=by
 unfold nm ex
 rw [Yf.2,obs,zg.2,obs,M0 rfl]
 rfl
theorem Lg.ext {l m:List Nb} {w:Nat} {f:Nat→Int} (h:Lg l w f) (h':Lg m w f):l=m:=by
 refine Sa fun c=>?_
 by_cases hc:c < w
 ·obtain ⟨z,h1,h2⟩:=h.2 c hc
  obtain ⟨y,h3,h4⟩:=h'.2 c hc
  have:=h2.uniq h4
  rw [h1,h3,show z=y from Prod.ext this.1 this.2]
 ·rw [A9 (by rw [h.1]; omega),A9 (by rw [h'.1]; omega)]
theorem Tg.ext {T U:List (List Nb)} {n w:Nat} {A:Mx} (h:Tg T n w A) (h':Tg U n w A):T=U:=by
 refine Sa fun r=>?_
 by_cases hr:r < n
 ·obtain ⟨l,h1,h2⟩:=h.2 r hr
  obtain ⟨m,h3,h4⟩:=h'.2 r hr
  rw [h1,h3,h2.ext h4]
 ·rw [A9 (by rw [h.1]; omega),A9 (by rw [h'.1]; omega)]
section
variable {R C:Nat} {E:L2} {st ix vl:LI}
def im (vl:LI) (l:List (Int×Int×Int)):Mx:=fun i j=>nm (shf vl) (look l i j)
theorem wj {vl:LI} {l:List (Int×Int×Int)} (h:Ent R C vl l) (i j:Int):look l i j=0∨look l i j∈vl:=by
 unfold look
 split
 ·rename_i e he
  exact .inr (h.rng e (List.mem_of_find?_eq_some he)).2.2
 ·exact .inl rfl
theorem Xz (h:Pm 977 1069 R C E st ix vl) (hR:R≤16) (hC:C≤16) {l:List (Int×Int×Int)} (hl:loop (m_g3 (C:Int) st ix vl) ([],0)=some l) (hE:Ent R C vl l) (hll:l.length≤400):∃ T,m_ha (R:Int) (C:Int) st ix vl=some (T,shf vl,0)∧Tg T R C (im vl l):=by
 have hle:ix.length≤400:=N9 h.le (D8 (by omega:R≤20) (by omega:C≤20))
 have hvl:=h.mv.vle
 obtain ⟨s1,s2⟩:=Ji h.gf
 have hT0:Ret (loop (m_g7 (List.replicate R ([]:List Nb)) (C:Int)) (List.replicate R ([]:List Nb),0)) (fun T=>Tg T R C (fun _ _=>0)):=by
  refine Q0 R (fun k (t:List (List Nb)×Int)=>t.2=(k:Int)∧t.1.length=R∧∀ i,i < k→t.1[i]?=some (List.replicate C ((false,[]):Nb))) ⟨rfl,B5 ..,by intro i hi; omega⟩ ?_ A0
  rintro k ⟨T,_⟩ hk ⟨rfl,g1,g2⟩
  simp only at g1 g2
  unfold m_g7
  simp only
  rw [B5,O0]
  refine ⟨fun hlt=>?_,fun hge=>⟨_,rfl,g1,fun r hr=>⟨_,g2 r A0,Lg.zeros' C⟩⟩⟩
  rw [J0,Y5]
  refine ⟨A0,A0,?_⟩
  rw [A1,J0,K4,A1]
  refine ⟨A0,A0,_,rfl,A0,wa1 A0,by show (T.set k _).length=R; rw [O3,g1],fun i hi=>?_⟩
  show (T.set k _)[i]?=_
  by_cases e:i=k
  ·subst e; rw [G5 A0]
  ·rw [H6 A0]; exact g2 i A0
 have hT:∀ T0,Tg T0 R C (fun _ _=>0)→Ret (loop (m_g6 l (shf vl)) (T0,0)) (fun T=>Tg T R C (im vl l)):=by
  intro T0 hT0
  refine Q0 l.length (fun k (t:List (List Nb)×Int)=>t.2=(k:Int)∧Tg t.1 R C (im vl (l.take k))) ⟨rfl,hT0.congr fun r c _ _=>(fj _).symm⟩ ?_ A0
  rintro k ⟨T,_⟩ hk ⟨rfl,g1⟩
  simp only at g1
  unfold m_g6
  simp only
  rw [O0]
  refine ⟨fun hlt=>?_,fun hge=>⟨_,rfl,by rw [y9 A0] at g1; exact g1⟩⟩
  have hkl:k < l.length:=A0
  have he:l[k]?=some l[k]:=U3 hkl
  rw [U2 (B8 hkl)]
  have hr:=hE.rng _ (z6 hkl)
  obtain ⟨n1,n2⟩:=As hE he
  generalize l[k]=e at*
  obtain ⟨d,g,a1,a2,a3,a4,_,hd⟩:=gj (sh:=shf vl) (h.gf _ hr.2.2) s1 (fun x hx=>s2 _ x hr.2.2 hx)
  unfold m_g5
  have hw:wa .i64 (k:Int) 1=((k+1:Nat):Int):=wa1 A0
  rw [a1,obs,a3,obs,O0]
  have key:∀ i j:Nat,im vl (l.take (k+1)) i j=if (i:Int)=e.1∧(j:Int)=e.2.1 then nm (shf vl) e.2.2 else im vl (l.take k) i j:=by
   intro i j
   unfold im
   rw [n2]
   split<;>rfl
  obtain ⟨I,hI⟩:=W5 hr.1.1
  obtain ⟨J,hJ⟩:=W5 hr.2.1.1
  rcases hd with ⟨h0,hz⟩ | ⟨h0,hs,_⟩
  ·refine ⟨fun _=>⟨_,rfl,hkl,hw,g1.congr fun i j _ _=>?_⟩,fun hc=>absurd h0 hc⟩
   rw [key]
   split
   ·rename_i hij
    rw [hz]
    unfold im
    rw [hij.1,hij.2,n1,fj]
   ·rfl
  ·refine ⟨fun hc=>absurd hc h0,fun _=>?_⟩
   obtain ⟨row,r1,r2⟩:=g1.at (r:=I) A0 hI
   rw [r1,obs,J0]
   refine hs.mono fun q hq=>?_
   have hrl:=r2.1
   have hTl:=g1.1
   rw [U4 (l:=row) (k:=J) A0 hJ,obs,U4 (l:=T) (k:=I) A0 hI,obs]
   refine ⟨_,rfl,hkl,hw,(g1.set (k:=I) A0 (r2.set (c:=J) (z:=(q.1,q.2.1)) A0 hq)).congr fun i j _ _=>?_⟩
   rw [key]
   unfold up
   by_cases e1:i=I
   ·subst e1
    rw [M0 rfl]
    simp only
    by_cases e2:j=J
    ·subst e2; rw [M0 rfl,M0 ⟨hI.symm,hJ.symm⟩]
    ·rw [K0 e2,K0 (fun h=>e2 (by have:=h.2; omega))]
   ·rw [K0 e1,K0 (fun h=>e1 (by have:=h.1; omega))]
 obtain ⟨T0,t1,t2⟩:=hT0
 obtain ⟨T,t3,t4⟩:=hT T0 t2
 refine ⟨T,?_,t4⟩
 unfold m_ha
 rw [h.chk A0 A0,obs,M0 rfl,K0 (by simp only [H5,decide_eq_true_eq]; omega),Xx A0 h.gf,obs]
 have hmk:mkL ([]:List Nb) (R:Int)=some (List.replicate R []):=Ret.eq (by rw [Y5]; exact ⟨A0,A0,by rw [A1]⟩)
 have hent:m_g4 (R:Int) (C:Int) st ix vl=some l:=by unfold m_g4; rw [hl,obs]
 rw [hmk,obs,t1,obs,hent,obs,t3,obs]
def Di (D:L2) (R C:Nat) (F:Nat→Nat→Int):Prop:=D.length=R∧∀ i,i < R→∃ row,D[i]?=some row∧row.length=C∧∀ j,j < C→row[j]?=some (F i j)
theorem jz (h:Pm 977 1069 R C E st ix vl) (hR:R≤16) (hC:C≤16) {l:List (Int×Int×Int)} (hl:loop (m_g3 (C:Int) st ix vl) ([],0)=some l) (hE:Ent R C vl l) (hll:l.length≤400):∃ D,m_cv (R:Int) (C:Int) st ix vl=some (D,0)∧Di D R C (fun i j=>look l i j):=by
 have hT0:Ret (loop (m_cu (R:Int) (C:Int)) ([],0)) (fun D=>Di D R C (fun _ _=>0)):=by
  refine Q0 R (fun k (t:L2×Int)=>t.2=(k:Int)∧t.1=List.replicate k (List.replicate C 0)) ⟨rfl,rfl⟩ ?_ A0
  rintro k ⟨T,_⟩ hk ⟨rfl,g1⟩
  simp only at g1
  subst g1
  unfold m_cu
  simp only
  rw [O0]
  refine ⟨fun hlt=>?_,fun hge=>⟨_,rfl,by rw [B5]; omega,fun i hi=>⟨List.replicate C 0,by rw [Db,C0],B5 ..,fun j hj=>by rw [Db,M0 hj]⟩⟩⟩
  rw [J0,Y5]
  refine ⟨A0,A0,?_⟩
  rw [A1,J0,D2]
  refine ⟨by rw [B5]; simp only [E2,N2]; omega,_,rfl,A0,wa1 A0,?_⟩
  show List.replicate k (List.replicate C (0:Int))++[List.replicate C 0]=_
  exact Au.symm
 have hT:∀ T0,Di T0 R C (fun _ _=>0)→Ret (loop (m_ct l) (T0,0)) (fun T=>Di T R C (fun i j=>look l i j)):=by
  intro T0 hT0
  refine Q0 l.length (fun k (t:L2×Int)=>t.2=(k:Int)∧Di t.1 R C (fun i j=>look (l.take k) i j)) ⟨rfl,hT0⟩ ?_ A0
  rintro k ⟨T,_⟩ hk ⟨rfl,g1,g2⟩
  simp only at g1 g2
  unfold m_ct
  simp only
  rw [O0]
  refine ⟨fun hlt=>?_,fun hge=>⟨_,rfl,by rw [y9 A0] at g2; exact ⟨g1,g2⟩⟩⟩
  have hkl:k < l.length:=A0
  have he:l[k]?=some l[k]:=U3 hkl
  have hg:getI l (k:Int)=some l[k]:=B8 hkl
  have hr:=hE.rng _ (z6 hkl)
  obtain ⟨n1,n2⟩:=As hE he
  generalize l[k]=e at*
  obtain ⟨I,hI⟩:=W5 hr.1.1
  obtain ⟨J,hJ⟩:=W5 hr.2.1.1
  obtain ⟨row,r1,r2,r3⟩:=g2 I A0
  rw [hg,obs,W2 r1 hI,obs,obs,obs,U4 (l:=row) (k:=J) A0 hJ,obs,U4 (l:=T) (k:=I) A0 hI,obs]
  refine ⟨_,rfl,hkl,wa1 A0,by show (T.set I _).length=R; rw [O3,g1],fun i hi=>?_⟩
  show ∃ row',(T.set I (row.set J e.2.2))[i]?=some row'∧_
  by_cases e1:i=I
  ·subst e1
   refine ⟨_,by rw [G5 A0],by rw [O3]; exact r2,fun j hj=>?_⟩
   show _=some (look (l.take (k+1)) i j)
   rw [n2]
   by_cases e2:j=J
   ·subst e2; rw [G5 A0,M0 ⟨hI.symm,hJ.symm⟩]
   ·rw [H6 A0,K0 (fun h=>e2 (by have:=h.2; omega))]; exact r3 j hj
  ·obtain ⟨row',q1,q2,q3⟩:=g2 i hi
   refine ⟨row',by rw [H6 A0]; exact q1,q2,fun j hj=>?_⟩
   show _=some (look (l.take (k+1)) i j)
   rw [n2,K0 (fun h=>e1 (by have:=h.1; omega))]
   exact q3 j hj
 obtain ⟨T0,t1,t2⟩:=hT0
 obtain ⟨T,t3,t4⟩:=hT T0 t2
 refine ⟨T,?_,t4⟩
 unfold m_cv
 rw [h.rchk A0 A0 A0 A0,obs,M0 rfl,t1,obs,Qy h A0 A0 hl,obs,t3,obs]
theorem Ky (h:Pm 977 1069 R C E st ix vl) (hR:R≤16) (hC:C≤16) {l:List (Int×Int×Int)} (hl:loop (m_g3 (C:Int) st ix vl) ([],0)=some l) (hE:Ent R C vl l) (hll:l.length≤400):∃ T,m_c1 (R:Int) (C:Int) st ix vl=some (T,shf vl,0)∧Tg T R C (im vl l):=by
 have hle:ix.length≤400:=N9 h.le (D8 (by omega:R≤20) (by omega:C≤20))
 have hvl:=h.mv.vle
 obtain ⟨s1,s2⟩:=Ji h.gf
 obtain ⟨D,d1,d2,d3⟩:=jz h hR hC hl hE hll
 have hrow:∀ i,i < R→Ret (loop (m_cx (C:Int) (D,0) (i:Int) (shf vl)) ([],0)) (fun r=>Lg r C (im vl l i)):=by
  intro i hi
  obtain ⟨row,q1,q2,q3⟩:=d3 i hi
  refine Q0 C (fun k (t:List Nb×Int)=>t.2=(k:Int)∧Lg t.1 k (im vl l i)) ⟨rfl,rfl,by intro c hc; omega⟩ ?_ A0
  rintro k ⟨T,_⟩ hk ⟨rfl,g1⟩
  simp only at g1
  unfold m_cx
  simp only
  rw [O0]
  refine ⟨fun hlt=>?_,fun hge=>⟨_,rfl,by obtain rfl:k=C:=A0; exact g1⟩⟩
  have hgf:Gf 977 1069 (look l i k):=by
   rcases wj hE (i:Int) (k:Int) with h0 | h0
   ·exact .inl h0
   ·exact h.gf _ h0
  have hsh:∀ e,ex (look l i k)=some e→shf vl≤e:=by
   intro e he
   rcases wj hE (i:Int) (k:Int) with h0 | h0
   ·exfalso
    rw [h0] at he
    unfold ex at he
    rw [Yf.2,obs,zg.2,obs,M0 rfl] at he
    cases he
   ·exact s2 _ e h0 he
  obtain ⟨d,g,_,a2,_,a4,_,hd⟩:=gj (sh:=shf vl) hgf s1 hsh
  have hw:wa .i64 (k:Int) 1=((k+1:Nat):Int):=wa1 A0
  have hTl:=g1.1
  rw [W2 q1 rfl,obs,W2 (q3 k A0) rfl,obs,a2,obs,a4,obs,O0]
  unfold m_cw
  rcases hd with ⟨h0,hz⟩ | ⟨h0,_,hs⟩
  ·refine ⟨fun _=>?_,fun hc=>absurd h0 hc⟩
   rw [J0,D2]
   exact ⟨by rw [hTl]; simp only [E2,N2]; omega,_,rfl,A0,hw,g1.snoc (z:=(false,[])) (xe.cast hz.symm)⟩
  ·refine ⟨fun hc=>absurd hc h0,fun _=>?_⟩
   rw [J0]
   refine hs.mono fun q hq=>?_
   rw [J0,D2]
   exact ⟨by rw [hTl]; simp only [E2,N2]; omega,_,rfl,A0,hw,g1.snoc (z:=(q.1,q.2)) hq⟩
 have hT:Ret (loop (m_cy (R:Int) (C:Int) (D,0) (shf vl)) ([],0)) (fun T=>Tg T R C (im vl l)):=by
  refine Q0 R (fun k (t:List (List Nb)×Int)=>t.2=(k:Int)∧Tg t.1 k C (im vl l)) ⟨rfl,rfl,by intro c hc; omega⟩ ?_ A0
  rintro k ⟨T,_⟩ hk ⟨rfl,g1⟩
  simp only at g1
  unfold m_cy
  simp only
  rw [O0]
  refine ⟨fun hlt=>?_,fun hge=>⟨_,rfl,by obtain rfl:k=R:=A0; exact g1⟩⟩
  have hTl:=g1.1
  rw [J0]
  refine (hrow k A0).mono fun r hr=>?_
  rw [J0,D2]
  exact ⟨by rw [hTl]; simp only [E2,N2]; omega,_,rfl,A0,wa1 A0,g1.snoc hr⟩
 obtain ⟨T,t3,t4⟩:=hT
 refine ⟨T,?_,t4⟩
 unfold m_c1
 rw [h.rchk A0 A0 A0 A0,obs,M0 rfl,K0 (by simp only [H5,decide_eq_true_eq]; omega),Vx A0 h.gf,obs,d1,obs,t3,obs]
theorem aB (h:Pm 977 1069 R C E st ix vl) (hR:R≤16) (hC:C≤16):∃ T sh A,m_ha (R:Int) (C:Int) st ix vl=some (T,sh,0)∧m_c1 (R:Int) (C:Int) st ix vl=some (T,sh,0)∧Tg T R C A∧∀ i j,i < R→j < C→Bd (pw 5) (A i j):=by
 obtain ⟨l,l1,l2,l3⟩:=pC h A0 A0
 obtain ⟨T,t1,t2⟩:=Xz h hR hC l1 l2 l3
 obtain ⟨U,u1,u2⟩:=Ky h hR hC l1 l2 l3
 have e:=t2.ext u2
 subst e
 refine ⟨T,_,_,t1,u1,t2,fun i j _ _=>?_⟩
 obtain ⟨s1,s2⟩:=Ji h.gf
 unfold im
 rcases wj l2 (i:Int) (j:Int) with h0 | h0
 ·rw [h0,fj]
  have:=W1 5
  exact ⟨A0,A0⟩
 ·obtain ⟨_,_,_,_,_,_,hb,_⟩:=gj (sh:=shf vl) (h.gf _ h0) s1 (fun e he=>s2 _ e h0 he)
  exact hb
end
def MB:Int:=2*(4*pw 5) ^ 6
theorem tj:MB < pw 60:=by
 have e1:4*pw 5=2 ^ 162:=by
  rw [D7,show 162=2+32*5 from rfl,X4]; rfl
 have e2:MB=2 ^ 973:=by
  unfold MB
  rw [e1,← il,show 973=1+162*6 from rfl,X4]; rfl
 rw [e2,D7]
 have h1:=T9 (N:=974) (M:=32*60) A0
 have h2:(2:Int) ^ 974=2 ^ 973*2:=by rw [show 974=973+1 from rfl,H8]
 have h3:(0:Int) < 2 ^ 973:=C5 A0
 omega
theorem sj:MB < pw 190:=Int.lt_of_lt_of_le tj (S5 A0)
theorem me {n w:Nat} {A:Mx} (hn:n≤4) (hA:∀ i j,i < n→j < w→Bd (pw 5) (A i j)):Okb n w A MB:=by
 have h:=bj (K:=4) (M:=pw 5) (by have:=W1 5; omega) A0 hn hA
 have hp:2*(((4:Nat):Int)*pw 5) ^ (n+2)≤MB:=by
  have:=ke (X:=((4:Nat):Int)*pw 5) (by have:=W1 5; omega) (m:=n+2) (n:=6) A0
  unfold MB
  show 2*(4*pw 5) ^ (n+2)≤_
  have h2:(((4:Nat):Int)*pw 5) ^ (n+2)=(4*pw 5) ^ (n+2):=rfl
  have h3:(((4:Nat):Int)*pw 5) ^ 6=(4*pw 5) ^ 6:=rfl
  omega
 exact fun A' cl q i j h1 h2 h3 h4 h5=>⟨(h A' cl q i j h1 h2 h3 h4 h5).1.mono hp,(h A' cl q i j h1 h2 h3 h4 h5).2.mono hp⟩
theorem ee:pw 5 < pw 6:=by
 show pw 5 < B*pw 5
 have:=W1 5
 unfold B; omega
theorem Tg.tr6 {T:List (List Nb)} {n w:Nat} {A:Mx} (h:Tg T n w A) (hA:∀ i j,i < n→j < w→Bd (pw 5) (A i j)):Tr 6 T n w A:=h.tr hA ee
section
variable {n w:Nat} {A:Mx} {T:List (List Nb)}
theorem Wi {A:Mx} {w:Nat}:pvs 0 0 A w=[]:=by
 refine LD.2 fun j hj=>?_
 exact (Q8.1 hj).2 ⟨fun _=>1,(by rw [G7]; show ¬ (1:Int)=0; omega),fun r hr=>absurd hr A0⟩
theorem cm:m_jr []=some (0,0):=I0
theorem rE (hn:n≤4) (hw:w≤4) (hT:Tg T n w A) (hA:∀ i j,i < n→j < w→Bd (pw 5) (A i j)):m_jr T=some (((pvs 0 n A w).length:Int),0):=by
 by_cases h0:n=0
 ·subst h0
  rw [Wi,U6 hT.1,cm]; rfl
 ·obtain ⟨k,h1,A',col,sn,h2⟩:=Jl sj (hT.tr6 hA) A0 (me hn hA) A0 A0 (.inl A0)
  rw [h1,h2.rn.len U5]
def KV (n w:Nat) (A:Mx) (f:Nat) (l:List Nb):Prop:=∃ u:Nat→Int,Lg l w u∧(∀ j,j < w→Bd MB (u j))∧(∀ r,r < n→sm w (fun j=>A r j*u j)=0)∧(∀ d:Int,(∀ j,j < w→d ∣ u j)→d ∣ 1)∧0 < u f∧∀ j,j < w→j≠f→j∉pvs 0 n A f→u j=0
open Classical in
noncomputable def frs (n:Nat) (A:Mx) (w:Nat):List Nat:=(List.range w).filter fun j=>decide (Dt.Fr 0 n A j)
theorem Jj {j:Nat} (h:Dt.Fr 0 n A j):frs n A (j+1)=frs n A j++[j]:=by
 unfold frs
 rw [Bb,Ie]
 simp [h]
theorem Kj {j:Nat} (h:¬ Dt.Fr 0 n A j):frs n A (j+1)=frs n A j:=by
 unfold frs
 rw [Bb,Ie]
 simp [h]
theorem ug:∀ w,(frs n A w).length+(pvs 0 n A w).length=w:=by
 intro w
 induction w with
 | zero=>rfl
 | succ w ih=>
  by_cases h:Dt.Fr 0 n A w
  ·rw [Jj h,eb h,P1]; simp; omega
  ·rw [Kj h,Wb h,P1]; simp; omega
def ints (l:List Nat):LI:=l.map fun (x:Nat)=>(x:Int)
theorem og {l:List Nat} {i:Nat} (h:i < l.length):getI (ints l) (i:Int)=some ((l.getD i 0:Nat):Int):=by
 refine W2 ?_ rfl
 unfold ints
 rw [Ra,U3 h,M5,U3 h]
 rfl
theorem K6 (l:List Nat):(ints l).length=l.length:=Qa ..
def Cs_ (w:Nat) (C:List Nat):Prop:=C.Pairwise (· < ·)∧∀ x,x∈C→x < w
theorem Cs_.lt {C:List Nat} (h:Cs_ w C) {s:Nat} (hs:s < C.length):C.getD s 0 < w:=by
 rw [M5,U3 hs]
 exact h.2 _ (z6 hs)
theorem Cs_.inj {C:List Nat} (h:Cs_ w C) {s t:Nat} (hst:s < t) (ht:t < C.length):C.getD s 0 < C.getD t 0:=by
 rw [M5,U3 A0,M5,U3 ht]
 exact FD.1 h.1 s t A0 ht hst
theorem Eg (n:Nat) (A:Mx) {f:Nat} (hf:f < w):Cs_ w (pvs 0 n A f++[f]):=by
 refine ⟨?_,fun x hx=>?_⟩
 ·rw [Ge]
  exact ⟨Xb,bh ..,fun x hx y hy=>by rw [w6.1 hy]; exact (Q8.1 hx).1⟩
 ·rcases Z6.1 hx with hx | hx
  ·have:=(Q8.1 hx).1; omega
  ·rw [w6.1 hx]; exact hf
theorem AE {C:List Nat} (hC:Cs_ w C) (hw:w≤1000) (hn:n≤1000) (hCl:C.length≤1000) (hT:Tg T n w A):Ret (loop (m_kb T (ints C)) ([],0)) (fun U=>Tg U n C.length (sub A C)):=by
 have hTl:=hT.1
 refine Q0 n (fun k (t:List (List Nb)×Int)=>t.2=(k:Int)∧Tg t.1 k C.length (sub A C)) ⟨rfl,rfl,by intro r hr; omega⟩ ?_ A0
 rintro k ⟨U,_⟩ hk ⟨rfl,h1⟩
 simp only at h1
 have hUl:=h1.1
 unfold m_kb
 simp only
 rw [O0]
 refine ⟨fun hlt=>?_,fun hge=>⟨_,rfl,by obtain rfl:k=n:=A0; exact h1⟩⟩
 obtain ⟨l,l1,l2⟩:=hT.at (r:=k) A0 rfl
 have hll:=l2.1
 have hrow:Ret (loop (m_ka (ints C) l) ([],0)) (fun o=>Lg o C.length (sub A C k)):=by
  refine Q0 C.length (fun i (t:List Nb×Int)=>t.2=(i:Int)∧Lg t.1 i (sub A C k)) ⟨rfl,rfl,by intro r hr; omega⟩ ?_ A0
  rintro i ⟨o,_⟩ hi ⟨rfl,g1⟩
  simp only at g1
  have hol:=g1.1
  unfold m_ka
  simp only
  rw [K6,O0]
  refine ⟨fun hlt=>?_,fun hge=>⟨_,rfl,by obtain rfl:i=C.length:=A0; exact g1⟩⟩
  have hiC:i < C.length:=A0
  obtain ⟨z,z1,z2⟩:=l2.at (c:=C.getD i 0) (hC.lt hiC) rfl
  rw [og hiC,obs,z1,obs,J0,D2]
  exact ⟨by rw [hol]; simp only [E2,N2]; omega,_,rfl,hiC,by rw [U0 A0 A0]; rfl,g1.snoc (z:=(z.1,z.2)) z2⟩
 rw [l1,obs,J0]
 refine hrow.mono fun o ho=>?_
 rw [J0,D2]
 exact ⟨by rw [hUl]; simp only [E2,N2]; omega,_,rfl,A0,by rw [U0 A0 A0]; rfl,h1.snoc ho⟩
def spr (C:List Nat) (u:Nat→Int) (k:Nat):Nat→Int:=fun c=>sm k fun s=>if c=C.getD s 0 then u s else 0
theorem Nc {C:List Nat} (hC:Cs_ w C) (u:Nat→Int):∀ k,k≤C.length→∀ s,s < k→spr C u k (C.getD s 0)=u s:=by
 intro k hk s hs
 unfold spr
 rw [V0 (g:=fun t=>if t=s then u t else 0) fun t ht=>?_,J4 (f:=u) hs]
 by_cases e:t=s
 ·subst e; rw [M0 rfl,M0 rfl]
 ·rw [K0 e,K0]
  intro he
  rcases Pa s t with h | h | h
  ·have:=hC.inj h A0; omega
  ·omega
  ·have:=hC.inj h A0; omega
theorem Ff {C:List Nat} {u:Nat→Int} {k c:Nat} (h:∀ s,s < k→c≠C.getD s 0):spr C u k c=0:=T4 fun s hs=>K0 (h s hs)
theorem vE {C:List Nat} (hC:Cs_ w C) (hw:w≤1000) (hCl:C.length≤1000) {l:List Nb} {e:Int} {u:Nat→Int} (hl:Lg l C.length u):Ret (loop (m_j9 (ints C) (l,e)) (List.replicate w ((false,[]):Nb),0)) (fun v=>Lg v w (spr C u C.length)):=by
 refine Q0 C.length (fun i (t:List Nb×Int)=>t.2=(i:Int)∧Lg t.1 w (spr C u i)) ⟨rfl,Lg.zeros' w⟩ ?_ A0
 rintro i ⟨v,_⟩ hi ⟨rfl,g1⟩
 simp only at g1
 have hvl:=g1.1
 unfold m_j9
 simp only
 rw [K6,O0]
 refine ⟨fun hlt=>?_,fun hge=>⟨_,rfl,by obtain rfl:i=C.length:=A0; exact g1⟩⟩
 have hiC:i < C.length:=A0
 obtain ⟨z,z1,z2⟩:=hl.at (c:=i) hiC rfl
 have hlt:=hC.lt hiC
 rw [og hiC,obs,z1,obs,U4 (l:=v) (k:=C.getD i 0) A0 rfl,obs]
 refine ⟨_,rfl,hiC,by rw [U0 A0 A0]; rfl,(g1.set (c:=C.getD i 0) (z:=(z.1,z.2)) hlt z2).congr fun c hc=>?_⟩
 by_cases e:c=C.getD i 0
 ·rw [M0 e,e,Nc hC u (i+1) A0 i A0]
 ·rw [K0 e]
  show _=sm i (fun s=>if c=C.getD s 0 then u s else 0)+(if c=C.getD i 0 then u i else 0)
  rw [K0 e,V7]
  rfl
theorem xE (hn:n≤4) (hn0:0 < n) (hw:w≤4) (hA:∀ i j,i < n→j < w→Bd (pw 5) (A i j)) {f:Nat} (hf:f < w) (hF:Dt.Fr 0 n A f) {U:List (List Nb)} (hU:Tg U n (pvs 0 n A f++[f]).length (sub A (pvs 0 n A f++[f]))):∃ l,m_j6 U=some (l,0)∧KU n (pvs 0 n A f++[f]).length (sub A (pvs 0 n A f++[f])) MB (pvs 0 n A f).length l:=by
 have hC:=Eg n A hf
 have hB:∀ i j,i < n→j < (pvs 0 n A f++[f]).length→Bd (pw 5) (sub A (pvs 0 n A f++[f]) i j):=fun i j hi hj=>hA i _ hi (hC.lt hj)
 have hlen:(pvs 0 n A f++[f]).length=(pvs 0 n A f).length+1:=by rw [P1]; rfl
 have hle:=je (p:=0) (n:=n) (A:=A) f
 obtain ⟨l,k,A',col,sn,h1,h2,h3⟩:=Kl sj (me hn hB) (hU.tr6 hB) A0 A0 A0 hn0 A0
 have hk:=h2.rn.len U5
 have hp:=h2.rn.pvs U5
 rw [hlen,Ud U5 hF] at hk
 rw [hlen,eb ((wg U5).2 hF),Df U5] at hp
 rw [hk] at h3 hp
 rcases h3 with ⟨_,h3⟩ | ⟨_,fr,q1,q2,q3,q4,q5⟩
 ·omega
 ·have hfr:fr=(pvs 0 n A f).length:=by
   refine H1 fun hc=>?_
   refine q5 A0 ?_
   have h9:((List.range (pvs 0 n A f).length).map col)[fr]?=(List.range (pvs 0 n A f).length)[fr]?:=by rw [hp]
   rw [Ra,Cc A0] at h9
   exact N3 h9
  subst hfr
  exact ⟨l,h1,q1⟩
theorem UA {f:Nat} (hf:f < w) {l v:List Nb} (hK:KU n (pvs 0 n A f++[f]).length (sub A (pvs 0 n A f++[f])) MB (pvs 0 n A f).length l) (hv:∀ u,Lg l (pvs 0 n A f++[f]).length u→Lg v w (spr (pvs 0 n A f++[f]) u (pvs 0 n A f++[f]).length)):KV n w A f v:=by
 have hC:=Eg n A hf
 obtain ⟨u,u1,u2,u3,u4,u5,u6⟩:=hK
 have hlen:(pvs 0 n A f++[f]).length=(pvs 0 n A f).length+1:=by rw [P1]; rfl
 have hin:∀ j,(∃ s,s < (pvs 0 n A f++[f]).length∧j=(pvs 0 n A f++[f]).getD s 0)∨spr (pvs 0 n A f++[f]) u (pvs 0 n A f++[f]).length j=0:=fun j=>by
  by_cases h:∃ s,s < (pvs 0 n A f++[f]).length∧j=(pvs 0 n A f++[f]).getD s 0
  ·exact .inl h
  ·exact .inr (Ff fun s hs he=>h ⟨s,hs,he⟩)
 refine ⟨_,hv u u1,fun j hj=>?_,fun r hr=>?_,fun d hd=>?_,?_,fun j hj hjf hjp=>?_⟩
 ·rcases hin j with ⟨s,hs,rfl⟩ | h0
  ·rw [Nc hC u _ (O2 _) s hs]; exact u2 s hs
  ·rw [h0]; have:=(u2 0 A0).nn; exact ⟨A0,A0⟩
 ·have:=cb (w:=w) (k:=(pvs 0 n A f++[f]).length) (col:=fun s=>(pvs 0 n A f++[f]).getD s 0) (fun s hs=>hC.lt hs) (A r) u
  exact this.trans (u3 r hr)
 ·refine u4 d fun s hs=>?_
  have:=hd _ (hC.lt hs)
  rwa [Nc hC u _ (O2 _) s hs] at this
 ·have:=Nc hC u _ (O2 _) (pvs 0 n A f).length A0
  rw [tg] at this
  rw [this]; exact u5
 ·refine Ff fun s hs he=>?_
  rw [M5,U3 hs] at he
  have hm:=z6 hs
  rw [show (pvs 0 n A f++[f])[s]=j from he.symm] at hm
  rcases Z6.1 hm with h | h
  ·exact hjp h
  ·exact hjf (w6.1 h)
theorem se (l:List Nat) (x:Nat):ints l++[(x:Int)]=ints (l++[x]):=by unfold ints; rw [dh]; rfl
theorem dD:Bg 1 false [1]:=⟨by intro x hx; rw [w6.1 hx]; unfold B; omega,by intro x hx; simp at hx; omega,by simp [sv,lv],H0⟩
theorem Yr:1≤MB:=by
 unfold MB
 have:(0:Int) < (4*pw 5) ^ 6:=C5 (by have:=W1 5; omega)
 omega
end
section
variable {n w:Nat} {A:Mx} {T:List (List Nb)}
theorem KV.eq {f:Nat} {v v':List Nb} (hf:f < w) (hv:KV n w A f v) (hv':KV n w A f v'):v=v':=by
 obtain ⟨u,u1,_,u3,u4,u5,u6⟩:=hv
 obtain ⟨t,t1,_,t3,t4,t5,t6⟩:=hv'
 have hC:Cs_ w (pvs 0 n A f):=⟨Xb,fun x hx=>by have:=(Q8.1 hx).1; omega⟩
 have hlt:∀ s,s < (pvs 0 n A f).length→(pvs 0 n A f).getD s 0 < f:=fun s hs=>by
  rw [M5,U3 hs]
  exact (Q8.1 (z6 hs)).1
 let y:Nat→Int:=fun s=>u ((pvs 0 n A f).getD s 0)*t f - t ((pvs 0 n A f).getD s 0)*u f
 have e:∀ c,c < w→u c*t f - t c*u f=spr (pvs 0 n A f) y (pvs 0 n A f).length c:=by
  intro c hc
  by_cases hex:∃ s,s < (pvs 0 n A f).length∧c=(pvs 0 n A f).getD s 0
  ·obtain ⟨s,hs,rfl⟩:=hex
   rw [Nc hC y _ (O2 _) s hs]
  ·rw [Ff fun s hs he=>hex ⟨s,hs,he⟩]
   by_cases hcf:c=f
   ·subst hcf; rw [I2]; omega
   ·have hnp:c∉pvs 0 n A f:=fun hm=>by
     obtain ⟨s,hs,he⟩:=He hm
     exact hex ⟨s,hs,by rw [M5,U3 hs]; exact he.symm⟩
    rw [u6 c hc hcf hnp,t6 c hc hcf hnp,Q3,Q3]; rfl
 have hind:=(Rn.can (n:=n) (w:=f) (A:=A) U5).ind
 have hz:∀ s,s < (pvs 0 n A f).length→y s=0:=fun s hs=>G7.1 (hind y (fun r hr=>by
  have h1:=cb (w:=w) (k:=(pvs 0 n A f).length) (col:=fun s=>(pvs 0 n A f).getD s 0) (fun s hs=>hC.lt hs) (A r) y
  have h2:sm w (fun c=>A r c*spr (pvs 0 n A f) y (pvs 0 n A f).length c)=0:=by
   rw [V0 (g:=fun c=>A r c*u c*t f - A r c*t c*u f) fun c hc=>by rw [← e c hc,C9,N6,N6],Da,K7,K7,u3 r hr,t3 r hr,Q3,Q3]; rfl
  have h3:sm (pvs 0 n A f).length (fun s=>A r (pcol 0 n A f s)*y s)=0:=h1.symm.trans h2
  rw [h3]; exact Vu 0) s hs)
 have hp:∀ c,c < w→u c*t f=t c*u f:=fun c hc=>by
  have h1:=e c hc
  have h2:spr (pvs 0 n A f) y (pvs 0 n A f).length c=0:=T4 fun s hs=>by
   split
   ·exact hz s hs
   ·rfl
  omega
 have pr:∀ x:Nat→Int,(∀ d:Int,(∀ j,j < w→d ∣ x j)→d ∣ 1)→Prim w x:=fun x hx d hd h=>by
  have:=Re A0 (hx d h)
  omega
 have heq:=Er hf u5 t5 (pr u u4) (pr t t4) hp
 exact u1.ext (t1.congr fun j hj=>(heq j hj).symm)
theorem Sq (hn:n≤4) (hw:w≤16) (hn0:0 < n) (hT:Tg T n w A) (hA:∀ i j,i < n→j < w→Bd (pw 5) (A i j)):m_d0 T=some ((pvs 0 n A w).length:Int):=by
 obtain ⟨k,h1,A',col,sn,h2⟩:=Dy tj (me hn hA) (hT.tr6 hA) A0 A0 A0 (.inl hn0)
 rw [h1,h2.rn.len U5]
theorem Qx (hn:n≤4) (hn0:0 < n) (hw:w≤4) (hA:∀ i j,i < n→j < w→Bd (pw 5) (A i j)) {f:Nat} (hf:f < w) (hF:Dt.Fr 0 n A f) {U:List (List Nb)} (hU:Tg U n (pvs 0 n A f++[f]).length (sub A (pvs 0 n A f++[f]))):∃ l,m_eb U=some l∧KU n (pvs 0 n A f++[f]).length (sub A (pvs 0 n A f++[f])) MB (pvs 0 n A f).length l:=by
 have hC:=Eg n A hf
 have hB:∀ i j,i < n→j < (pvs 0 n A f++[f]).length→Bd (pw 5) (sub A (pvs 0 n A f++[f]) i j):=fun i j hi hj=>hA i _ hi (hC.lt hj)
 have hlen:(pvs 0 n A f++[f]).length=(pvs 0 n A f).length+1:=by rw [P1]; rfl
 have hle:=je (p:=0) (n:=n) (A:=A) f
 obtain ⟨l,k,A',col,sn,h1,h2,h3⟩:=Kl sj (me hn hB) (hU.tr6 hB) A0 A0 A0 hn0 A0
 have h0:=Jy tj (me hn hB) (hU.tr6 hB) A0 A0 A0 hn0 A0 h2 h3
 have hk:=h2.rn.len U5
 have hp:=h2.rn.pvs U5
 rw [hlen,Ud U5 hF] at hk
 rw [hlen,eb ((wg U5).2 hF),Df U5] at hp
 rw [hk] at h3 hp
 rcases h3 with ⟨_,h3⟩ | ⟨_,fr,q1,q2,q3,q4,q5⟩
 ·omega
 ·have hfr:fr=(pvs 0 n A f).length:=by
   refine H1 fun hc=>?_
   refine q5 A0 ?_
   have h9:((List.range (pvs 0 n A f).length).map col)[fr]?=(List.range (pvs 0 n A f).length)[fr]?:=by rw [hp]
   rw [Ra,Cc A0] at h9
   exact N3 h9
  subst hfr
  exact ⟨l,h0,q1⟩
theorem mq {C:List Nat} (hC:Cs_ w C) (hw:w≤1000) (hn:n≤1000) (hCl:C.length≤1000) (hT:Tg T n w A):Ret (m_d3 T (ints C)) (fun U=>Tg U n C.length (sub A C)):=by
 have hTl:=hT.1
 unfold m_d3
 rw [J0]
 refine (Q0 (Post:=fun U=>Tg U n C.length (sub A C)) n (fun k (t:List (List Nb)×Int)=>t.2=(k:Int)∧Tg t.1 k C.length (sub A C)) ⟨rfl,rfl,by intro r hr; omega⟩ ?_ A0).mono fun U h=>⟨U,rfl,h⟩
 rintro k ⟨U,_⟩ hk ⟨rfl,h1⟩
 simp only at h1
 have hUl:=h1.1
 unfold m_d2
 simp only
 rw [O0]
 refine ⟨fun hlt=>?_,fun hge=>⟨_,rfl,by obtain rfl:k=n:=A0; exact h1⟩⟩
 obtain ⟨l,l1,l2⟩:=hT.at (r:=k) A0 rfl
 have hll:=l2.1
 have hrow:Ret (loop (m_d1 (ints C) T (k:Int)) ([],0)) (fun o=>Lg o C.length (sub A C k)):=by
  refine Q0 C.length (fun i (t:List Nb×Int)=>t.2=(i:Int)∧Lg t.1 i (sub A C k)) ⟨rfl,rfl,by intro r hr; omega⟩ ?_ A0
  rintro i ⟨o,_⟩ hi ⟨rfl,g1⟩
  simp only at g1
  have hol:=g1.1
  unfold m_d1
  simp only
  rw [K6,O0]
  refine ⟨fun hlt=>?_,fun hge=>⟨_,rfl,by obtain rfl:i=C.length:=A0; exact g1⟩⟩
  have hiC:i < C.length:=A0
  obtain ⟨z,z1,z2⟩:=l2.at (c:=C.getD i 0) (hC.lt hiC) rfl
  rw [l1,obs,og hiC,obs,z1,obs,J0,D2]
  exact ⟨by rw [hol]; simp only [E2,N2]; omega,_,rfl,hiC,by rw [U0 A0 A0]; rfl,g1.snoc (z:=(z.1,z.2)) z2⟩
 rw [J0]
 refine hrow.mono fun o ho=>?_
 rw [J0,D2]
 exact ⟨by rw [hUl]; simp only [E2,N2]; omega,_,rfl,A0,by rw [U0 A0 A0]; rfl,h1.snoc ho⟩
theorem Cx {C:List Nat} (hC:Cs_ w C) (hw:w≤1000) (hCl:C.length≤1000) {l v0:List Nb} {u g:Nat→Int} (hl:Lg l C.length u) (hv0:Lg v0 w g) (hg:∀ c,c < w→(∀ s,s < C.length→c≠C.getD s 0)→g c=0):Ret (loop (m_ee (ints C) l) (v0,0)) (fun v=>Lg v w (spr C u C.length)):=by
 classical
 refine Q0 C.length (fun i (t:List Nb×Int)=>t.2=(i:Int)∧Lg t.1 w (fun c=>if ∃ s,s < i∧c=C.getD s 0 then spr C u C.length c else g c)) ⟨rfl,hv0.congr fun c hc=>(K0 (fun ⟨s,hs,_⟩=>A0)).symm⟩ ?_ A0
 rintro i ⟨v,_⟩ hi ⟨rfl,g1⟩
 simp only at g1
 have hvl:=g1.1
 unfold m_ee
 simp only
 rw [K6,O0]
 refine ⟨fun hlt=>?_,fun hge=>⟨_,rfl,g1.congr fun c hc=>?_⟩⟩
 ·have hiC:i < C.length:=A0
  obtain ⟨z,z1,z2⟩:=hl.at (c:=i) hiC rfl
  have hlt:=hC.lt hiC
  rw [og hiC,obs,z1,obs,U4 (l:=v) (k:=C.getD i 0) A0 rfl,obs]
  refine ⟨_,rfl,hiC,by rw [U0 A0 A0]; rfl,(g1.set (c:=C.getD i 0) (z:=(z.1,z.2)) hlt z2).congr fun c hc=>?_⟩
  by_cases e:c=C.getD i 0
  ·rw [M0 e,M0 ⟨i,A0,e⟩,e,Nc hC u _ (O2 _) i hiC]
  ·rw [K0 e]
   by_cases h:∃ s,s < i∧c=C.getD s 0
   ·obtain ⟨s,hs,he⟩:=h
    rw [M0 ⟨s,hs,he⟩,M0 ⟨s,A0,he⟩]
   ·rw [K0 h,K0 fun ⟨s,hs,he⟩=>by
     by_cases hsi:s=i
     ·subst hsi; exact e he
     ·exact h ⟨s,A0,he⟩]
 ·obtain rfl:i=C.length:=A0
  by_cases h:∃ s,s < C.length∧c=C.getD s 0
  ·rw [M0 h]
  ·rw [K0 h,hg c hc fun s hs he=>h ⟨s,hs,he⟩,Ff fun s hs he=>h ⟨s,hs,he⟩]
theorem KB:m_j 1=some (false,[1]):=I0
theorem WA (hn:n≤4) (hw:w≤4) (hT:Tg T n w A) (hA:∀ i j,i < n→j < w→Bd (pw 5) (A i j)):Ret (m_eg T (w:Int)) (fun V:List (List Nb)=>V.length=(frs n A w).length∧∀ (i f:Nat),(frs n A w)[i]?=some f→∃ v,V[i]?=some v∧KV n w A f v):=by
 have hTl:=hT.1
 unfold m_eg
 rw [J0]
 refine (Q0 (Post:=fun V:List (List Nb)=>V.length=(frs n A w).length∧∀ (i f:Nat),(frs n A w)[i]?=some f→∃ v,V[i]?=some v∧KV n w A f v) w (fun k (t:List (List Nb)×LI×Int)=>t.2.2=(k:Int)∧t.2.1=ints (pvs 0 n A k)∧t.1.length=(frs n A k).length∧∀ (i f:Nat),(frs n A k)[i]?=some f→∃ v,t.1[i]?=some v∧KV n w A f v) ⟨rfl,by rw [Vf]; rfl,rfl,by intro i f h; simp [frs] at h⟩ ?_ A0).mono fun V h=>⟨V,rfl,h⟩
 rintro k ⟨V,_,_⟩ hk ⟨rfl,rfl,h1,h2⟩
 simp only at h1 h2
 unfold m_ef
 simp only
 rw [O0]
 refine ⟨fun hlt=>?_,fun hge=>⟨_,rfl,by obtain rfl:k=w:=A0; exact ⟨h1,h2⟩⟩⟩
 have hkw:k < w:=A0
 have hw1:wa .i64 (k:Int) 1=((k+1:Nat):Int):=by rw [U0 A0 A0]; rfl
 have hpl:=je (p:=0) (n:=n) (A:=A) k
 have hfl:(frs n A k).length≤4:=by have:=ug (n:=n) (A:=A) k; omega
 have hilen:=K6 (pvs 0 n A k)
 have hlen:(pvs 0 n A k++[k]).length=(pvs 0 n A k).length+1:=by rw [P1]; rfl
 have hC:=Eg n A hkw
 rw [J0,D2]
 refine ⟨by rw [hilen]; simp only [N2]; omega,?_⟩
 rw [xc,J0,D2]
 refine ⟨by rw [hilen]; simp only [E2,N2]; omega,?_⟩
 rw [se,J0]
 have hq:Ret (if (0:Int) < (T.length:Int) then (m_d3 T (ints (pvs 0 n A k++[k]))).bind fun r787=>(m_d4 r787 ((ints (pvs 0 n A k++[k])).length:Int)).bind fun r789=>some (decide (((ints (pvs 0 n A k)).length:Int) < r789)) else some false) (fun b=>b=true↔¬ Dt.Fr 0 n A k):=by
  rw [O0]
  refine ⟨fun h0=>?_,fun h0=>⟨_,rfl,?_⟩⟩
  ·have hn0:0 < n:=A0
   rw [J0]
   refine (mq hC A0 A0 A0 hT).mono fun U hU=>?_
   have hB:∀ i j,i < n→j < (pvs 0 n A k++[k]).length→Bd (pw 5) (sub A (pvs 0 n A k++[k]) i j):=fun i j hi hj=>hA i _ hi (hC.lt hj)
   unfold m_d4
   rw [K6,B0,Sq hn A0 hn0 hU hB,obs,obs,K6]
   refine ⟨_,rfl,?_⟩
   show decide _=true↔_
   rw [decide_eq_true_eq,hlen]
   constructor
   ·intro h hF
    rw [Ud U5 hF] at h
    omega
   ·intro hF
    rw [Ei U5 hF]
    omega
  ·have hn0:n=0:=A0
   subst hn0
   simp only [E9,false_iff,Yu]
   exact ⟨fun _=>1,by rw [G7]; show ¬ (1:Int)=0; omega,fun r hr=>absurd hr A0⟩
 refine hq.mono fun b hb=>?_
 rw [O0]
 refine ⟨fun h=>?_,fun h=>?_⟩
 ·have hFr:=hb.1 h
  unfold m_ec
  exact ⟨_,rfl,hkw,hw1,by rw [Wb hFr],by rw [Kj hFr]; exact h1,by rw [Kj hFr]; exact h2⟩
 ·have hFr:Dt.Fr 0 n A k:=H1 fun hc=>h (hb.2 hc)
  have fin:∀ v,KV n w A k v→Ret (m_ed V (k:Int) (ints (pvs 0 n A k)) v) (VQ (fun t':List (List Nb)×LI×Int=>k < w∧t'.2.2=((k+1:Nat):Int)∧t'.2.1=ints (pvs 0 n A (k+1))∧t'.1.length=(frs n A (k+1)).length∧∀ (i f:Nat),(frs n A (k+1))[i]?=some f→∃ v,t'.1[i]?=some v∧KV n w A f v) (fun V:List (List Nb)=>V.length=(frs n A w).length∧∀ (i f:Nat),(frs n A w)[i]?=some f→∃ v,V[i]?=some v∧KV n w A f v)):=by
   intro v hv
   unfold m_ed m_ec
   rw [J0,D2]
   refine ⟨by rw [h1]; simp only [E2,N2]; omega,_,rfl,hkw,hw1,by rw [eb hFr],by rw [Jj hFr,P1,P1,h1]; rfl,fun i f hi=>?_⟩
   rw [Jj hFr] at hi
   show ∃ v',(V++[v])[i]?=some v'∧_
   by_cases hil:i < (frs n A k).length
   ·rw [B6 hil] at hi
    obtain ⟨v',v1,v2⟩:=h2 i f hi
    exact ⟨v',by rw [B6 A0]; exact v1,v2⟩
   ·rw [I6 A0] at hi
    have hi0:i - (frs n A k).length=0:=by
     have:=(S2.1 hi).1
     simp at this; omega
    rw [hi0] at hi
    have hkf:k=f:=by simpa using hi
    subst hkf
    exact ⟨v,by rw [I6 A0,show i - V.length=0 by omega]; rfl,hv⟩
  rw [J0,Y5]
  refine ⟨A0,A0,?_⟩
  rw [A1,KB,obs,U4 (l:=List.replicate w ((false,[]):Nb)) (k:=k) (by rw [B5]; omega) rfl,obs,O0]
  have hv0:=(Lg.zeros' w).set (z:=(false,[1])) hkw dD
  refine ⟨fun h0=>?_,fun h0=>?_⟩
  ·have hn0:0 < n:=A0
   rw [J0]
   refine (mq hC A0 A0 A0 hT).mono fun U hU=>?_
   obtain ⟨l,l1,l2⟩:=Qx hn hn0 hw hA hkw hFr hU
   obtain ⟨u,u1,_⟩:=id l2
   rw [l1,obs,J0]
   refine (Cx hC A0 A0 u1 hv0 fun c hc hcs=>K0 fun e=>hcs (pvs 0 n A k).length A0 (by rw [tg]; exact e)).mono fun v v2=>?_
   refine fin v (UA hkw l2 fun u' hu'=>?_)
   have:spr (pvs 0 n A k++[k]) u' (pvs 0 n A k++[k]).length=spr (pvs 0 n A k++[k]) u (pvs 0 n A k++[k]).length:=by
    funext c
    exact V0 fun s hs=>by
     obtain ⟨z,z1,z2⟩:=u1.2 s hs
     obtain ⟨y,y1,y2⟩:=hu'.2 s hs
     rw [z1] at y1
     cases y1
     rw [← z2.sv,← y2.sv]
   rw [this]; exact v2
  ·have hn0:n=0:=A0
   subst hn0
   refine fin _ ⟨fun j=>if j=k then 1 else 0,hv0,fun j _=>?_,fun r hr=>A0,fun d hd=>?_,by show (0:Int) < if k=k then 1 else 0; rw [M0 rfl]; omega,fun j _ hjk _=>K0 hjk⟩
   ·have:=Yr
    show Bd MB (if j=k then 1 else 0)
    split<;>exact ⟨A0,A0⟩
   ·have h9:d ∣ (if k=k then 1 else 0):=hd k hkw
    rw [M0 rfl] at h9
    exact h9
end
theorem T8 {p:Int} (hP:PP p):Dz p:=by
 have h2:=hP.two
 have h3:=hP.prm
 obtain ⟨P,rfl⟩:=W5 (show 0≤p by omega)
 rw [A1] at h3
 refine ⟨fun a b h=>?_,fun h=>?_,.inr h2⟩
 ·have h1:P ∣ a.natAbs*b.natAbs:=by rw [← mh]; exact Ou.1 h
  rcases h3.euclid h1 with h4 | h4
  ·exact .inl (Ou.2 h4)
  ·exact .inr (Ou.2 h4)
 ·have:=Re A0 h
  omega
theorem Zq {p v:Int} (hP:PP p) {s:Bool} {l:LI} (h:Bg v s l) (hl:l.length≤900):m_h0 s l p=some (v % p,0):=by
 have:=hP.two; have:=hP.max
 unfold m_h0
 rw [Xi hP,obs,M0 rfl,Ty h.1 hl A0 A0,obs]
 have e:(if s=true then -lv l else lv l)=v:=h.sv
 rw [e]
theorem Sc {l:LI} {k:Nat} {f:Nat→Int} (h:Ln l k f) {x:Int} (hx:x=f k):Ln (l++[x]) (k+1) f:=by
 refine ⟨by rw [P1,h.1]; rfl,fun c hc=>?_⟩
 by_cases e:c < k
 ·rw [B6 (by rw [h.1]; exact e),h.2 c e]
 ·have:c=k:=A0
  subst this
  rw [I6 (by rw [h.1]; exact O2 _),h.1,E6,hx]; rfl
theorem Sd {T:L2} {k w:Nat} {A:Mx} (h:Tb T k w A) {l:LI} (hl:Ln l w (A k)):Tb (T++[l]) (k+1) w A:=by
 refine ⟨by rw [P1,h.1]; rfl,fun r hr=>?_⟩
 by_cases e:r < k
 ·obtain ⟨x,h1,h2⟩:=h.2 r e
  exact ⟨x,by rw [B6 (by rw [h.1]; exact e),h1],h2⟩
 ·have:r=k:=A0
  subst this
  exact ⟨l,by rw [I6 (by rw [h.1]; exact O2 _),h.1,E6]; rfl,hl⟩
theorem set_self {α:Type} {l:List α} {k:Nat} {x:α} (h:l[k]?=some x):l.set k x=l:=by
 refine Sa fun i=>?_
 rw [fh]
 by_cases e:k=i
 ·subst e
  rw [M0 rfl,M0 (S2.1 h).1,h]
 ·rw [K0 e]
theorem w5 {k:Nat} (h:k≤1000000):wa .i64 (k:Int) 1=((k+1:Nat):Int):=by rw [U0 A0 A0]; rfl
def Fil (T:L2) (n w k:Nat) (X:Mx):Prop:=T.length=n∧∀ r,r < n→∃ l,T[r]?=some l∧if r < k then Ln l w (X r) else l=[]
theorem Fil.zero (n w:Nat) (X:Mx):Fil (List.replicate n []) n w 0 X:=⟨B5 ..,fun r hr=>⟨[],by rw [Db,M0 hr],by rw [B0]⟩⟩
theorem Fil.done {T:L2} {n w k:Nat} {X:Mx} (h:Fil T n w k X) (hk:n≤k):Tb T n w X:=⟨h.1,fun r hr=>by
 obtain ⟨l,l1,l2⟩:=h.2 r hr
 rw [C0] at l2
 exact ⟨l,l1,l2⟩⟩
theorem Fil.row {T:L2} {n w k:Nat} {X:Mx} (h:Fil T n w k X) (hk:k < n):T[k]?=some []:=by
 obtain ⟨l,l1,l2⟩:=h.2 k hk
 rw [B0] at l2
 rw [l1,l2]
theorem Fil.next {T:L2} {n w k:Nat} {X:Mx} (h:Fil T n w k X) (hk:k < n) {l:LI} (hl:Ln l w (X k)):Fil (T.set k l) n w (k+1) X:=by
 refine ⟨by rw [O3]; exact h.1,fun r hr=>?_⟩
 by_cases e:k=r
 ·subst e
  exact ⟨l,by rw [G5 (by rw [h.1]; exact hk)],by rw [C0]; exact hl⟩
 ·obtain ⟨m,m1,m2⟩:=h.2 r hr
  refine ⟨m,by rw [H6 e]; exact m1,?_⟩
  by_cases e2:r < k
  ·rw [M0 e2] at m2; rw [C0]; exact m2
  ·rw [K0 e2] at m2; rw [B0]; exact m2
section
variable {p:Int} {n w:Nat} {A X:Mx} {T:List (List Nb)} {U:L2}
theorem cz (hP:PP p) (hT:Tg T n w A) (hA:∀ i j,i < n→j < w→Bd (pw 5) (A i j)) (hn:n≤1000) (hw:w≤1000):Ret (m_kj T p) (fun U=>Tb U n w (Rd p A)):=by
 have hTl:=hT.1
 unfold m_kj
 rw [hTl,J0,Y5]
 refine ⟨A0,A0,?_⟩
 rw [A1,J0]
 refine (Q0 (Post:=fun U=>Tb U n w (Rd p A)) n (fun k (t:L2×Int)=>t.2=(k:Int)∧Fil t.1 n w k (Rd p A)) ⟨rfl,Fil.zero ..⟩ ?_ A0).mono fun U h=>⟨U,rfl,h⟩
 rintro k ⟨U,_⟩ hk ⟨rfl,h1⟩
 simp only at h1
 have hUl:=h1.1
 unfold m_ki
 simp only
 rw [O0,hTl]
 refine ⟨fun hlt=>?_,fun hge=>⟨_,rfl,h1.done A0⟩⟩
 have hkn:k < n:=A0
 obtain ⟨row,r1,r2⟩:=hT.at (r:=k) hkn rfl
 have hrl:=r2.1
 rw [r1,obs,J0]
 refine (Q0 (Post:=fun V:L2=>∃ l,Ln l w (Rd p A k)∧V=U.set k l) w (fun j (t:L2×Int)=>t.2=(j:Int)∧∃ l,Ln l j (Rd p A k)∧t.1=U.set k l) ⟨rfl,[],⟨rfl,by intro c hc; omega⟩,(set_self (h1.row hkn)).symm⟩ ?_ A0).mono ?_
 ·rintro j ⟨_,_⟩ hj ⟨rfl,l,l1,rfl⟩
  unfold m_kh
  simp only
  rw [O0,hrl]
  refine ⟨fun hlt=>?_,fun hge=>⟨_,rfl,l,(by obtain rfl:j=w:=A0; exact l1),rfl⟩⟩
  have hjw:j < w:=A0
  have hll:=l1.1
  obtain ⟨z,z1,z2⟩:=r2.at (c:=j) hjw rfl
  have hzl:=z2.lenB (hA k j hkn hjw) ee
  rw [z1,obs,Zq hP z2 A0,obs,W2 (G5 A0) rfl,obs,J0,D2]
  refine ⟨G0,?_⟩
  rw [U4 (k:=k) (by rw [O3]; omega) rfl,obs,Nk]
  exact ⟨_,rfl,hjw,w5 A0,_,Sc l1 rfl,rfl⟩
 ·rintro _ ⟨l,l1,rfl⟩
  exact ⟨_,rfl,hkn,w5 A0,h1.next hkn l1⟩
theorem Iw (hU:Tb U n w X) (hn:n≤1000) (hw:w≤1000):Ret (m_kr U (w:Int)) (fun V=>Tb V w n (tp X)):=by
 have hUl:=hU.1
 unfold m_kr
 rw [J0,Y5]
 refine ⟨A0,A0,?_⟩
 rw [A1,J0]
 refine (Q0 (Post:=fun U=>Tb U w n (tp X)) w (fun k (t:L2×Int)=>t.2=(k:Int)∧Fil t.1 w n k (tp X)) ⟨rfl,Fil.zero ..⟩ ?_ A0).mono fun U h=>⟨U,rfl,h⟩
 rintro k ⟨V,_⟩ hk ⟨rfl,h1⟩
 simp only at h1
 have hVl:=h1.1
 unfold m_kq
 simp only
 rw [O0,B5]
 refine ⟨fun hlt=>?_,fun hge=>⟨_,rfl,h1.done A0⟩⟩
 have hkw:k < w:=A0
 rw [J0]
 refine (Q0 (Post:=fun Z:L2=>∃ l,Ln l n (tp X k)∧Z=V.set k l) n (fun j (t:L2×Int)=>t.2=(j:Int)∧∃ l,Ln l j (tp X k)∧t.1=V.set k l) ⟨rfl,[],⟨rfl,by intro c hc; omega⟩,(set_self (h1.row hkw)).symm⟩ ?_ A0).mono ?_
 ·rintro j ⟨_,_⟩ hj ⟨rfl,l,l1,rfl⟩
  unfold m_kp
  simp only
  rw [O0,hUl]
  refine ⟨fun hlt=>?_,fun hge=>⟨_,rfl,l,(by obtain rfl:j=n:=A0; exact l1),rfl⟩⟩
  have hjn:j < n:=A0
  have hll:=l1.1
  obtain ⟨row,r1,r2⟩:=hU.2 j hjn
  rw [W2 r1 rfl,obs,W2 (G5 A0) rfl,obs,W2 (r2.2 k hkw) rfl,obs,J0,D2]
  refine ⟨G0,?_⟩
  rw [U4 (k:=k) (by rw [O3]; omega) rfl,obs,Nk]
  exact ⟨_,rfl,hjn,w5 A0,_,Sc l1 rfl,rfl⟩
 ·rintro _ ⟨l,l1,rfl⟩
  exact ⟨_,rfl,hkw,w5 A0,h1.next hkw l1⟩
theorem ie:pvs p n (Rd p X) w=pvs p n X w:=Ar fun _ _ _ _=>Cg.mod p _
theorem yr:pvs p w (tp (Rd p X)) n=pvs p w (tp X) n:=Ar fun _ _ _ _=>Cg.mod p _
theorem kr (hP:PP p) (hn:0 < n) (hn2:n≤200) (hw:w≤200) (hU:Tb U n w X):m_kl U p=some (((pvs p n X w).length:Int),0):=by
 obtain ⟨R,o,h1,h2,h3,k,B,col,e1,e2,e3,e4,e5⟩:=Ct hP hn hn2 A0 hU
 rw [ir hP hn hn2 hw hU h1 h3,e4.1,(e2.rn (T8 hP) e3).len (T8 hP),ie]
theorem Gs (hP:PP p) (hn:n≤100) (hw:w≤100) (hU:Tb U n w X):m_ko U p=some (ints (pvs p w (tp X) n)):=by
 have hUl:=hU.1
 refine Ret.eq ?_
 unfold m_ko
 rw [J0]
 refine (Q0 (Post:=fun l=>l=ints (pvs p w (tp X) n)) n (fun k (t:LI×L2×Int)=>t.2.2=(k:Int)∧t.1=ints (pvs p w (tp X) k)∧Tb t.2.1 (pvs p w (tp X) k).length w (fun s=>X ((pvs p w (tp X) k).getD s 0))) ⟨rfl,rfl,rfl,fun r hr=>absurd hr (by rw [Vf]; simp)⟩ ?_ A0).mono fun U h=>⟨U,rfl,h⟩
 rintro k ⟨_,V,_⟩ hk ⟨rfl,rfl,h1⟩
 simp only at h1
 have hVl:=h1.1
 have hpl:=je (p:=p) (n:=w) (A:=tp X) k
 unfold m_kn
 simp only
 rw [O0,hUl]
 refine ⟨fun hlt=>?_,fun hge=>⟨_,rfl,by obtain rfl:k=n:=A0; rfl⟩⟩
 have hkn:k < n:=A0
 obtain ⟨row,r1,r2⟩:=hU.2 k hkn
 rw [W2 r1 rfl,obs,show m_kk V=some () from rfl,obs,J0,D2]
 refine ⟨G0,?_⟩
 have hW:Tb (V++[row]) ((pvs p w (tp X) k).length+1) w (fun s=>X ((pvs p w (tp X) k++[k]).getD s 0)):=by
  refine Sd (h1.congr fun r c hr _=>by rw [Fj hr]) ?_
  rw [tg]; exact r2
 have hr:m_kl (V++[row]) p=some (((pvs p w (sub (tp X) (pvs p w (tp X) k++[k])) ((pvs p w (tp X) k).length+1)).length:Int),0):=by
  rw [kr hP A0 A0 A0 hW,Si (T8 hP)]
  rfl
 rw [hr,obs,hW.1,O0]
 unfold m_km
 refine ⟨fun he=>?_,fun he=>?_⟩
 ·have hF:¬ Dt.Fr p w (tp X) k:=fun hF=>by
   rw [Ud (T8 hP) hF] at he
   simp only at he
   omega
  rw [J0,D2]
  refine ⟨by rw [K6]; simp only [E2,N2]; omega,_,rfl,hkn,w5 A0,by rw [Wb hF]; exact se ..,?_⟩
  rw [Wb hF,P1]
  exact hW
 ·have hF:Dt.Fr p w (tp X) k:=H1 fun hF=>he (by rw [Ei (T8 hP) hF])
  exact ⟨_,rfl,hkn,w5 A0,by rw [eb hF],by rw [eb hF]; exact h1⟩
noncomputable def keeps (n w:Nat) (A:Mx) (p:Int):Bool:=decide ((pvs p n A w).length=(pvs 0 n A w).length)
theorem nt {α:Type} {l:List α} {k:Nat} {q:α→Bool} (hk:k < l.length):(l.drop k).find? q=if q l[k]=true then some l[k] else (l.drop (k+1)).find? q:=by
 rw [Ta hk,List.find?_cons]
 cases q l[k]<;>rfl
theorem yE (hn:n≤4) (hw:w≤4) (hT:Tg T n w A) (hA:∀ i j,i < n→j < w→Bd (pw 5) (A i j)) {st ix vl:LI} {sh:Int} (hI:m_ha (n:Int) (w:Int) st ix vl=some (T,sh,0)) {l:LI} (hl:m_kg 2147483648 5=some l) (hl5:l.length≤5) (hlp:∀ p,p∈l→PP p) {V:List (List Nb)} (hV:m_kd T (w:Int)=some V) (hVl:V.length=(frs n A w).length):m_kt (n:Int) (w:Int) st ix vl=some (match l.find? (keeps n w A) with | none=>(0,0,[],[],[],420) | some p=>(((pvs 0 n A w).length:Int),p,ints (pvs p w (tp A) n),ints (pvs p n A w),V,0)):=by
 have hf:=ug (n:=n) (A:=A) w
 have hrk:ws .i64 (w:Int) (V.length:Int)=((pvs 0 n A w).length:Int):=by rw [V2 A0 A0]; omega
 have hloop:loop (m_ks l (T,sh,0) (w:Int) V) 0=some (match l.find? (keeps n w A) with | none=>.inl () | some p=>.inr (p,ints (pvs p w (tp A) n),ints (pvs p n A w))):=by
  refine Ret.eq (Q0 l.length (fun k (t:Int)=>t=(k:Int)∧l.find? (keeps n w A)=(l.drop k).find? (keeps n w A)) ⟨rfl,by rw [B9]⟩ ?_ A0)
  rintro k _ hk ⟨rfl,h1⟩
  unfold m_ks
  rw [O0]
  refine ⟨fun hlt=>?_,fun hge=>⟨_,rfl,by rw [h1,Je A0]; rfl⟩⟩
  have hkl:k < l.length:=A0
  have hP:=hlp _ (z6 hkl)
  rw [nt hkl] at h1
  rw [W2 (U3 hkl) rfl,obs,J0]
  generalize l[k]=p at hP h1 ⊢
  refine (cz hP hT hA A0 A0).mono fun U hU=>?_
  rw [Gs hP A0 A0 hU,obs,K6,yr,hrk,← Si (T8 hP),O0]
  refine ⟨fun he=>?_,fun he=>?_⟩
  ·have hk':keeps n w A p=true:=decide_eq_true A0
   rw [M0 hk'] at h1
   rw [J0]
   refine (Iw hU A0 A0).mono fun Z hZ=>?_
   rw [Gs hP A0 A0 hZ,obs]
   refine ⟨_,rfl,?_⟩
   rw [h1]
   show Sum.inr _=Sum.inr _
   rw [show pvs p n (tp (tp (Rd p A))) w=pvs p n A w from ie]
  ·have hk':keeps n w A p=false:=decide_eq_false A0
   rw [hk',K0 H0] at h1
   exact ⟨_,rfl,hkl,w5 A0,h1⟩
 unfold m_kt
 rw [hI,obs]
 simp only [if_true]
 rw [hV,obs,hl,obs,hloop,obs]
 cases l.find? (keeps n w A) with
 | none=>rfl
 | some p=>simp only [hrk]
end
def Asc (l:LI) (m:Int):Prop:=∀ k,k < l.length→0≤l.getD k 0∧l.getD k 0 < m∧(0 < k→l.getD (k - 1) 0 < l.getD k 0)
theorem Asc.lt {l:LI} {m:Int} (h:Asc l m) {i j:Nat} (hij:i < j) (hj:j < l.length):l.getD i 0 < l.getD j 0:=by
 have key:∀ d,i+d+1 < l.length→l.getD i 0 < l.getD (i+d+1) 0:=by
  intro d
  induction d with
  | zero=>intro hd; exact (h (i+0+1) hd).2.2 A0
  | succ d ih=>
   intro hd
   have h1:=(h (i+(d+1)+1) hd).2.2 A0
   have h2:=ih A0
   rw [show i+(d+1)+1 - 1=i+d+1 by omega] at h1
   omega
 have:=key (j - i - 1) A0
 rwa [show i+(j - i - 1)+1=j by omega] at this
theorem Xc {l:LI} {k:Nat} (h:k < l.length):getI l (k:Int)=some (l.getD k 0):=W2 (by rw [M5,U3 h]; rfl) rfl
theorem au {l:LI} {c m:Int} (hl:l.length≤1000000):Ret (m_he l c m) (fun b=>b=true↔(l.length:Int)=c∧Asc l m):=by
 unfold m_he
 rw [O0]
 refine ⟨fun h=>?_,fun h=>⟨_,rfl,by simp [h]⟩⟩
 rw [J0]
 refine (Q0 (Post:=fun o:Unit⊕Unit=>(o=.inl ()∧Asc l m)∨(o=.inr ()∧¬ Asc l m)) l.length (fun k (t:Int)=>t=(k:Int)∧∀ i,i < k→i < l.length→0≤l.getD i 0∧l.getD i 0 < m∧(0 < i→l.getD (i - 1) 0 < l.getD i 0)) ⟨rfl,by intro i hi; omega⟩ ?_ A0).mono ?_
 ·rintro k _ hk ⟨rfl,h1⟩
  unfold m_hd
  rw [O0]
  refine ⟨fun hlt=>?_,fun hge=>⟨_,rfl,.inl ⟨rfl,fun i hi=>h1 i A0 hi⟩⟩⟩
  have hkl:k < l.length:=A0
  rw [Xc hkl,obs,J0]
  have hb:Ret (if (decide (l.getD k 0 < 0) || decide (m≤l.getD k 0))=true then some true else (if (0:Int) < (k:Int) then (getI l (ws .i64 (k:Int) 1)).bind fun e=>some (decide (l.getD k 0≤e)) else some false).bind fun f=>some f) (fun g=>g=true↔¬ (0≤l.getD k 0∧l.getD k 0 < m∧(0 < k→l.getD (k - 1) 0 < l.getD k 0))):=by
   rw [O0]
   refine ⟨fun h=>⟨_,rfl,?_⟩,fun h=>?_⟩
   ·simp only [H5,decide_eq_true_eq] at h
    simp only [true_iff]
    omega
   ·simp only [H5,decide_eq_true_eq] at h
    rw [J0,O0]
    refine ⟨fun h0=>?_,fun h0=>⟨_,rfl,_,rfl,?_⟩⟩
    ·rw [V2 A0 A0,show (k:Int) - 1=((k - 1:Nat):Int) by omega,Xc A0,obs]
     refine ⟨_,rfl,_,rfl,?_⟩
     show decide _=true↔_
     rw [decide_eq_true_eq]
     omega
    ·simp only [E9,false_iff,Yu]
     omega
  refine hb.mono fun g hg=>?_
  rw [O0]
  refine ⟨fun hgt=>⟨_,rfl,.inr ⟨rfl,fun ha=>hg.1 hgt (ha k hkl)⟩⟩,fun hgf=>⟨_,rfl,hkl,w5 A0,fun i hi hil=>?_⟩⟩
  by_cases e:i=k
  ·subst e
   exact H1 fun hc=>hgf (hg.2 hc)
  ·exact h1 i A0 hil
 ·rintro _ (⟨rfl,ha⟩ | ⟨rfl,ha⟩)
  ·exact ⟨_,rfl,by simp [h,ha]⟩
  ·exact ⟨_,rfl,by simp [ha]⟩
def Mn (A:Mx) (R C:LI):Mx:=fun i j=>A (R.getD i 0).toNat (C.getD j 0).toNat
section
variable {p:Int} {n w:Nat} {A X:Mx} {T:List (List Nb)} {U:L2}
theorem AA (hP:PP p) (hT:Tg T n w A) (hA:∀ i j,i < n→j < w→Bd (pw 5) (A i j)) {R C:LI} {k:Nat} (hR:R.length=k) (hC:C.length=k) (aR:Asc R n) (aC:Asc C w) (hk:k≤200) {c:Int} {V:List (List Nb)}:Ret (m_iw T c p R C V) (fun b=>b=true↔(pvs p k (Mn A R C) k).length=k):=by
 unfold m_iw
 rw [J0]
 refine (Q0 (Post:=fun U=>Tb U k k (Rd p (Mn A R C))) k (fun i (t:L2×Int)=>t.2=(i:Int)∧Tb t.1 i k (Rd p (Mn A R C))) ⟨rfl,rfl,by intro r hr; omega⟩ ?_ A0).mono ?_
 ·rintro i ⟨U,_⟩ hi ⟨rfl,h1⟩
  simp only at h1
  have hUl:=h1.1
  unfold m_iv
  simp only
  rw [O0,hR]
  refine ⟨fun hlt=>?_,fun hge=>⟨_,rfl,by obtain rfl:i=k:=A0; exact h1⟩⟩
  have hik:i < k:=A0
  obtain ⟨r1,r2,_⟩:=aR i A0
  obtain ⟨row,q1,q2⟩:=hT.at (r:=(R.getD i 0).toNat) (i:=R.getD i 0) A0 A0
  rw [Xc A0,obs,J0]
  refine (Q0 (Post:=fun l=>Ln l k (Rd p (Mn A R C) i)) k (fun j (t:LI×Int)=>t.2=(j:Int)∧Ln t.1 j (Rd p (Mn A R C) i)) ⟨rfl,rfl,by intro r hr; omega⟩ ?_ A0).mono ?_
  ·rintro j ⟨l,_⟩ hj ⟨rfl,g1⟩
   simp only at g1
   have hll:=g1.1
   unfold m_iu
   simp only
   rw [O0,hC]
   refine ⟨fun hlt=>?_,fun hge=>⟨_,rfl,by obtain rfl:j=k:=A0; exact g1⟩⟩
   have hjk:j < k:=A0
   obtain ⟨c1,c2,_⟩:=aC j A0
   obtain ⟨z,z1,z2⟩:=q2.at (c:=(C.getD j 0).toNat) (i:=C.getD j 0) A0 A0
   have hzl:=z2.lenB (hA _ _ A0 A0) ee
   rw [Xc A0,obs,q1,obs,z1,obs,Zq hP z2 A0,obs,J0,D2]
   exact ⟨G0,_,rfl,hjk,w5 A0,Sc g1 rfl⟩
  ·intro l hl
   rw [J0,D2]
   exact ⟨G0,_,rfl,hik,w5 A0,Sd h1 hl⟩
 ·intro U hU
  by_cases h0:k=0
  ·subst h0
   rw [U6 hU.1,KC hP,obs]
   exact ⟨_,rfl,by simp [Vf]⟩
  ·obtain ⟨d,R',o,d1,d2,d3,d4,d5,d6⟩:=det_ok hP A0 hk hU
   have h1:=kr hP A0 hk hk hU
   rw [ir hP A0 hk hk hU d4 d5,ie] at h1
   have h2:(o.2.1.length:Int)=((pvs p k (Mn A R C) k).length:Int):=(Prod.mk.inj (N3 h1)).1
   rw [d1,obs]
   refine ⟨_,rfl,?_⟩
   simp only [decide_true,Bool.true_and,I7,decide_eq_false_iff_not]
   rw [← ne_eq,d6]
   omega
theorem aq {k:Nat} (hk:k≤4) {f:Nat→Int} (hf:∀ i,i < k→Bd (pw 5*pw 31) (f i)) {s:Bool} {l:LI} (h:Bg (sm k f) s l):l.length≤37:=by
 have p5:=W1 5
 have p31:=W1 31
 have h1:pw (5+31)=pw 5*pw 31:=L7 5 31
 have h2:pw 37=B*pw 36:=rfl
 have h3:=W1 36
 have e2:B=4294967296:=rfl
 have h4:pw 36=pw 5*pw 31:=h1
 have hb:=Xd (n:=k) (M:=pw 36) A0 fun i hi=>by rw [h4]; exact hf i hi
 refine h.lenB (hb.mono (X2 (show (k:Int)≤4 by omega) A0)) ?_
 rw [h2,e2]
 omega
theorem mB (hn:n≤1000) (hw:w≤4) (hT:Tg T n w A) (hA:∀ i j,i < n→j < w→Bd (pw 5) (A i j)) {v:List Nb} {u:Nat→Int} (hv:Lg v w u) (hu:∀ j,j < w→Bd (pw 31) (u j)):Ret (m_i4 T v) (fun b=>b=true↔∀ r,r < n→sm w (fun j=>A r j*u j)=0):=by
 have hTl:=hT.1
 unfold m_i4
 rw [J0]
 refine (Q0 (Post:=fun o:Unit⊕Unit=>(o=.inl ()∧∀ r,r < n→sm w (fun j=>A r j*u j)=0)∨(o=.inr ()∧¬ ∀ r,r < n→sm w (fun j=>A r j*u j)=0)) n (fun k (t:Int)=>t=(k:Int)∧∀ r,r < k→sm w (fun j=>A r j*u j)=0) ⟨rfl,by intro i hi; omega⟩ ?_ A0).mono ?_
 ·rintro k _ hk ⟨rfl,h1⟩
  unfold m_i3
  rw [O0,hTl]
  refine ⟨fun hlt=>?_,fun hge=>⟨_,rfl,.inl ⟨rfl,fun r hr=>h1 r A0⟩⟩⟩
  have hkn:k < n:=A0
  obtain ⟨row,q1,q2⟩:=hT.at (r:=k) hkn rfl
  have hql:=q2.1
  rw [q1,obs,show m_f4 0=some (false,[]) by kernel_rfl,obs,J0]
  have hbd:∀ j,j < w→Bd (pw 5*pw 31) (A k j*u j):=fun j hj=>(hA k j hkn hj).mul (hu j hj)
  refine (Q0 (Post:=fun o:Bool×LI=>Bg (sm w fun j=>A k j*u j) o.1 o.2) (s:=(false,[],0)) w (fun j (t:Bool×LI×Int)=>t.2.2=(j:Int)∧Bg (sm j fun j=>A k j*u j) t.1 t.2.1) ⟨rfl,(xe:Bg (sm 0 fun j=>A k j*u j) false [])⟩ ?_ A0).mono ?_
  ·rintro j ⟨zs,zl,_⟩ hj ⟨rfl,g1⟩
   simp only at g1
   unfold m_i2
   simp only
   rw [O0,hql]
   refine ⟨fun hlt=>?_,fun hge=>⟨_,rfl,by obtain rfl:j=w:=A0; exact g1⟩⟩
   have hjw:j < w:=A0
   obtain ⟨y,y1,y2⟩:=q2.at (c:=j) hjw rfl
   obtain ⟨z,z1,z2⟩:=hv.at (c:=j) hjw rfl
   have hyl:=y2.lenB (hA k j hkn hjw) ee
   have hzl:z.2.length≤32:=z2.lenB (hu j hjw) (by have:=W1 31; show pw 31 < B*pw 31; unfold B; omega)
   have hsl:=aq A0 (fun i hi=>hbd i A0) g1
   rw [y1,obs,z1,obs,J0]
   refine (nj (s:=y.1) (t:=z.1) y2.1 z2.1 A0 A0).mono fun r hr=>?_
   rw [y2.sv,z2.sv] at hr
   have hrl:r.2.length≤37:=hr.lenB (hbd j hjw) (by
    have h1:pw (5+31)=pw 5*pw 31:=L7 5 31
    rw [← h1]
    have:=W1 36
    show pw 36 < B*pw 36
    unfold B; omega)
   rw [J0]
   refine (gu (s:=zs) (t:=r.1) g1.1 hr.1 A0 A0).mono fun h hh=>?_
   rw [g1.sv,hr.sv] at hh
   exact ⟨_,rfl,hjw,w5 A0,hh⟩
  ·rintro ⟨zs,zl⟩ hz
   simp only at hz
   have hzl:=aq A0 (fun i hi=>hbd i A0) hz
   simp only
   rw [ae hz.1 A0,obs,hz.sv,O0]
   refine ⟨fun h=>⟨_,rfl,hkn,w5 A0,fun r hr=>?_⟩,fun h=>⟨_,rfl,.inr ⟨rfl,fun ha=>h ?_⟩⟩⟩
   ·by_cases e:r=k
    ·subst e
     split at h
     ·omega
     ·split at h<;>omega
    ·exact h1 r A0
   ·rw [ha k hkn]; rfl
 ·rintro _ (⟨rfl,ha⟩ | ⟨rfl,ha⟩)
  ·exact ⟨_,rfl,by simpa using ha⟩
  ·exact ⟨_,rfl,by simp only [E9,false_iff]; exact ha⟩
def MB2:Int:=2*(4*MB) ^ 6
theorem CA:MB2 < pw 190:=by
 have e1:4*pw 5=2 ^ 162:=by
  rw [D7,show 162=2+32*5 from rfl,X4]; rfl
 have e2:4*MB=2 ^ 975:=by
  unfold MB
  rw [e1,← il,show 975=3+162*6 from rfl,X4]
  generalize (2:Int) ^ (162*6)=x
  show 4*(2*x)=8*x
  omega
 have e3:MB2=2 ^ 5851:=by
  unfold MB2
  rw [e2,← il,show 5851=1+975*6 from rfl,X4]; rfl
 rw [e3,D7]
 have h1:=T9 (N:=5852) (M:=32*190) A0
 have h2:(2:Int) ^ 5852=2 ^ 5851*2:=by rw [show 5852=5851+1 from rfl,H8]
 have h3:(0:Int) < 2 ^ 5851:=C5 A0
 omega
theorem okbV {m:Nat} {Y:Mx} (hm:m≤4) (hY:∀ i j,i < m→j < w→Bd MB (Y i j)):Okb m w Y MB2:=by
 have hb:=Yr
 have h:=bj (K:=4) (M:=MB) hb A0 hm hY
 have hp:2*(((4:Nat):Int)*MB) ^ (m+2)≤MB2:=by
  have:=ke (X:=((4:Nat):Int)*MB) A0 (m:=m+2) (n:=6) A0
  unfold MB2
  show 2*(4*MB) ^ (m+2)≤_
  have h2:(((4:Nat):Int)*MB) ^ (m+2)=(4*MB) ^ (m+2):=rfl
  have h3:(((4:Nat):Int)*MB) ^ 6=(4*MB) ^ 6:=rfl
  omega
 exact fun A' cl q i j h1 h2 h3 h4 h5=>⟨(h A' cl q i j h1 h2 h3 h4 h5).1.mono hp,(h A' cl q i j h1 h2 h3 h4 h5).2.mono hp⟩
theorem Zr:MB < pw 31:=by
 have e1:4*pw 5=2 ^ 162:=by
  rw [D7,show 162=2+32*5 from rfl,X4]; rfl
 have e2:MB=2 ^ 973:=by
  unfold MB
  rw [e1,← il,show 973=1+162*6 from rfl,X4]; rfl
 rw [e2,D7]
 have h1:=T9 (N:=974) (M:=32*31) A0
 have h2:(2:Int) ^ 974=2 ^ 973*2:=by rw [show 974=973+1 from rfl,H8]
 have h3:(0:Int) < 2 ^ 973:=C5 A0
 omega
theorem Bw {m:Nat} {Y:Mx} {V:List (List Nb)} (hm:m≤4) (hw:w≤4) (hV:Tg V m w Y) (hY:∀ i j,i < m→j < w→Bd MB (Y i j)):m_jr V=some (((pvs 0 m Y w).length:Int),0):=by
 by_cases h0:m=0
 ·subst h0
  rw [Wi,U6 hV.1,cm]; rfl
 ·obtain ⟨k,h1,A',col,sn,h2⟩:=Jl CA (hV.tr hY Zr) A0 (okbV hm hY) A0 A0 (.inl A0)
  rw [h1,h2.rn.len U5]
def Acc (n w:Nat) (A:Mx) (m:Nat) (Y:Mx) (r p:Int) (R C:LI):Prop:=PP p∧((R.length:Int)=r∧Asc R n)∧((C.length:Int)=r∧Asc C w)∧(pvs p R.length (Mn A R C) R.length).length=R.length∧(m:Int)=w - r∧(∀ i,i < m→∀ s,s < n→sm w (fun j=>A s j*Y i j)=0)∧(pvs 0 m Y w).length=m
theorem TC (hn:n≤4) (hw:w≤4) (hT:Tg T n w A) (hA:∀ i j,i < n→j < w→Bd (pw 5) (A i j)) {st ix vl:LI} {sh:Int} (hI:m_ha (n:Int) (w:Int) st ix vl=some (T,sh,0)) {m:Nat} {Y:Mx} {V:List (List Nb)} (hm:m≤4) (hV:Tg V m w Y) (hY:∀ i j,i < m→j < w→Bd MB (Y i j)) {r p:Int} {R C:LI} (hR:R.length≤200) (hC:C.length≤200):Ret (m_jt (n:Int) (w:Int) st ix vl r p R C V) (fun b=>b=true↔Acc n w A m Y r p R C):=by
 have hVl:=hV.1
 unfold m_jt
 rw [hI,obs]
 simp only [if_true]
 have fls:∀ {P:Prop},¬ P→Ret (some false) (fun b=>b=true↔P):=fun h=>⟨_,rfl,by simp [h]⟩
 rcases Ej p with hp | ⟨hp,hP⟩
 ·rw [hp,obs,obs,M0 (by rfl)]
  exact fls fun h=>by rw [Xi h.1] at hp; cases hp
 rw [hp,obs,obs,K0 (by have:=hP.max; simp; omega),J0]
 refine (au A0).mono fun b1 hb1=>?_
 rw [J0,O0]
 have step:Ret (if b1=true then (m_he C r (w:Int)).bind fun q=>some (!q) else some true) (fun x=>x=false↔((R.length:Int)=r∧Asc R n)∧((C.length:Int)=r∧Asc C w)):=by
  rw [O0]
  refine ⟨fun h=>?_,fun h=>⟨_,rfl,by simp only [Bool.true_eq_false,false_iff]; exact fun hh=>h (hb1.2 hh.1)⟩⟩
  rw [J0]
  refine (au A0).mono fun b2 hb2=>⟨_,rfl,?_⟩
  show (!b2)=false↔_
  rw [Bool.not_eq_false',hb2]
  exact ⟨fun h2=>⟨hb1.1 h,h2⟩,fun h2=>h2.2⟩
 rw [← O0]
 refine step.mono fun x hx=>?_
 rw [J0]
 have step2:Ret (if x=true then some true else (m_iw T r p R C V).bind fun s=>some (!s)) (fun y=>y=false↔(((R.length:Int)=r∧Asc R n)∧((C.length:Int)=r∧Asc C w))∧(pvs p R.length (Mn A R C) R.length).length=R.length):=by
  rw [O0]
  refine ⟨fun h=>⟨_,rfl,by simp only [Bool.true_eq_false,false_iff]; exact fun hh=>by rw [hx.2 hh.1] at h; cases h⟩,fun h=>?_⟩
  have hx':=hx.1 (by simpa using h)
  rw [J0]
  refine (AA hP hT hA rfl A0 hx'.1.2 hx'.2.2 hR).mono fun s hs=>⟨_,rfl,?_⟩
  show (!s)=false↔_
  rw [Bool.not_eq_false',hs]
  exact ⟨fun h2=>⟨hx',h2⟩,fun h2=>h2.2⟩
 refine step2.mono fun y hy=>?_
 rw [O0]
 refine ⟨fun h=>fls fun ha=>(by rw [hy.2 ⟨⟨ha.2.1,ha.2.2.1⟩,ha.2.2.2.1⟩] at h; cases h),fun h=>?_⟩
 obtain ⟨⟨y1,y2⟩,y3⟩:=hy.1 (by simpa using h)
 rw [V2 A0 A0,O0,hVl]
 refine ⟨fun h5=>?_,fun h5=>fls fun ha=>h5 ha.2.2.2.2.1⟩
 rw [J0]
 refine (Q0 (Post:=fun o:Unit⊕Unit=>(o=.inl ()∧∀ i,i < m→∀ s,s < n→sm w (fun j=>A s j*Y i j)=0)∨(o=.inr ()∧¬ ∀ i,i < m→∀ s,s < n→sm w (fun j=>A s j*Y i j)=0)) m (fun k (t:Int)=>t=(k:Int)∧∀ i,i < k→∀ s,s < n→sm w (fun j=>A s j*Y i j)=0) ⟨rfl,by intro i hi; omega⟩ ?_ A0).mono ?_
 ·rintro k _ hk ⟨rfl,h1⟩
  unfold m_js
  rw [O0,hVl]
  refine ⟨fun hlt=>?_,fun hge=>⟨_,rfl,.inl ⟨rfl,fun i hi=>h1 i A0⟩⟩⟩
  have hkm:k < m:=A0
  obtain ⟨v,v1,v2⟩:=hV.at (r:=k) hkm rfl
  rw [v1,obs,v2.1,M0 rfl,J0,J0]
  refine (mB A0 hw hT hA v2 fun j hj=>(hY k j hkm hj).mono (by have:=Zr; omega)).mono fun b hb=>?_
  rw [D4,O0]
  refine ⟨fun hf=>⟨_,rfl,.inr ⟨rfl,fun ha=>?_⟩⟩,fun hf=>⟨_,rfl,hkm,w5 A0,fun i hi=>?_⟩⟩
  ·rw [hb.2 (ha k hkm)] at hf
   cases hf
  ·by_cases e:i=k
   ·subst e; exact hb.1 (by simpa using hf)
   ·exact h1 i A0
 ·rintro _ (⟨rfl,ha⟩ | ⟨rfl,ha⟩)
  ·simp only
   rw [Bw hm hw hV hY,obs]
   refine ⟨_,rfl,?_⟩
   simp only [decide_true,Bool.true_and,decide_eq_true_eq]
   constructor
   ·intro h; exact ⟨hP,y1,y2,y3,h5,ha,A0⟩
   ·intro h; have:=h.2.2.2.2.2.2; omega
  ·exact fls fun h=>ha h.2.2.2.2.2.1
theorem kD {m:Nat} {Y:Mx} {r p:Int} {R C:LI} (h:Acc n w A m Y r p R C):r=((pvs 0 n A w).length:Int):=by
 obtain ⟨hP,⟨r1,r2⟩,⟨c1,c2⟩,h3,h4,h5,h6⟩:=h
 have hCR:C.length=R.length:=A0
 have hi:=zr (T8 hP) h3
 have hi2:Ind p n A (fun s=>(C.getD s 0).toNat) R.length:=Ind.rows (B:=A) (R:=fun i=>(R.getD i 0).toNat) (fun i hi=>by
  have:=r2 i hi
  omega) (A:=A) hi
 have hi3:=hi2.lift hP.two
 have hle:=Ind.le U5 (Rn.can (n:=n) (w:=w) (A:=A) U5) (fun s hs=>by
  have:=c2 s A0
  omega) hi3
 have hk:=XA (n:=n) (w:=w) (A:=A) (V:=Y) (m:=m) h5 (by
  have h7:(pvs 0 w (tp Y) m).length=m:=by rw [← Si U5]; exact h6
  exact zr U5 h7)
 omega
end
theorem mg (l:List Nat) (k:Nat):(ints l).getD k 0=((l.getD k 0:Nat):Int):=by
 unfold ints
 rw [M5,M5,Ra]
 cases l[k]?<;>rfl
section
variable {n w:Nat} {A:Mx}
end
theorem Oz (n:Int):m_ek n=m_kf n:=by
 funext ⟨l,i⟩
 have h:decide ((1:Int) < i)=decide ((2:Int)≤i):=decide_eq_decide.2 A0
 show (if ((decide ((1:Int) < i)) && (decide ((l.length:Int) < (imin n 100))))=true then _ else _)=_
 rw [h]
 rfl
theorem Pz:m_el 2147483648 5=m_kg 2147483648 5:=by
 have e1:ws .i64 (imin 2147483648 2147483648) 1=imin (ws .i64 2147483648 1) 2147483647:=I0
 unfold m_el m_kg
 rw [B0,B0,e1,Oz]
section
variable {p:Int} {n w:Nat} {A X:Mx} {T:List (List Nb)} {U:L2}
theorem Xy {v:Int} (hP:PP p) {s:Bool} {l:LI} (h:Bg v s l) (hl:l.length≤800):m_em s l p=some (v % p):=by
 have h2:=hP.two
 have h3:=hP.max
 have e1:pw 1=4294967296:=by
  show B*pw 0=_
  unfold B
  rfl
 refine Ret.eq ?_
 unfold m_em
 rw [J0]
 refine (Y9 (n:=p) A0 A0).mono fun r hr=>?_
 have hrl:=hr.len (m:=1) A0 A0
 rw [J0]
 refine (Pj (s:=s) (t:=r.1) h.1 hr.1 hl A0 (by rw [hr.sv]; omega)).mono fun q hq=>?_
 obtain ⟨_,q2⟩:=hq
 rw [h.sv,hr.sv] at q2
 have hm:=M7 v (show 0 < p by omega)
 have hs:q.2.2.1=false:=by
  cases hb:q.2.2.1 with
  | false=>rfl
  | true=>have:=q2.neg.1 hb; omega
 have ha:=q2.abs
 rw [B0] at ha
 rw [hs,eB hm.1 (by unfold B; omega) q2.1 q2.2.1 ha,obs]
 exact ⟨_,rfl,rfl⟩
theorem Wy (hP:PP p) (hT:Tg T n w A) (hA:∀ i j,i < n→j < w→Bd (pw 5) (A i j)) (hn:n≤1000) (hw:w≤1000):Ret (m_ep T p) (fun U=>Tb U n w (Rd p A)):=by
 have hTl:=hT.1
 unfold m_ep
 rw [J0]
 refine (Q0 (Post:=fun U=>Tb U n w (Rd p A)) n (fun k (t:L2×Int)=>t.2=(k:Int)∧Tb t.1 k w (Rd p A)) ⟨rfl,rfl,by intro r hr; omega⟩ ?_ A0).mono fun U h=>⟨U,rfl,h⟩
 rintro k ⟨U,_⟩ hk ⟨rfl,h1⟩
 simp only at h1
 have hUl:=h1.1
 unfold m_eo
 simp only
 rw [O0,hTl]
 refine ⟨fun hlt=>?_,fun hge=>⟨_,rfl,by obtain rfl:k=n:=A0; exact h1⟩⟩
 have hkn:k < n:=A0
 obtain ⟨row,r1,r2⟩:=hT.at (r:=k) hkn rfl
 have hrl:=r2.1
 rw [J0]
 refine (Q0 (Post:=fun l=>Ln l w (Rd p A k)) w (fun j (t:LI×Int)=>t.2=(j:Int)∧Ln t.1 j (Rd p A k)) ⟨rfl,rfl,by intro c hc; omega⟩ ?_ A0).mono ?_
 ·rintro j ⟨l,_⟩ hj ⟨rfl,l1⟩
  simp only at l1
  have hll:=l1.1
  unfold m_en
  simp only
  rw [r1,obs,O0,hrl]
  refine ⟨fun hlt=>?_,fun hge=>⟨_,rfl,(by obtain rfl:j=w:=A0; exact l1)⟩⟩
  have hjw:j < w:=A0
  obtain ⟨z,z1,z2⟩:=r2.at (c:=j) hjw rfl
  have hzl:=z2.lenB (hA k j hkn hjw) ee
  rw [obs,z1,obs,Xy hP z2 A0,obs,J0,D2]
  exact ⟨G0,_,rfl,hjw,w5 A0,Sc l1 rfl⟩
 ·intro l hl
  rw [J0,D2]
  exact ⟨G0,_,rfl,hkn,w5 A0,Sd h1 hl⟩
theorem Zz (hU:Tb U n w X) {R C:LI} (hR:∀ k,k < R.length→0≤R.getD k 0∧R.getD k 0 < n) (hC:∀ k,k < C.length→0≤C.getD k 0∧C.getD k 0 < w) (hRl:R.length≤1000) (hCl:C.length≤1000):Ret (m_eu U R C) (fun V=>Tb V R.length C.length (Mn X R C)):=by
 unfold m_eu
 rw [J0]
 refine (Q0 (Post:=fun U=>Tb U R.length C.length (Mn X R C)) R.length (fun k (t:L2×Int)=>t.2=(k:Int)∧Tb t.1 k C.length (Mn X R C)) ⟨rfl,rfl,by intro r hr; omega⟩ ?_ A0).mono fun U h=>⟨U,rfl,h⟩
 rintro k ⟨V,_⟩ hk ⟨rfl,h1⟩
 simp only at h1
 have hVl:=h1.1
 unfold m_et
 simp only
 rw [O0]
 refine ⟨fun hlt=>?_,fun hge=>⟨_,rfl,by obtain rfl:k=R.length:=A0; exact h1⟩⟩
 have hkR:k < R.length:=A0
 obtain ⟨a1,a2⟩:=hR k hkR
 obtain ⟨row,r1,r2⟩:=hU.2 (R.getD k 0).toNat A0
 rw [J0]
 refine (Q0 (Post:=fun l=>Ln l C.length (Mn X R C k)) C.length (fun j (t:LI×Int)=>t.2=(j:Int)∧Ln t.1 j (Mn X R C k)) ⟨rfl,rfl,by intro c hc; omega⟩ ?_ A0).mono ?_
 ·rintro j ⟨l,_⟩ hj ⟨rfl,l1⟩
  simp only at l1
  have hll:=l1.1
  unfold m_es
  simp only
  rw [O0]
  refine ⟨fun hlt=>?_,fun hge=>⟨_,rfl,(by obtain rfl:j=C.length:=A0; exact l1)⟩⟩
  have hjC:j < C.length:=A0
  obtain ⟨b1,b2⟩:=hC j hjC
  rw [Xc hkR,obs,W2 (k:=(R.getD k 0).toNat) r1 A0,obs,Xc hjC,obs,W2 (k:=(C.getD j 0).toNat) (r2.2 _ A0) A0,obs,J0,D2]
  exact ⟨G0,_,rfl,hjC,w5 A0,Sc l1 rfl⟩
 ·intro l hl
  rw [J0,D2]
  exact ⟨G0,_,rfl,hkR,w5 A0,Sd h1 hl⟩
theorem gD (hn:n≤1000):m_er (n:Int)=some (ints (List.range n)):=by
 refine Ret.eq ?_
 unfold m_er
 rw [J0]
 refine (Q0 (Post:=fun l=>l=ints (List.range n)) n (fun k (t:LI×Int)=>t.2=(k:Int)∧t.1=ints (List.range k)) ⟨rfl,rfl⟩ ?_ A0).mono fun U h=>⟨U,rfl,h⟩
 rintro k ⟨_,_⟩ hk ⟨rfl,rfl⟩
 unfold m_eq
 simp only
 rw [O0]
 refine ⟨fun hlt=>?_,fun hge=>⟨_,rfl,by obtain rfl:k=n:=A0; rfl⟩⟩
 rw [J0,D2]
 refine ⟨by rw [K6,w7]; simp only [E2,N2]; omega,_,rfl,A0,w5 A0,?_⟩
 show ints (List.range k)++[(k:Int)]=_
 rw [se,Bb]
theorem Yy (hP:PP p):m_fc [] p=some 0:=by
 have hp:=hP.two
 have h1':m_ex []=some 0:=rfl
 have h5:m_fb [] p=some ([],[],1):=by
  refine Ret.eq ?_
  unfold m_fb
  rw [J0]
  refine (Q0 (Post:=fun R=>R=[]) 0 (fun k (s:L2×Int)=>s=([],0)) rfl ?_ A0).mono fun R h=>?_
  ·rintro k _ hk rfl
   exact ⟨_,rfl,rfl⟩
  ·subst h
   rw [Ic A0 A0,obs,Y4 A0 A0,J0]
   refine (Q0 (Post:=fun o=>o=([],1,[])) 0 (fun k (s:L2×Int×LI×Int)=>s=([],1,[],0)) rfl ?_ A0).mono fun o h=>by subst h; exact ⟨_,rfl,rfl⟩
   rintro k _ hk rfl
   unfold m_e8
   simp only
   rw [h1',obs]
   exact ⟨_,rfl,rfl⟩
 unfold m_fc
 rw [h5,obs]
 rfl
theorem Iz (hP:PP p) {A:Mx} {w:Nat}:pvs p 0 A w=[]:=by
 refine LD.2 fun j hj=>?_
 exact (Q8.1 hj).2 ⟨fun _=>1,(T8 hP).one,fun r hr=>absurd hr A0⟩
theorem Zy (hP:PP p) (hn2:n≤200) (hw:w≤200) (hU:Tb U n w X):m_fc U p=some ((pvs p n X w).length:Int):=by
 by_cases h0:n=0
 ·subst h0
  rw [U6 hU.1,Yy hP,Iz hP]; rfl
 ·obtain ⟨o,ho,k,B,col,e1,e2,e3,e4,e5⟩:=vC hP A0 A0 A0 hU
  unfold m_fc
  rw [ho,obs,e4.1,(e2.rn (T8 hP) e3).len (T8 hP),ie]
theorem mr {k:Nat} (h:k < n):(List.range n).getD k 0=k:=by
 rw [M5,Cc h]; rfl
theorem Hs (hP:PP p) (hn:n≤100) (hw:w≤100) (hU:Tb U n w X):m_ff U (w:Int) p=some (ints (pvs p n X w)):=by
 have hUl:=hU.1
 refine Ret.eq ?_
 unfold m_ff
 rw [J0]
 refine (Q0 (Post:=fun l=>l=ints (pvs p n X w)) w (fun k (t:LI×Int)=>t.2=(k:Int)∧t.1=ints (pvs p n X k)) ⟨rfl,rfl⟩ ?_ A0).mono fun U h=>⟨U,rfl,h⟩
 rintro k ⟨_,_⟩ hk ⟨rfl,rfl⟩
 have hpl:=je (p:=p) (n:=n) (A:=X) k
 unfold m_fe
 simp only
 rw [O0]
 refine ⟨fun hlt=>?_,fun hge=>⟨_,rfl,by obtain rfl:k=w:=A0; rfl⟩⟩
 have hkw:k < w:=A0
 have hilen:=K6 (pvs p n X k)
 rw [hUl,gD A0,obs,J0,D2]
 refine ⟨by rw [hilen]; simp only [N2]; omega,?_⟩
 rw [xc,J0,D2]
 refine ⟨by rw [hilen]; simp only [E2,N2]; omega,?_⟩
 rw [se,J0]
 have hlen:(pvs p n X k++[k]).length=(pvs p n X k).length+1:=by rw [P1]; rfl
 have hC:Cs_ w (pvs p n X k++[k]):=by
  refine ⟨?_,fun x hx=>?_⟩
  ·rw [Ge]
   exact ⟨Xb,bh ..,fun x hx y hy=>by rw [w6.1 hy]; exact (Q8.1 hx).1⟩
  ·rcases Z6.1 hx with hx | hx
   ·have:=(Q8.1 hx).1; omega
   ·rw [w6.1 hx]; exact hkw
 refine (Zz hU (R:=ints (List.range n)) (C:=ints (pvs p n X k++[k])) (fun i hi=>?_) (fun i hi=>?_) (by rw [K6,w7]; omega) (by rw [K6,hlen]; omega)).mono fun V hV=>?_
 ·rw [K6,w7] at hi
  rw [mg,mr hi]
  omega
 ·rw [K6] at hi
  rw [mg]
  have:=hC.lt hi
  omega
 rw [K6,K6,w7,hlen] at hV
 have hV2:Tb V n ((pvs p n X k).length+1) (sub X (pvs p n X k++[k])):=hV.congr fun r c hr hc=>by
  unfold Mn sub
  rw [mg,mg,mr hr]
  rfl
 rw [Zy hP A0 A0 hV2,obs,hilen,O0]
 unfold m_fd
 refine ⟨fun he=>?_,fun he=>?_⟩
 ·have hF:¬ Dt.Fr p n X k:=fun hF=>by
   rw [Ud (T8 hP) hF] at he
   omega
  rw [J0,D2]
  exact ⟨by rw [hilen]; simp only [E2,N2]; omega,_,rfl,hkw,w5 A0,by rw [Wb hF]; exact se ..⟩
 ·have hF:Dt.Fr p n X k:=H1 fun hF=>he (by rw [Ei (T8 hP) hF]; omega)
  exact ⟨_,rfl,hkw,w5 A0,by rw [eb hF]⟩
theorem Jw (hU:Tb U n w X) (hn:n≤1000) (hw:w≤1000):Ret (m_fi U (w:Int)) (fun V=>Tb V w n (tp X)):=by
 have hUl:=hU.1
 unfold m_fi
 rw [J0]
 refine (Q0 (Post:=fun U=>Tb U w n (tp X)) w (fun k (t:L2×Int)=>t.2=(k:Int)∧Tb t.1 k n (tp X)) ⟨rfl,rfl,by intro r hr; omega⟩ ?_ A0).mono fun U h=>⟨U,rfl,h⟩
 rintro k ⟨V,_⟩ hk ⟨rfl,h1⟩
 simp only at h1
 have hVl:=h1.1
 unfold m_fh
 simp only
 rw [O0]
 refine ⟨fun hlt=>?_,fun hge=>⟨_,rfl,by obtain rfl:k=w:=A0; exact h1⟩⟩
 have hkw:k < w:=A0
 rw [J0]
 refine (Q0 (Post:=fun l=>Ln l n (tp X k)) n (fun j (t:LI×Int)=>t.2=(j:Int)∧Ln t.1 j (tp X k)) ⟨rfl,rfl,by intro c hc; omega⟩ ?_ A0).mono ?_
 ·rintro j ⟨l,_⟩ hj ⟨rfl,l1⟩
  simp only at l1
  have hll:=l1.1
  unfold m_fg
  simp only
  rw [O0,hUl]
  refine ⟨fun hlt=>?_,fun hge=>⟨_,rfl,(by obtain rfl:j=n:=A0; exact l1)⟩⟩
  have hjn:j < n:=A0
  obtain ⟨row,r1,r2⟩:=hU.2 j hjn
  rw [W2 r1 rfl,obs,W2 (r2.2 k hkw) rfl,obs,J0,D2]
  exact ⟨G0,_,rfl,hjn,w5 A0,Sc l1 rfl⟩
 ·intro l hl
  rw [J0,D2]
  exact ⟨G0,_,rfl,hkw,w5 A0,Sd h1 hl⟩
theorem wz (hn:n≤4) (hw:w≤4) (hT:Tg T n w A) (hA:∀ i j,i < n→j < w→Bd (pw 5) (A i j)) {st ix vl:LI} {sh:Int} (hI:m_c1 (n:Int) (w:Int) st ix vl=some (T,sh,0)) {l:LI} (hl:m_el 2147483648 5=some l) (hl5:l.length≤5) (hlp:∀ p,p∈l→PP p) {V:List (List Nb)} (hV:m_eg T (w:Int)=some V) (hVl:V.length=(frs n A w).length):m_fk (n:Int) (w:Int) st ix vl=some (match l.find? (keeps n w A) with | none=>(0,0,[],[],[],420) | some p=>(((pvs 0 n A w).length:Int),p,ints (pvs p w (tp A) n),ints (pvs p n A w),V,0)):=by
 have hf:=ug (n:=n) (A:=A) w
 have hrk:ws .i64 (w:Int) (V.length:Int)=((pvs 0 n A w).length:Int):=by rw [V2 A0 A0]; omega
 have hloop:loop (m_fj l (T,sh,0) (w:Int) V (n:Int)) 0=some (match l.find? (keeps n w A) with | none=>.inl () | some p=>.inr (p,ints (pvs p w (tp A) n),ints (pvs p n A w))):=by
  refine Ret.eq (Q0 l.length (fun k (t:Int)=>t=(k:Int)∧l.find? (keeps n w A)=(l.drop k).find? (keeps n w A)) ⟨rfl,by rw [B9]⟩ ?_ A0)
  rintro k _ hk ⟨rfl,h1⟩
  unfold m_fj
  rw [O0]
  refine ⟨fun hlt=>?_,fun hge=>⟨_,rfl,by rw [h1,Je A0]; rfl⟩⟩
  have hkl:k < l.length:=A0
  have hP:=hlp _ (z6 hkl)
  rw [nt hkl] at h1
  simp only [W2 (U3 hkl) rfl,obs]
  rw [J0]
  generalize l[k]=p at hP h1 ⊢
  refine (Wy hP hT hA A0 A0).mono fun U hU=>?_
  rw [Hs hP A0 A0 hU,obs,K6,ie,hrk,O0]
  refine ⟨fun he=>?_,fun he=>?_⟩
  ·have hk':keeps n w A p=true:=decide_eq_true A0
   rw [M0 hk'] at h1
   rw [J0]
   refine (Jw hU A0 A0).mono fun Z hZ=>?_
   rw [Hs hP A0 A0 hZ,obs]
   refine ⟨_,rfl,?_⟩
   rw [h1]
   show Sum.inr _=Sum.inr _
   rw [yr]
  ·have hk':keeps n w A p=false:=decide_eq_false A0
   rw [hk',K0 H0] at h1
   exact ⟨_,rfl,hkl,w5 A0,h1⟩
 unfold m_fk
 rw [hI,obs]
 simp only [if_true]
 rw [hV,obs,hl,obs,hloop,obs]
 cases l.find? (keeps n w A) with
 | none=>rfl
 | some p=>simp only [hrk]
end
def OkV (w:Nat) (L:List (List Nb)):Prop:=∀ v,v∈L→∃ u:Nat→Int,Lg v w u∧∀ j,j < w→Bd MB (u j)
theorem OkV.tab {w:Nat} {L:List (List Nb)} (h:OkV w L):∃ Y:Mx,Tg L L.length w Y∧∀ i j,i < L.length→j < w→Bd MB (Y i j):=by
 have key:∀ i,∃ u:Nat→Int,i < L.length→(∃ v,L[i]?=some v∧Lg v w u)∧∀ j,j < w→Bd MB (u j):=by
  intro i
  by_cases hi:i < L.length
  ·obtain ⟨u,u1,u2⟩:=h _ (z6 hi)
   exact ⟨u,fun _=>⟨⟨_,U3 hi,u1⟩,u2⟩⟩
  ·exact ⟨fun _=>0,fun h'=>absurd h' hi⟩
 obtain ⟨Y,hY⟩:=Classical.axiomOfChoice key
 exact ⟨Y,⟨rfl,fun r hr=>(hY r hr).1⟩,fun i j hi hj=>(hY i hi).2 j hj⟩
section
variable {n w:Nat} {st ix vl:LI}
theorem kq (rows:BL) (hn:n≤1000):Ret (loop (m_k4 ((n:Int),(w:Int),st,ix,vl) rows) ([],0)) (fun l=>l.length≤n):=by
 refine Q0 n (fun k (t:LI×Int)=>t.2=(k:Int)∧t.1.length≤k) ⟨rfl,O2 0⟩ ?_ A0
 rintro k ⟨l,_⟩ hk ⟨rfl,h1⟩
 simp only at h1
 unfold m_k4 m_k3
 simp only
 rw [O0]
 refine ⟨fun hlt=>?_,fun hge=>⟨_,rfl,by show l.length≤n; omega⟩⟩
 have hb:Ret (if (k:Int) < (rows.length:Int) then (getI rows (k:Int)).bind fun x=>some x else some false) (fun _=>True):=by
  rw [O0]
  refine ⟨fun h=>?_,fun _=>⟨_,rfl,trivial⟩⟩
  rw [J0,C3]
  exact ⟨A0,A0,fun x _=>⟨_,rfl,trivial⟩⟩
 rw [J0]
 refine hb.mono fun b _=>?_
 rw [O0]
 refine ⟨fun _=>?_,fun _=>⟨_,rfl,A0,w5 A0,by show l.length≤k+1; omega⟩⟩
 rw [J0,D2]
 exact ⟨G0,_,rfl,A0,w5 A0,by show (l++[(k:Int)]).length≤k+1; rw [P1]; simp only [E2,N2]; omega⟩
theorem Fx (cols:BL) (hw:w≤1000):Ret (loop (m_k2 ((n:Int),(w:Int),st,ix,vl) cols) ([],0)) (fun l=>l.length≤w):=
 kq (n:=w) (w:=n) (st:=st) (ix:=ix) (vl:=vl) cols hw
theorem Ex {r:Int} {L:List (List Nb)} (hL:OkV w L) (hl:L.length≤4):Ret (loop (m_k0 ((n:Int),(w:Int),st,ix,vl) r) L) (fun L'=>OkV w L'∧L'.length≤4):=by
 refine Vb (fun (L:List (List Nb))=>OkV w L∧L.length≤4) (fun L=>L.length) ⟨hL,hl⟩ A0 ?_
 rintro L ⟨h1,h2⟩
 unfold m_k0
 rw [O0]
 refine ⟨fun hc=>?_,fun _=>⟨_,rfl,h1,h2⟩⟩
 simp only [V3,decide_eq_true_eq] at hc
 rw [J0,Qc]
 have e1:(1:Int).toNat=1:=rfl
 refine ⟨A0,A0,A0,_,rfl,⟨fun v hv=>?_,?_⟩,?_⟩
 ·exact h1 v (Gu (List.mem_of_mem_drop hv))
 ·rw [e1,y6,Z3]; omega
 ·show ((L.take _).drop _).length < L.length
  rw [e1,y6,Z3]; omega
theorem Dx {r:Int} (hr:0≤r∧r < 5) (hw:w≤4) {L:List (List Nb)} (hL:OkV w L) (hl:L.length≤4):Ret (loop (m_kz ((n:Int),(w:Int),st,ix,vl) r) L) (fun L'=>OkV w L'∧L'.length≤4):=by
 refine Vb (fun (L:List (List Nb))=>OkV w L∧L.length≤4) (fun L=>5 - L.length) ⟨hL,hl⟩ A0 ?_
 rintro L ⟨h1,h2⟩
 unfold m_kz
 simp only
 rw [V2 A0 A0,O0]
 refine ⟨fun hc=>?_,fun _=>⟨_,rfl,h1,h2⟩⟩
 simp only [V3,decide_eq_true_eq] at hc
 rw [J0,C3]
 refine ⟨A0,A0,fun v hv=>?_⟩
 have hm:v∈L:=U9 hv
 rw [J0,D2]
 refine ⟨G0,_,rfl,⟨fun u hu=>?_,?_⟩,?_⟩
 ·rcases Z6.1 hu with hu | hu
  ·exact h1 u hu
  ·rw [w6.1 hu]; exact h1 v hm
 ·rw [P1]; simp only [E2,N2]; omega
 ·show 5 - (L++[v]).length < 5 - L.length
  rw [P1]; simp only [E2,N2]; omega
end
theorem Jz (l:LI) (x3 x4:Int) (low:Bool) (x6 x7:Int) (rows cols:BL) (h:okL (Wf .u64) l) (_:Wf .i64 x3) (_:Wf .i64 x4) (_:Wf .i64 x6) (_:Wf .i64 x7):m_k6 l x3 x4 low x6 x7 rows cols=some true:=by
 obtain ⟨⟨_,_,st,ix,vl⟩,p1,n,w,E,hn,hw,rfl,rfl,hP⟩:=Yz l (mL h.1) x3 x4 0 low
 simp only at hP
 obtain ⟨T,sh,A,i1,i2,hT,hA⟩:=aB hP A0 A0
 obtain ⟨V,v1,v2,v3⟩:=WA hn hw hT hA
 obtain ⟨ps,q1,q2,q3,q4⟩:=Dr
 have s2:=wz hn hw hT hA i2 (Pz.trans q1) q2 q4 v1 v2
 have hf:=ug (n:=n) (A:=A) w
 have hV:OkV w V:=fun v hv=>by
  obtain ⟨i,hi,he⟩:=He hv
  obtain ⟨v',a1,u,a2,a3,_⟩:=v3 i _ (U3 A0)
  rw [U3 hi,he] at a1
  cases a1
  exact ⟨u,a2,a3⟩
 have hO:∃ o:Int×Int×LI×LI×List (List Nb)×Int,m_fk (n:Int) (w:Int) st ix vl=some o∧OkV w o.2.2.2.2.1∧o.2.2.2.2.1.length≤4:=by
  cases hq:ps.find? (keeps n w A) with
  | none=>
   rw [hq] at s2
   exact ⟨_,s2,fun v hv=>absurd hv H0,H0⟩
  | some p=>
   rw [hq] at s2
   exact ⟨_,s2,hV,by show V.length≤4; omega⟩
 obtain ⟨o,o1,o2,o3⟩:=hO
 have key:∀ x:Int,x=((pvs 0 n A w).length:Int)→m_k5 ((n:Int),(w:Int),st,ix,vl) x6 x7 rows cols x=some true:=by
  rintro _ rfl
  refine Ret.eq ?_
  obtain ⟨r,a1,a2⟩:=bc x6 (n:=5) A0 A0
  obtain ⟨q,b1,b2⟩:=bc x7 (n:=8) A0 A0
  unfold m_k5
  simp only
  rw [o1,obs,show (5:Int)=((5:Nat):Int) from rfl,a1,obs,show (8:Int)=((8:Nat):Int) from rfl,b1,obs,J0,C3]
  refine ⟨A0,G0,fun p _=>?_⟩
  rw [J0]
  refine (kq rows A0).mono fun R hR=>?_
  rw [J0]
  refine (Fx cols A0).mono fun C hC=>?_
  rw [J0]
  refine (Ex o2 o3).mono fun L1 hL1=>?_
  rw [J0]
  refine (Dx A0 hw hL1.1 hL1.2).mono fun L hL=>?_
  obtain ⟨Y,y1,y2⟩:=hL.1.tab
  rw [J0]
  refine (TC hn hw hT hA i1 hL.2 y1 y2 (r:=(r:Int)) (p:=p) (R:=R) (C:=C) A0 A0).mono fun b hb=>?_
  have hc:((!b) || (decide ((r:Int)=((pvs 0 n A w).length:Int))))=true:=by
   cases b with
   | false=>rfl
   | true=>
    have:=kD (hb.1 rfl)
    simp only [W7,Ue,decide_eq_true_eq]
    exact this
  rw [M0 hc,eD,obs,obs]
  exact ⟨_,rfl,rfl⟩
 unfold m_k6
 rw [p1,obs]
 simp only
 rw [i2,obs]
 by_cases h0:0 < n∧0 < w
 ·rw [M0 (by simp; omega),Sq hn A0 h0.1 hT hA,obs]
  exact key _ rfl
 ·rw [K0 (by simp; omega)]
  have:(pvs 0 n A w).length=0:=by
   rcases (show n=0∨w=0 by omega) with rfl | rfl
   ·rw [Wi]; rfl
   ·rw [Vf]; rfl
  exact key 0 A0
end Km
