/- Tables of numbers; a row minus a multiple of another one, divided exactly. -/
import Derived.Test.YthekfonboblioabGreatDoorQzA
import Derived.Test.YthekfonboblioabGreatDoorQzB
import Derived.KernelRfl
import Derived.Test.YthekfonboblioabGreatDoorSxR
import Derived.Test.YthekfonboblioabGreatDoorM13
set_option linter.unusedVariables false
set_option linter.unusedSimpArgs false
set_option maxHeartbeats 4000000
set_option maxRecDepth 100000
namespace Km
open Sx Go M Vc Lm Dt
abbrev Nb:=Bool×LI
def Lg (l:List Nb) (w:Nat) (f:Nat→Int):Prop:=l.length=w∧∀ c,c < w→∃ z,l[c]?=some z∧Bg (f c) z.1 z.2
def Tg (T:List (List Nb)) (n w:Nat) (A:Mx):Prop:=T.length=n∧∀ r,r < n→∃ l,T[r]?=some l∧Lg l w (A r)
theorem Lg.congr {l:List Nb} {w:Nat} {f g:Nat→Int} (h:Lg l w f) (e:∀ c,c < w→f c=g c):Lg l w g:=⟨h.1,fun c hc=>by obtain ⟨z,h1,h2⟩:=h.2 c hc; exact ⟨z,h1,h2.cast (e c hc)⟩⟩
theorem Tg.congr {T:List (List Nb)} {n w:Nat} {A B:Mx} (h:Tg T n w A) (e:∀ r c,r < n→c < w→A r c=B r c):Tg T n w B:=⟨h.1,fun r hr=>by obtain ⟨l,h1,h2⟩:=h.2 r hr; exact ⟨l,h1,h2.congr fun c hc=>e r c hr hc⟩⟩
theorem Lg.set {l:List Nb} {w:Nat} {f:Nat→Int} (h:Lg l w f) {c:Nat} (hc:c < w) {z:Nb} {v:Int} (hz:Bg v z.1 z.2):Lg (l.set c z) w (fun j=>if j=c then v else f j):=by
 refine ⟨by rw [N3]; exact h.1,fun j hj=>?_⟩
 by_cases e:j=c
 ·subst e
  exact ⟨z,by rw [D5]; rw [h.1]; exact hc,hz.cast (show v=(if j=j then v else f j) from (M0 rfl).symm)⟩
 ·obtain ⟨y,h1,h2⟩:=h.2 j hj
  exact ⟨y,by rw [A6 (fun h=>e h.symm)]; exact h1,h2.cast (show f j=(if j=c then v else f j) from (K0 e).symm)⟩
theorem Tg.set {T:List (List Nb)} {n w:Nat} {A:Mx} (h:Tg T n w A) {k:Nat} (hk:k < n) {l:List Nb} {g:Nat→Int} (hl:Lg l w g):Tg (T.set k l) n w (up A k g):=by
 refine ⟨by rw [N3]; exact h.1,fun r hr=>?_⟩
 by_cases e:r=k
 ·subst e
  exact ⟨l,by rw [D5]; rw [h.1]; exact hk,hl.congr fun c _=>C2.symm⟩
 ·obtain ⟨m,h1,h2⟩:=h.2 r hr
  exact ⟨m,by rw [A6 (fun h=>e h.symm)]; exact h1,h2.congr fun c _=>(J2 e).symm⟩
theorem X2 {α:Type} {l:List α} {k:Nat} {x:α} (hx:l[k]?=some x) {i:Int} (hi:i=(k:Int)):getI l i=some x:=by
 subst hi
 have:=(Z1.1 hx).1
 exact Ret.eq (by rw [L3]; exact ⟨A0,A0,fun y hy=>by rw [Z0] at hy; exact N2 (hy.symm.trans hx)⟩)
theorem P4 {α:Type} {l:List α} {k:Nat} {x:α} (hk:k < l.length) {i:Int} (hi:i=(k:Int)):setI l i x=some (l.set k x):=by
 subst hi
 exact Ret.eq (by rw [E4,Z0]; exact ⟨A0,A0,rfl⟩)
theorem Lg.at {l:List Nb} {w:Nat} {f:Nat→Int} (h:Lg l w f) {c:Nat} (hc:c < w) {i:Int} (hi:i=(c:Int)):∃ z,getI l i=some z∧Bg (f c) z.1 z.2:=by
 obtain ⟨z,h1,h2⟩:=h.2 c hc
 exact ⟨z,X2 h1 hi,h2⟩
theorem Tg.at {T:List (List Nb)} {n w:Nat} {A:Mx} (h:Tg T n w A) {r:Nat} (hr:r < n) {i:Int} (hi:i=(r:Int)):∃ l,getI T i=some l∧Lg l w (A r):=by
 obtain ⟨l,h1,h2⟩:=h.2 r hr
 exact ⟨l,X2 h1 hi,h2⟩
theorem Oj {s:Bool} {a:LI} (ha:LW a) (hn:a.length≤1000000):Ret (m_cs s a) (fun r=>Bg (- sv s a) r.1 r.2):=by
 unfold m_cs
 rw [xc hn,obs,J0]
 exact (W7 (!s) ha hn).mono fun r hr=>⟨_,rfl,hr.cast (Sf s a)⟩
theorem Xu {s:Bool} {a:LI} (ha:LW a) (hn:a.length≤1000000):Ret (m_fc s a) (fun r=>Bg (lv a) r.1 r.2):=by
 unfold m_fc
 rw [xc hn,obs,J0]
 exact (W7 false ha hn).mono fun r hr=>⟨_,rfl,hr⟩
theorem Gj {s t:Bool} {a b:LI} (ha:LW a) (hb:LW b) (hn:a.length≤800) (hm:b.length≤800) {h:Int} (kx:sv t b≠0) (he:sv s a=sv t b*h):Ret (m_ex s a t b) (fun r=>Bg h r.1 r.2.1∧r.2.2=0):=by
 unfold m_ex
 refine Zw (eE (s:=s) (t:=t) ha hb hn hm kx) ?_
 rintro ⟨a,b,c,d,e⟩ ⟨hq,hr,h0⟩
 simp only at hq hr h0 ⊢
 subst h0
 rw [he,Int.mul_emod_right] at hr
 rw [he,B9 _ kx] at hq
 have hd:d=[]:=(td hr.1 hr.2.1).1 (by rw [hr.abs]; simp)
 subst hd
 rw [K0 H0]
 exact ⟨_,rfl,hq,rfl⟩
theorem Bg.lenB {v:Int} {s:Bool} {l:LI} (h:Bg v s l) {M:Int} {m:Nat} (hb:Bd M v) (hM:M < pw m):l.length≤m:=h.len (by have:=hb.1; omega) (by have:=hb.2; omega)
theorem Yy {row top:List Nb} {w:Nat} {f g h:Nat→Int} {M a p d:Int} (hM:M < pw 190) (TA:Lg row w f) (SA:Lg top w g) {za zp zd:Nb} (ha:Bg a za.1 za.2) (hp:Bg p zp.1 zp.2) (hd:Bg d zd.1 zd.2) (rD:d≠0)
  (bf:∀ j,j < w→Bd M (f j)) (bg:∀ j,j < w→Bd M (g j)) (ba:Bd M a) (bp:Bd M p) (bd:Bd M d) (he:∀ j,j < w→p*f j - a*g j=d*h j) (hw:w≤1000):
  Ret (m_ez row top za.1 za.2 zp.1 zp.2 zd.1 zd.2) (fun r=>Lg r w h):=by
 unfold m_ez
 rw [J0]
 have MJ:=ba.nn
 have la:=ha.lenB ba hM
 have lp:=hp.lenB bp hM
 have ld:=hd.lenB bd hM
 have JQ:M*M < pw 380:=by
  have h1:M*M≤M*pw 190:=K3 A0 MJ
  have h2:M*pw 190 < pw 190*pw 190:=Mb hM (M1 190)
  have h3:pw 380=pw 190*pw 190:=W6 190 190
  omega
 refine (Q0 (Post:=fun r:List Nb=>Lg r w h) w (fun k (s:List Nb×Int)=>s.2=(k:Int)∧Lg s.1 w (fun j=>if j < k then h j else f j)) ⟨rfl,TA.congr fun c _=>by rw [B0]⟩ ?_ A0).mono fun r hr=>⟨_,rfl,hr⟩
 rintro k ⟨r,_⟩ hk ⟨rfl,hI⟩
 simp only at hI
 unfold m_ey
 simp only
 rw [SA.1,O0]
 refine ⟨fun hlt=>?_,fun tx=>⟨_,rfl,hI.congr fun c hc=>by rw [C0]⟩⟩
 have Jx:k < w:=A0
 obtain ⟨y,hy,Zz⟩:=SA.at Jx rfl
 obtain ⟨x,hx,Nx⟩:=hI.at Jx rfl
 have Nx:Bg (f k) x.1 x.2:=Nx.cast (show (if k < k then h k else f k)=f k from B0)
 have lx:=Nx.lenB (bf k Jx) hM
 have ly:=Zz.lenB (bg k Jx) hM
 rw [hy,obs,hx,obs]
 refine Zw (Gg (s:=zp.1) (t:=x.1) hp.1 Nx.1 A0 A0) fun u hu=>?_
 rw [hp.sv,Nx.sv] at hu
 have lu:=hu.lenB (bp.mul (bf k Jx)) JQ
 refine Zw (Gg (s:=za.1) (t:=y.1) ha.1 Zz.1 A0 A0) fun v hv=>?_
 rw [ha.sv,Zz.sv] at hv
 have lv':=hv.lenB (ba.mul (bg k Jx)) JQ
 refine Zw (kz (s:=u.1) (t:=v.1) hu.1 hv.1 A0 A0) fun q hq=>?_
 rw [hu.sv,hv.sv] at hq
 have XS:M*M+M*M < pw 381:=by
  have:=M1 380
  have e:pw 381=B*pw 380:=rfl
  have e2:B=4294967296:=rfl
  rw [e,e2]; omega
 have lq:=hq.lenB ((bp.mul (bf k Jx)).sub (ba.mul (bg k Jx))) XS
 refine Zw (Gj (s:=q.1) (t:=zd.1) (h:=h k) hq.1 hd.1 A0 A0 (by rw [hd.sv]; exact rD) (by rw [hq.sv,hd.sv]; exact he k Jx)) ?_
 rintro ⟨t1,t2,t3⟩ ⟨ht,_⟩
 simp only at ht ⊢
 rw [P4 (by rw [hI.1]; exact Jx) rfl,obs]
 refine ⟨_,rfl,Jx,Xw,?_⟩
 refine (hI.set Jx (z:=(t1,t2)) ht).congr fun c hc=>?_
 by_cases e:c=k
 ·subst e; rw [M0 rfl,C0]
 ·rw [K0 e]
  by_cases nK:c < k
  ·rw [M0 nK,C0]
  ·rw [K0 nK,B0]
def Okb (n w:Nat) (A:Mx) (M:Int):Prop:=∀ (A':Mx) (cl:Nat→Nat) (q i j:Nat),(∀ i,i < n→∃ i',i' < n∧∀ j,A' i j=A i' j)→q≤n→(∀ s,s < q→cl s < w)→i < n→j < w→Bd M (Rk A' cl q i j)∧Bd M (det q (Pm_ A' cl))
theorem Ae {X:Int} (hX:1≤X) {m n:Nat} (h:m≤n):X ^ m≤X ^ n:=by
 obtain ⟨d,rfl⟩:=AF h
 induction d with
 | zero=>exact ef _
 | succ d ih=>
  have h1:=ih A0
  have h2:=Dt.Hj (show 0≤X by omega) (m+d)
  have h3:X ^ (m+d)*1≤X ^ (m+d)*X:=K3 hX h2
  rw [show m+(d+1)=(m+d)+1 by omega,w8]
  omega
theorem zg {n w K:Nat} {M:Int} {A:Mx} (hM:1≤M) (hK:1≤K) (wT:n≤K) (hA:∀ i j,i < n→j < w→Bd M (A i j)):Okb n w A (2*(K*M) ^ (n+2)):=by
 intro A' cl q i j hp hq hc hi hj
 have QN:1≤(K:Int)*M:=by
  have:(1:Int)*1≤K*M:=K8 A0 hM A0 A0
  omega
 have JM:∀ i j,i < n→j < w→Bd M (A' i j):=by
  intro i j hi hj
  obtain ⟨i',h1,h2⟩:=hp i hi
  rw [h2]; exact hA i' j h1 hj
 obtain ⟨h1,h2⟩:=wF (K:=K) (n:=n) (w:=w) (A:=A') (col:=cl) (k:=q) (i:=i) (j:=j) hM hK JM hq A0 hc hi hj
 have h3:=Ae QN (show q+2≤n+2 by omega)
 exact ⟨h1.mono A0,h2.mono A0⟩
section
variable {n w cw:Nat} {A A':Mx} {col:Nat→Nat} {k c:Nat} {sn M:Int}
theorem La (h:Bar n cw A A' col k c sn):∀ i,i < n→∃ i',i' < n∧∀ j,A' i j=A i' j:=by
 obtain ⟨x,xi,hx,hA⟩:=h.perm
 exact fun i hi=>⟨x i,(hx i hi).1,fun j=>hA i j hi⟩
theorem Pq (h:∀ i,i < n→∃ i',i' < n∧∀ j,A' i j=A i' j) {a b:Nat} (ha:a < n) (hb:b < n):∀ i,i < n→∃ i',i' < n∧∀ j,sw A' a b i j=A i' j:=by
 intro i hi
 by_cases e1:i=a
 ·obtain ⟨i',h1,h2⟩:=h b hb
  exact ⟨i',h1,fun j=>by unfold sw; rw [M0 e1]; exact h2 j⟩
 ·by_cases e2:i=b
  ·obtain ⟨i',h1,h2⟩:=h a ha
   exact ⟨i',h1,fun j=>by unfold sw; rw [K0 e1,M0 e2]; exact h2 j⟩
  ·obtain ⟨i',h1,h2⟩:=h i hi
   exact ⟨i',h1,fun j=>by unfold sw; rw [K0 e1,K0 e2]; exact h2 j⟩
theorem Bt (hM:M < pw 190) (hR:Okb n w A M) (h:Bar n cw A A' col k c sn) (aA:cw≤w) (hw:w≤1000) (hn:n≤1000) (hc:c < cw) {a:Nat} (kH:k≤a) (wG:a < n) (kx:Rk A' col k a c≠0)
  {T:List (List Nb)} (hT:Tg T n w (Rk (sw A' k a) col k)) {pv:LI} (Wz:pv.length≤1000) {zd:Nb} (hd:Bg (det k (Pm_ A' col)) zd.1 zd.2) {s':Int}:
  Ret (m_e2 (k:Int) (c:Int) zd.1 zd.2 pv T s') (fun r=>Tg r.1 n w (Rk (sw A' k a) (setC col k c) (k+1))∧r.2.1=pv++[(c:Int)]∧Bg (det (k+1) (Pm_ (sw A' k a) (setC col k c))) r.2.2.1 r.2.2.2.1∧r.2.2.2.2=s'):=by
 obtain ⟨NJ,SJ,SA,kB⟩:=h.pivot hc kH wG kx
 have px:k < n:=A0
 have By:=La h
 have NH:=Pq By px wG
 have hlt:∀ s,s < k→col s < w:=fun s hs=>by have:=h.lt s hs; have:=h.cw; omega
 have fI:∀ s,s < k+1→setC col k c s < w:=fun s hs=>by have:=NJ.lt s hs; have:=NJ.cw; omega
 have bR:∀ i j,i < n→j < w→Bd M (Rk (sw A' k a) col k i j):=fun i j hi hj=>(hR _ _ _ _ _ NH h.kn hlt hi hj).1
 have bd:Bd M (det k (Pm_ A' col)):=(hR _ col k 0 c By h.kn hlt A0 A0).2
 have hk:∀ j,Rk (sw A' k a) col k k j=Rk A' col k a j:=fun j=>by rw [Y8 kH,M0 rfl]
 unfold m_e2
 obtain ⟨lk,h1,h2⟩:=hT.at px (i:=(k:Int)) rfl
 obtain ⟨nx,h3,h4⟩:=h2.at (show c < w by omega) (i:=(c:Int)) rfl
 rw [hk] at h4
 rw [h1,obs,h3,obs]
 refine Zw (Q0 (Post:=fun r:List (List Nb)=>Tg r n w (Rk (sw A' k a) (setC col k c) (k+1))) n (fun i (s:List (List Nb)×Int)=>s.2=(i:Int)∧Tg s.1 n w (fun r j=>if r < i∧r≠k then Rk (sw A' k a) (setC col k c) (k+1) r j else Rk (sw A' k a) col k r j)) ⟨rfl,hT.congr fun r j _ _=>by rw [B0]⟩ ?_ A0) ?_
 ·rintro i ⟨T',_⟩ hi ⟨rfl,hI⟩
  simp only at hI
  unfold m_e1
  simp only
  rw [hT.1,O0]
  refine ⟨fun TI=>?_,fun tx=>⟨_,rfl,hI.congr fun r j hr hj=>?_⟩⟩
  ·have XG:i < n:=A0
   obtain ⟨row,oI,NG⟩:=hI.at XG (i:=(i:Int)) rfl
   have NG:Lg row w (Rk (sw A' k a) col k i):=NG.congr fun j _=>K0 A0
   have wL:wa .i64 (i:Int) 1=((i+1:Nat):Int):=by rw [U0 A0 A0]; rfl
   rw [oI,obs,O0]
   unfold m_e0
   rw [wL]
   refine ⟨fun he=>⟨_,rfl,XG,rfl,hI.congr fun r j _ _=>?_⟩,fun he=>?_⟩
   ·have Pz:i=k:=A0
    by_cases HE:r < i∧r≠k
    ·rw [M0 HE,M0 ⟨A0,HE.2⟩]
    ·rw [K0 HE,B0]
   ·have Pz:i≠k:=A0
    obtain ⟨top,pR,DI⟩:=hI.at px (i:=(k:Int)) rfl
    have DI:Lg top w (Rk A' col k a):=DI.congr fun j _=>(B0).trans (hk j)
    obtain ⟨fz,xM,wM⟩:=NG.at (show c < w by omega) (i:=(c:Int)) rfl
    have vP:neI (i:Int) (k:Int)=some ():=by unfold neI; rw [K0 he]
    rw [pR,obs,xM,obs,vP,obs,J0]
    have bA:∀ j,j < w→Bd M (Rk A' col k a j):=fun j hj=>by rw [← hk]; exact bR k j px hj
    refine (Yy (h:=Rk (sw A' k a) (setC col k c) (k+1) i) hM NG DI wM h4 hd h.d (fun j hj=>bR i j XG hj) bA (bR i c XG A0) (bA c A0) bd (fun j hj=>kB i j Pz) hw).mono fun row' eN=>?_
    rw [P4 (by rw [hI.1]; exact XG) rfl,obs]
    refine ⟨_,rfl,XG,rfl,(hI.set XG eN).congr fun r j hr hj=>?_⟩
    by_cases e:r=i
    ·subst e
     rw [C2,M0 ⟨A0,Pz⟩]
    ·rw [J2 e]
     by_cases HE:r < i∧r≠k
     ·rw [M0 HE,M0 ⟨A0,HE.2⟩]
     ·rw [K0 HE,B0]
  ·by_cases e:r=k
   ·subst e
    rw [B0,hk]; exact (SA j).symm
   ·rw [M0 ⟨A0,e⟩]
 ·intro T' uJ
  rw [J0,D2]
  refine ⟨G0,_,rfl,uJ,rfl,?_,rfl⟩
  rw [SJ]; exact h4
theorem mz (hM:M < pw 190) (hR:Okb n w A M) (h:Bar n cw A A' col k c sn) (aA:cw≤w) (hw:w≤1000) (hn:n≤1000) (hc:c < cw) {a:Nat} (kH:k≤a) (wG:a < n) (kx:Rk A' col k a c≠0)
  {T:List (List Nb)} (hT:Tg T n w (Rk A' col k)) {pv:LI} (Wz:pv.length≤1000) {zd:Nb} (hd:Bg (det k (Pm_ A' col)) zd.1 zd.2):
  Ret (m_e3 T pv zd.1 zd.2 sn (c:Int) (k:Int) (a:Int)) (fun r=>Tg r.1 n w (Rk (sw A' k a) (setC col k c) (k+1))∧r.2.1=pv++[(c:Int)]∧Bg (det (k+1) (Pm_ (sw A' k a) (setC col k c))) r.2.2.1 r.2.2.2.1∧r.2.2.2.2=(if a=k then sn else -sn)):=by
 have px:k < n:=A0
 unfold m_e3
 rw [O0]
 refine ⟨fun hlt=>?_,fun tx=>?_⟩
 ·obtain ⟨la,h1,h2⟩:=hT.at wG (i:=(a:Int)) rfl
  obtain ⟨lk,h3,h4⟩:=hT.at px (i:=(k:Int)) rfl
  rw [h1,obs,h3,obs,P4 (by rw [hT.1]; exact px) rfl,obs,P4 (by rw [N3,hT.1]; exact wG) rfl,obs]
  have uJ:Tg ((T.set k la).set a lk) n w (Rk (sw A' k a) col k):=by
   refine ((hT.set px h2).set wG h4).congr fun r j hr hj=>?_
   rw [Y8 kH]
   by_cases e1:r=k
   ·subst e1; rw [M0 rfl,J2 A0,C2]
   ·rw [K0 e1]
    by_cases e2:r=a
    ·subst e2; rw [M0 rfl,C2]
    ·rw [K0 e2,J2 e2,J2 e1]
  have hs:wneg .i64 sn= -sn:=by
   rcases h.sg.1 with rfl | rfl
   ·exact IntWalk.i64_in _ ⟨A0,A0⟩
   ·exact IntWalk.i64_in _ ⟨A0,A0⟩
  rw [hs,B0]
  exact Bt hM hR h aA hw hn hc kH wG kx uJ Wz hd
 ·have e:a=k:=A0
  subst e
  rw [M0 rfl]
  refine Bt hM hR h aA hw hn hc kH wG kx ?_ Wz hd
  refine hT.congr fun r j _ _=>?_
  rw [Y8 (H2 _)]
  by_cases e1:r=a
  ·subst e1; rw [M0 rfl]
  ·rw [K0 e1,K0 e1]
def EI (n w cw:Nat) (A:Mx) (c:Nat) (T:List (List Nb)) (pv:LI) (zs:Bool) (zl:LI) (sn:Int):Prop:=
 ∃ A' col k,Bar n cw A A' col k c sn∧Tg T n w (Rk A' col k)∧pv=(List.range k).map (fun s=>(col s:Int))∧Bg (det k (Pm_ A' col)) zs zl
theorem Fk (hM:M < pw 190) (hR:Okb n w A M) (aA:cw≤w) (hw:w≤900) (hn:n≤900) {T:List (List Nb)} (hT:Tg T n w A):
  Ret (m_e7 T (cw:Int)) (fun r=>EI n w cw A cw r.1 r.2.1 r.2.2.1 r.2.2.2.1 r.2.2.2.2):=by
 unfold m_e7
 refine Zw (Vt (n:=1) A0 A0) fun one eI=>?_
 refine Zw (Q0 (Post:=fun r:List (List Nb)×LI×Bool×LI×Int=>EI n w cw A cw r.1 r.2.1 r.2.2.1 r.2.2.2.1 r.2.2.2.2) cw (fun c (s:List (List Nb)×LI×Bool×LI×Int×Int)=>s.2.2.2.2.2=(c:Int)∧c≤cw∧EI n w cw A c s.1 s.2.1 s.2.2.1 s.2.2.2.1 s.2.2.2.2.1) ⟨rfl,A0,A,id,0,Bar.start,hT.congr fun r j _ _=>ev.symm,rfl,eI.cast (show (1:Int)=det 0 (Pm_ A id) from rfl)⟩ ?_ A0) fun r hr=>⟨_,rfl,hr⟩
 rintro c ⟨T,pv,zs,zl,sn,_⟩ hc ⟨rfl,eS,A',col,k,hB,hT,Wz,hd⟩
 simp only at hB hT Wz hd
 unfold m_e6
 simp only
 rw [O0]
 refine ⟨fun hlt=>?_,fun tx=>⟨_,rfl,by have e:c=cw:=A0; subst e; exact ⟨A',col,k,hB,hT,Wz,hd⟩⟩⟩
 have VI:c < cw:=A0
 have ED:pv.length=k:=by rw [Wz,Sa,Q6]
 have px:=hB.kn
 have By:=La hB
 have fI:∀ s,s < k→col s < w:=fun s hs=>by have:=hB.lt s hs; have:=hB.cw; omega
 have wL:wa .i64 (c:Int) 1=((c+1:Nat):Int):=by rw [U0 A0 A0]; rfl
 refine Zw (Q0 (Post:=fun o=>(o=.inr ()∧∀ i,k≤i→i < n→Rk A' col k i c=0)∨∃ r,o=.inl r∧EI n w cw A (c+1) r.1 r.2.1 r.2.2.1 r.2.2.2.1 r.2.2.2.2) (n - k) (fun i (s:Int)=>s=((k+i:Nat):Int)∧k+i≤n∧∀ j,k≤j→j < k+i→Rk A' col k j c=0) ⟨by rw [ED]; rfl,A0,fun j h1 h2=>absurd h2 A0⟩ ?_ A0) ?_
 ·rintro i _ hi ⟨rfl,XG,hz⟩
  unfold m_e5
  rw [hT.1,O0]
  refine ⟨fun Px=>?_,fun tx=>⟨_,rfl,.inl ⟨rfl,fun j h1 h2=>hz j h1 A0⟩⟩⟩
  have wG:k+i < n:=A0
  obtain ⟨row,h1,h2⟩:=hT.at wG (i:=((k+i:Nat):Int)) rfl
  obtain ⟨x,h3,h4⟩:=h2.at (show c < w by omega) (i:=(c:Int)) rfl
  have bx:=(hR _ _ _ _ _ By px fI wG (show c < w by omega)).1
  have lx:=h4.lenB bx hM
  rw [h1,obs,h3,obs,ue h4.1 A0,obs,h4.sv,O0]
  refine ⟨fun h0=>⟨_,rfl,A0,?_,A0,fun j HH QH=>?_⟩,fun h0=>?_⟩
  ·rw [U0 A0 A0]; omega
  ·by_cases e:j=k+i
   ·subst e
    revert h0; split
    ·omega
    ·split
     ·omega
     ·intro _; omega
   ·exact hz j HH A0
  ·have kx:Rk A' col k (k+i) c≠0:=fun h=>h0 (by rw [h]; rfl)
   have RI:(pv.length:Int)=(k:Int):=by rw [ED]
   rw [RI]
   refine Zw (mz (zd:=(zs,zl)) hM hR hB aA A0 A0 VI A0 wG kx hT A0 hd) ?_
   rintro ⟨T',pv',zs',zl',sn'⟩ ⟨g1,g2,g3,g4⟩
   simp only at g1 g2 g3 g4 ⊢
   refine ⟨_,rfl,.inr ⟨_,rfl,sw A' k (k+i),setC col k c,k+1,?_,g1,?_,g3⟩⟩
   ·have:=(hB.pivot VI A0 wG kx).1
    show Bar n cw A (sw A' k (k+i)) (setC col k c) (k+1) (c+1) sn'
    rw [g4]; exact this
   ·show pv'=_
    rw [g2,Wz,Fc,Gh]
    congr 1
    ·refine Lv fun s hs=>?_
     rw [ja (Z6.1 hs)]
    ·show [(c:Int)]=[((setC col k c k:Nat):Int)]
     rw [ib]
 ·rintro _ (⟨rfl,hz⟩ | ⟨⟨T',pv',zs',zl',sn'⟩,rfl,hE⟩)
  ·show Ret (m_e4 _ _ _ _ _ _) _
   unfold m_e4
   exact ⟨_,rfl,VI,wL,A0,A',col,k,hB.none VI hz,hT,Wz,hd⟩
  ·show Ret (m_e4 _ _ _ _ _ _) _
   unfold m_e4
   exact ⟨_,rfl,VI,wL,A0,hE⟩
end
theorem Lg.snoc {l:List Nb} {k:Nat} {f:Nat→Int} (h:Lg l k f) {z:Nb} (hz:Bg (f k) z.1 z.2):Lg (l++[z]) (k+1) f:=by
 refine ⟨by rw [Q1,h.1]; rfl,fun c hc=>?_⟩
 by_cases e:c < k
 ·obtain ⟨y,h1,h2⟩:=h.2 c e
  exact ⟨y,by rw [Q5 (by rw [h.1]; exact e)]; exact h1,h2⟩
 ·obtain rfl:c=k:=A0
  exact ⟨z,by rw [X5 (by rw [h.1]; omega),h.1,E6]; rfl,hz⟩
theorem Tg.snoc {T:List (List Nb)} {k w:Nat} {A:Mx} (h:Tg T k w A) {l:List Nb} (hl:Lg l w (A k)):Tg (T++[l]) (k+1) w A:=by
 refine ⟨by rw [Q1,h.1]; rfl,fun c hc=>?_⟩
 by_cases e:c < k
 ·obtain ⟨y,h1,h2⟩:=h.2 c e
  exact ⟨y,by rw [Q5 (by rw [h.1]; exact e)]; exact h1,h2⟩
 ·obtain rfl:c=k:=A0
  exact ⟨l,by rw [X5 (by rw [h.1]; omega),h.1,E6]; rfl,hl⟩
section
variable {n w:Nat} {A:Mx} {T:List (List Nb)}
theorem Dn (hT:Tg T n w A):m_dy T=some (if n=0 then 0 else (w:Int)):=by
 unfold m_dy
 by_cases h0:n=0
 ·rw [M0 (by rw [hT.1]; omega),M0 h0]
 ·rw [K0 (by rw [hT.1]; omega),K0 h0]
  obtain ⟨l,h1,h2⟩:=hT.at (r:=0) A0 (i:=0) rfl
  rw [h1,obs,h2.1]
theorem jy (hT:Tg T n w A) (hn:n≤16) (hw:w≤16):m_d3 T=some 0:=by
 have hc:m_d2 T (if n=0 then 0 else (w:Int))=some false:=by
  refine Ret.eq ?_
  unfold m_d2 m_d1
  rw [J0]
  refine Zw (Q0 (Post:=fun o=>o=.inl ()) n (fun k (i:Int)=>i=(k:Int)) rfl ?_ A0) ?_
  ·rintro k _ hk rfl
   unfold m_d0
   rw [hT.1,O0]
   refine ⟨fun hlt=>?_,fun _=>⟨_,rfl,rfl⟩⟩
   obtain ⟨l,h1,h2⟩:=hT.at (r:=k) A0 (i:=(k:Int)) rfl
   unfold m_dz
   rw [h1,obs,obs,h2.1,K0 (show ¬ n=0 by omega)]
   simp only [decide_true,Y5,Q2,if_false]
   exact ⟨_,rfl,A0,Xw⟩
  ·rintro _ rfl
   exact ⟨_,rfl,_,rfl,rfl⟩
 unfold m_d3
 rw [Dn hT,obs,hc,obs,K0 H0,hT.1,K0]
 simp only [H5,decide_eq_true_eq,not_or]
 split<;>omega
theorem VB {v:Int} {z:Nb} (hz:Bg v z.1 z.2) (hl:z.2.length≤1000000):Ret (m_cu z.1 z.2) (fun r=>Bg v r.1 r.2):=(Fg (s:=z.1) hz.1 hl).mono fun r hr=>by rw [hz.sv] at hr; exact hr
theorem kA {row:List Nb} {f:Nat→Int} {M:Int} (hM:M < pw 190) (TA:Lg row w f) (bf:∀ j,j < w→Bd M (f j)) (hw:w≤1000):Ret (loop (m_d5 row) ([],0)) (fun o=>Lg o w f):=by
 refine Q0 (Post:=fun o:List Nb=>Lg o w f) w (fun k (s:List Nb×Int)=>s.2=(k:Int)∧Lg s.1 k f) ⟨rfl,rfl,fun c hc=>absurd hc A0⟩ ?_ A0
 rintro k ⟨o,_⟩ hk ⟨rfl,hI⟩
 simp only at hI
 unfold m_d5
 simp only
 rw [TA.1,O0]
 refine ⟨fun hlt=>?_,fun tx=>⟨_,rfl,by have e:k=w:=A0; subst e; exact hI⟩⟩
 have Jx:k < w:=A0
 obtain ⟨z,h1,h2⟩:=TA.at Jx (i:=(k:Int)) rfl
 have lz:=h2.lenB (bf k Jx) hM
 rw [h1,obs]
 refine Zw (VB h2 A0) fun r hr=>?_
 rw [J0,D2]
 refine ⟨by rw [hI.1]; simp only [I2,Y2]; omega,_,rfl,Jx,Xw,hI.snoc (z:=(r.1,r.2)) hr⟩
theorem Gy {M:Int} (hM:M < pw 190) (hT:Tg T n w A) (bA:∀ i j,i < n→j < w→Bd M (A i j)) (hn:n≤1000) (hw:w≤1000):Ret (m_d7 T []) (fun o=>Tg o n w A):=by
 unfold m_d7
 refine Zw (Q0 (Post:=fun o:List (List Nb)=>Tg o n w A) n (fun k (s:List (List Nb)×Int)=>s.2=(k:Int)∧Tg s.1 k w A) ⟨rfl,rfl,fun c hc=>absurd hc A0⟩ ?_ A0) fun r hr=>⟨_,rfl,hr⟩
 rintro k ⟨o,_⟩ hk ⟨rfl,hI⟩
 simp only at hI
 unfold m_d6
 simp only
 rw [hT.1,O0]
 refine ⟨fun hlt=>?_,fun tx=>⟨_,rfl,by have e:k=n:=A0; subst e; exact hI⟩⟩
 have px:k < n:=A0
 obtain ⟨row,h1,h2⟩:=hT.at px (i:=(k:Int)) rfl
 rw [h1,obs]
 refine Zw (kA hM h2 (fun j hj=>bA k j px hj) hw) fun r hr=>?_
 rw [K0 H0]
 unfold m_d4
 rw [J0,D2]
 exact ⟨by rw [hI.1]; simp only [I2,Y2]; omega,_,rfl,px,Xw,hI.snoc hr⟩
theorem Iq {R:List (List Nb)} {pv:LI} {zs:Bool} {zl:LI} {sg' D v:Int} {z:Nb} (hD:Bg D zs zl) (hz:Bg v z.1 z.2) (l1:zl.length≤1000) (l2:z.2.length≤1000):Ret (m_fd R pv zs zl sg' z.1 z.2) (fun r=>Bg (if D < 0 then -v else v) r.1 r.2):=by
 unfold m_fd
 rw [ue hD.1 A0,obs,hD.sv,O0]
 refine ⟨fun hc=>?_,fun hc=>?_⟩
 ·have CD:D < 0:=by revert hc; split<;>(try split)<;>omega
  refine Zw (Oj (s:=z.1) hz.1 A0) fun r hr=>⟨_,rfl,hr.cast ?_⟩
  rw [hz.sv,M0 CD]
 ·have CD:¬ D < 0:=fun h=>hc (by rw [M0 h]; omega)
  refine Zw (Fg (s:=z.1) hz.1 A0) fun r hr=>⟨_,rfl,hr.cast ?_⟩
  rw [hz.sv,K0 CD]
end
theorem vB {M:Int} (hM:M < pw 60) (h0:0≤M):M*M < pw 120:=by
 have h1:M*M≤M*pw 60:=K3 A0 h0
 have h2:M*pw 60 < pw 60*pw 60:=Mb hM (M1 60)
 have h3:pw 120=pw 60*pw 60:=W6 60 60
 omega
theorem iz {M:Int} (hM:M < pw 60) (h0:0≤M) {k:Nat} (hk:k≤1000):(k:Int)*(M*M) < pw 121:=by
 have h1:=vB hM h0
 have h2:=O3 h0 h0
 have h3:(k:Int)*(M*M)≤1000*(M*M):=D3 A0 h2
 have e:pw 121=B*pw 120:=rfl
 have e2:B=4294967296:=rfl
 have:=M1 120
 rw [e,e2]; omega
section
variable {n w:Nat} {A:Mx} {T:List (List Nb)} {M:Int}
end
def mb (n:Nat):Int:=2*(((4:Nat):Int)*100) ^ (n+2)
theorem mb_ok {n:Nat} (hn:n≤4):mb n < pw 60∧100≤mb n:=by
 have e:(((4:Nat):Int)*100)=400:=by decide
 have h1:=Ae (X:=400) A0 (show n+2≤6 by omega)
 have h2:=Ae (X:=400) A0 (show 1≤n+2 by omega)
 have h3:pw 2≤pw 60:=y6 A0
 have h4:(2:Int)*400 ^ 6 < pw 2:=by decide
 have h5:(400:Int) ^ 1=400:=by decide
 unfold mb
 rw [e]
 exact ⟨A0,A0⟩
theorem uG {l:LI} {n w:Nat} {A:Mx} (hn:n≤4) (hA:∀ i j,i < n→j < w→Bd 100 (A i j)):Okb n w A (mb n):=zg (K:=4) (M:=100) A0 A0 hn hA
section
variable {n w:Nat} {A:Mx} {T:List (List Nb)} {M:Int}
theorem pr_nn {n:Nat} {f:Nat→Int} (h:∀ i,i < n→0≤f i):0≤pr n f:=by
 induction n with
 | zero=>show (0:Int)≤1; omega
 | succ n ih=>exact O3 (ih fun i hi=>h i A0) (h n A0)
end
def vk (fr:Nat) (a:Int) (col:Nat→Nat) (X:Nat→Int):Nat→Nat→Int
 | 0,j=>if j=fr then a else 0
 | i+1,j=>if j=col i then X i else vk fr a col X i j
section
variable {fr k:Nat} {a:Int} {col:Nat→Nat} {X:Nat→Int}
theorem db:∀ i,(∀ s,s < i→col s≠fr)→vk fr a col X i fr=a
 | 0,_=>M0 rfl
 | i+1,h=>(K0 (fun e=>h i A0 e.symm)).trans (db i fun s hs=>h s A0)
theorem eb:∀ i,(∀ s t,s < t→t < i→col s < col t)→∀ s,s < i→vk fr a col X i (col s)=X s
 | 0,_,s,hs=>absurd hs A0
 | i+1,h,s,hs=>by
  show (if col s=col i then X i else vk fr a col X i (col s))=X s
  by_cases e:s=i
  ·subst e; rw [M0 rfl]
  ·have:=h s i A0 A0
   rw [B0]
   exact eb i (fun s t h1 h2=>h s t h1 A0) s A0
theorem Rc {j:Nat} (hj:j≠fr):∀ i,(∀ s,s < i→col s≠j)→vk fr a col X i j=0
 | 0,_=>K0 hj
 | i+1,h=>(K0 (fun e=>h i A0 e.symm)).trans (Rc hj i fun s hs=>h s A0)
theorem kj {M:Int} (hM:0≤M) (ha:Bd M a):∀ i,(∀ s,s < i→Bd M (X s))→∀ j,Bd M (vk fr a col X i j)
 | 0,_,j=>by
  show Bd M (if j=fr then a else 0)
  split
  ·exact ha
  ·exact ⟨A0,hM⟩
 | i+1,h,j=>by
  show Bd M (if j=col i then X i else vk fr a col X i j)
  split
  ·exact h i A0
  ·exact kj hM ha i (fun s hs=>h s A0) j
end
theorem Lg.zeros (w:Nat):Lg (List.replicate w ((false,[]):Nb)) w (fun _=>0):=⟨U4 ..,fun c hc=>⟨(false,[]),by rw [Kb,M0 hc],Ac⟩⟩
theorem Ak {x y:Int} (hx:0 < x):0 < ((Int.gcd x y:Nat):Int)∧((Int.gcd x y:Nat):Int)≤x:=by
 have h1:((Int.gcd x y:Nat):Int) ∣ x:=Nc ..
 have h2:=Kc hx h1
 have h3:Int.gcd x y≠0:=by
  intro h
  rw [Int.gcd_eq_zero_iff] at h
  omega
 omega
section
variable {n w:Nat} {A:Mx} {T:List (List Nb)} {M:Int}
def KR (n w:Nat) (A:Mx) (M:Int) (l:List Nb) (k:Nat):Prop:=
 (∃ A' col sn,Bar n w A A' col k w sn)∧((l=[]∧k=w)∨(k < w∧∃ u,Lg l w u∧(∀ j,j < w→Bd M (u j))∧(∀ r,r < n→sm w (fun j=>A r j*u j)=0)∧∀ d,(∀ j,j < w→d ∣ u j)→d ∣ 1))
theorem xG (hM:M < pw 190) (hR:Okb n w A M) (hT:Tg T n w A) (bA:∀ i j,i < n→j < w→Bd M (A i j)) (hn:n≤16) (hw:w≤16) (zF:0 < n) (AJ:0 < w):
  ∃ l k,m_fj T=some (l,0)∧m_e8 T=some (((k:Nat):Int),0)∧KR n w A M l k:=by
 obtain ⟨T',ht,uJ⟩:=Gy hM hT bA A0 A0
 obtain ⟨⟨R,pv,zs,zl,sn⟩,qJ,A',col,k,hB,SK,Wz,hd⟩:=Fk (cw:=w) hM hR (H2 w) A0 A0 uJ
 simp only at hB SK Wz hd
 have ED:pv.length=k:=by rw [Wz,Sa,Q6]
 have EG:m_dy T=some (w:Int):=by rw [Dn hT,B0]
 have kI:=jy hT hn hw
 have wK:m_e8 T=some ((k:Int),0):=by
  unfold m_e8
  rw [kI,obs,M0 rfl,ht,obs,EG,obs,qJ,obs]
  simp only
  rw [ED]
 have IK:∀ s,s < k→getI pv (s:Int)=some (col s:Int):=fun s hs=>X2 (by rw [Wz,y9,Ta hs]; rfl) rfl
 have Xy:∀ s,s < k→col s < w:=fun s hs=>hB.lt s hs
 have tx:∀ d s,s+d < k→col s+d≤col (s+d):=by
  intro d s
  induction d with
  | zero=>intro _; exact H2 _
  | succ d ih=>intro hd; have:=hB.asc (s+d) (s+(d+1)) A0 A0; have:=ih A0; omega
 have Jx:k≤w:=by
  rcases Qa k with h | h
  ·omega
  ·have h1:=tx (k - 1) 0 A0
   have h2:=Xy (k - 1) A0
   rw [Q9] at h1
   omega
 have bD:=(hR A' col k 0 0 (La hB) hB.kn Xy zF AJ).2
 have bX:∀ i j,i < n→j < w→Bd M (Rk A' col k i j):=fun i j hi hj=>(hR A' col k i j (La hB) hB.kn Xy hi hj).1
 have MJ:=bD.nn
 have ld:=hd.lenB bD hM
 have IM:=hB.d
 have eJ:Ret (loop (m_fi (R,pv,zs,zl,sn)) 0) (fun o=>∃ fr:Nat,o=(fr:Int)∧fr≤k∧(∀ s,s < fr→col s=s)∧(fr < k→col fr≠fr)):=by
  refine Q0 (Post:=fun o=>∃ fr:Nat,o=(fr:Int)∧fr≤k∧(∀ s,s < fr→col s=s)∧(fr < k→col fr≠fr)) k (fun j (i:Int)=>i=(j:Int)∧j≤k∧∀ s,s < j→col s=s) ⟨rfl,A0,fun s hs=>absurd hs A0⟩ ?_ A0
  rintro j _ hj ⟨rfl,FG,hI⟩
  unfold m_fi
  simp only
  rw [ED]
  by_cases hlt:j < k
  ·rw [C0,IK j hlt,obs,obs,O0]
   refine ⟨fun he=>⟨_,rfl,hlt,by rw [U0 A0 A0]; rfl,hlt,fun s hs=>?_⟩,fun he=>⟨_,rfl,j,rfl,FG,hI,fun _ h=>he (by rw [h]; simp)⟩⟩
   have he:(col j:Int)=(j:Int):=by simpa using he
   by_cases e:s=j
   ·subst e; omega
   ·exact hI s A0
  ·rw [B0,obs,K0 H0]
   exact ⟨_,rfl,j,rfl,FG,hI,fun h=>absurd h hlt⟩
 obtain ⟨_,uM,fr,rfl,IJ,IH,JI⟩:=eJ
 have QI:∀ (f:Int→Option (List Nb×Int)),((loop (m_fi (R,pv,zs,zl,sn)) 0).bind f)=f (fr:Int):=fun f=>by rw [uM,obs]
 by_cases mH:fr=w
 ·refine ⟨[],k,?_,wK,⟨A',col,sn,hB⟩,.inl ⟨rfl,A0⟩⟩
  unfold m_fj
  rw [kI,obs,M0 rfl,EG,obs,ht,obs,qJ,obs,QI,C0]
 ·have eA:∀ s,s < k→col s≠fr:=by
   intro s hs
   by_cases h1:s < fr
   ·rw [IH s h1]; omega
   ·have h2:fr < k:=A0
    have h3:=JI h2
    have h4:=tx (s - fr) fr A0
    rw [show fr+(s - fr)=s by omega] at h4
    have h5:fr≤col fr:=by
     rcases Qa fr with h | h
     ·omega
     ·have h6:=hB.asc (fr - 1) fr A0 h2
      rw [IH (fr - 1) A0] at h6
      omega
    omega
  have aL:k < w:=by
   refine H1 fun hc=>?_
   have hk:k=w:=A0
   have h2:fr < k:=A0
   have h4:=tx (k - 1 - fr) fr A0
   rw [show fr+(k - 1 - fr)=k - 1 by omega] at h4
   have h5:fr≤col fr:=by
    rcases Qa fr with h | h
    ·omega
    ·have h6:=hB.asc (fr - 1) fr A0 h2
     rw [IH (fr - 1) A0] at h6
     omega
   have h3:=JI h2
   have h7:=Xy (k - 1) A0
   omega
  have ay:fr < w:=A0
  generalize UO:det k (Pm_ A' col)=D at*
  let a:Int:=if D < 0 then -D else D
  let X:Nat→Int:=fun s=>if D < 0 then Rk A' col k s fr else - Rk A' col k s fr
  have KJ:0 < a:=by show 0 < (if D < 0 then -D else D); split<;>omega
  have ba:Bd M a:=by show Bd M (if D < 0 then -D else D); split; exact bD.neg; exact bD
  have px:=hB.kn
  have bXs:∀ s,s < k→Bd M (X s):=fun s hs=>by
   show Bd M (if D < 0 then Rk A' col k s fr else - Rk A' col k s fr)
   split
   ·exact bX s fr A0 ay
   ·exact (bX s fr A0 ay).neg
  have key:Ret (m_fj T) (fun r=>r.2=0∧∃ u,Lg r.1 w u∧(∀ j,j < w→Bd M (u j))∧(∀ r,r < n→sm w (fun j=>A r j*u j)=0)∧∀ d,(∀ j,j < w→d ∣ u j)→d ∣ 1):=by
   unfold m_fj
   rw [kI,obs,M0 rfl,EG,obs,ht,obs,qJ,obs,QI,B0,J0,J5]
   refine ⟨A0,A0,?_⟩
   rw [Z0,J0]
   refine (Xu (s:=zs) hd.1 A0).mono fun z hz=>?_
   have hz:Bg a z.1 z.2:=by rw [hd.abs] at hz; exact hz
   have h0:Lg ((List.replicate w ((false,[]):Nb)).set fr (z.1,z.2)) w (vk fr a col X 0):=((Lg.zeros w).set ay (z:=(z.1,z.2)) hz).congr fun c _=>rfl
   rw [P4 (by rw [U4]; exact ay) rfl,obs]
   obtain ⟨y,EK,yJ⟩:=h0.at ay (i:=(fr:Int)) rfl
   have yJ:Bg a y.1 y.2:=yJ.cast (M0 rfl)
   rw [EK,obs]
   refine Zw (Q0 (Post:=fun o:List Nb×Bool×LI=>Lg o.1 w (vk fr a col X k)∧∃ G,Bg G o.2.1 o.2.2∧(0 < G∧G≤a)∧(G ∣ a∧∀ s,s < k→G ∣ X s)∧∀ d,d ∣ a→(∀ s,s < k→d ∣ X s)→d ∣ G) k (fun i (s:List Nb×Bool×LI×Int)=>s.2.2.2=(i:Int)∧Lg s.1 w (vk fr a col X i)∧∃ G,Bg G s.2.1 s.2.2.1∧(0 < G∧G≤a)∧(G ∣ a∧∀ s,s < i→G ∣ X s)∧∀ d,d ∣ a→(∀ s,s < i→d ∣ X s)→d ∣ G) ⟨rfl,h0,a,yJ,⟨KJ,ef a⟩,⟨Th a,fun s hs=>absurd hs A0⟩,fun d h _=>h⟩ ?_ A0) ?_
   ·rintro i ⟨o,gs,gl,_⟩ hi ⟨rfl,hI,G,hG,⟨g0,g1⟩,⟨g2,g3⟩,g4⟩
    simp only at hI hG
    unfold m_fh
    simp only
    rw [ED,O0]
    refine ⟨fun hlt=>?_,fun cL=>⟨_,rfl,by have e:i=k:=A0; subst e; exact ⟨hI,G,hG,⟨g0,g1⟩,⟨g2,g3⟩,g4⟩⟩⟩
    have Pz:i < k:=A0
    obtain ⟨row,h1,h2⟩:=SK.at (show i < n by omega) (i:=(i:Int)) rfl
    obtain ⟨x,h3,h4⟩:=h2.at ay (i:=(fr:Int)) rfl
    have lx:=h4.lenB (bX i fr A0 ay) hM
    rw [IK i Pz,obs,h1,obs,h3,obs]
    refine Zw (Iq hd h4 A0 A0) fun t DI=>?_
    have bt:Bd M (if D < 0 then - Rk A' col k i fr else Rk A' col k i fr):=by
     split
     ·exact (bX i fr A0 ay).neg
     ·exact bX i fr A0 ay
    have lt:=DI.lenB bt hM
    refine Zw (Oj (s:=t.1) DI.1 A0) fun q hq=>?_
    have hq:Bg (X i) q.1 q.2:=by
     rw [DI.sv] at hq
     refine hq.cast ?_
     show -(if D < 0 then - Rk A' col k i fr else Rk A' col k i fr)=if D < 0 then Rk A' col k i fr else - Rk A' col k i fr
     split<;>omega
    have PK:=Xy i Pz
    rw [P4 (by rw [hI.1]; exact PK) rfl,obs]
    have hS:Lg (o.set (col i) (q.1,q.2)) w (vk fr a col X (i+1)):=(hI.set PK (z:=(q.1,q.2)) hq).congr fun c _=>rfl
    obtain ⟨y2,bO,BI⟩:=hS.at PK (i:=(col i:Int)) rfl
    have BI:Bg (X i) y2.1 y2.2:=BI.cast (M0 rfl)
    have ly2:=BI.lenB (bXs i Pz) hM
    have lG:=hG.lenB (show Bd M G from ⟨A0,by have:=ba.2; omega⟩) hM
    rw [bO,obs]
    refine Zw (Tt (s:=gs) (t:=y2.1) hG.1 BI.1 A0 A0) fun g hg=>?_
    rw [hG.sv,BI.sv] at hg
    obtain ⟨e1,e2⟩:=Ak (x:=G) (y:=X i) g0
    have d1:((Int.gcd G (X i):Nat):Int) ∣ G:=Nc ..
    have d2:((Int.gcd G (X i):Nat):Int) ∣ X i:=Mc ..
    refine ⟨_,rfl,Pz,Xw,hS,_,hg,⟨e1,A0⟩,⟨Oc d1 g2,fun s hs=>?_⟩,fun d AM yM=>?_⟩
    ·by_cases e:s=i
     ·subst e; exact d2
     ·exact Oc d1 (g3 s A0)
    ·exact Int.dvd_coe_gcd (g4 d AM fun s hs=>yM s A0) (yM i A0)
   ·rintro ⟨o,gs,gl⟩ ⟨hO,G,hG,⟨g0,g1⟩,⟨g2,g3⟩,g4⟩
    simp only at hO hG ⊢
    have bv:∀ j,Bd M (vk fr a col X k j):=kj MJ ba k bXs
    have TO:∀ j,j < w→G ∣ vk fr a col X k j:=by
     intro j hj
     by_cases e:j=fr
     ·subst e; rw [db k eA]; exact g2
     ·by_cases hex:∃ s,s < k∧col s=j
      ·obtain ⟨s,hs,rfl⟩:=hex
       rw [eb k hB.asc s hs]; exact g3 s hs
      ·rw [Rc e k fun s hs h=>hex ⟨s,hs,h⟩]; exact jm _
    have lJ:∀ j,j < w→G*(vk fr a col X k j / G)=vk fr a col X k j:=fun j hj=>Wv (TO j hj)
    have lG:=hG.lenB (show Bd M G from ⟨A0,by have:=ba.2; omega⟩) hM
    have bu:∀ j,j < w→Bd M (vk fr a col X k j / G):=by
     intro j hj
     have h1:=lJ j hj
     have h2:=bv j
     generalize vk fr a col X k j / G=u at*
     rw [← h1] at h2
     rcases Int.le_total 0 u with h3 | h3
     ·have:1*u≤G*u:=D3 A0 h3
      exact ⟨A0,by have:=h2.2; omega⟩
     ·have:G*u≤1*u:=cm A0 h3
      exact ⟨by have:=h2.1; omega,A0⟩
    refine Zw (Q0 (Post:=fun r:List Nb=>Lg r w (fun j=>vk fr a col X k j / G)) w (fun i (s:List Nb×Int)=>s.2=(i:Int)∧Lg s.1 w (fun j=>if j < i then vk fr a col X k j / G else vk fr a col X k j)) ⟨rfl,hO.congr fun c _=>(B0).symm⟩ ?_ A0) ?_
    ·rintro i ⟨r,_⟩ hi ⟨rfl,hI⟩
     simp only at hI
     unfold m_fg
     simp only
     rw [hO.1,O0]
     refine ⟨fun hlt=>?_,fun cL=>⟨_,rfl,hI.congr fun c hc=>M0 A0⟩⟩
     have II:i < w:=A0
     obtain ⟨x,h1,h2⟩:=hI.at II (i:=(i:Int)) rfl
     have h2:Bg (vk fr a col X k i) x.1 x.2:=h2.cast (B0)
     have lx:=h2.lenB (bv i) hM
     rw [h1,obs]
     refine Zw (Gj (s:=x.1) (t:=gs) (h:=vk fr a col X k i / G) h2.1 hG.1 A0 A0 (by rw [hG.sv]; omega) (by rw [h2.sv,hG.sv,lJ i II])) ?_
     rintro ⟨t1,t2,t3⟩ ⟨aM,_⟩
     simp only at aM ⊢
     rw [P4 (by rw [hI.1]; exact II) rfl,obs]
     refine ⟨_,rfl,II,Xw,(hI.set II (z:=(t1,t2)) aM).congr fun c hc=>?_⟩
     by_cases e:c=i
     ·subst e; rw [M0 rfl,C0]
     ·rw [K0 e]
      by_cases nK:c < i
      ·rw [M0 nK,C0]
      ·rw [K0 nK,B0]
    ·intro r hr
     refine ⟨_,rfl,rfl,_,hr,bu,fun i hi=>?_,fun d wI=>?_⟩
     ·
      have KH:=hB.kernel ay eA (v:=fun j=>if D < 0 then - vk fr a col X k j else vk fr a col X k j) (by
       show (if D < 0 then - vk fr a col X k fr else vk fr a col X k fr)=det k (Pm_ A' col)
       rw [db k eA,UO]
       show (if D < 0 then -(if D < 0 then -D else D) else (if D < 0 then -D else D))=D
       split<;>omega) (fun s hs=>by
       show (if D < 0 then - vk fr a col X k (col s) else vk fr a col X k (col s))=_
       rw [eb k hB.asc s hs]
       show (if D < 0 then -(if D < 0 then Rk A' col k s fr else - Rk A' col k s fr) else (if D < 0 then Rk A' col k s fr else - Rk A' col k s fr))=_
       split<;>omega) (fun j hj h1 h2=>by
       show (if D < 0 then - vk fr a col X k j else vk fr a col X k j)=0
       rw [Rc h1 k h2]; split<;>omega) i hi
      have e1:sm w (fun j=>A i j*vk fr a col X k j)=0:=by
       by_cases jB:D < 0
       ·have e2:sm w (fun j=>A i j*(if D < 0 then - vk fr a col X k j else vk fr a col X k j))= -1*sm w (fun j=>A i j*vk fr a col X k j):=by
         rw [← H3]; exact W0 fun j _=>by rw [M0 jB]; grind
        rw [e2] at KH; omega
       ·have e2:sm w (fun j=>A i j*(if D < 0 then - vk fr a col X k j else vk fr a col X k j))=sm w (fun j=>A i j*vk fr a col X k j):=W0 fun j _=>by rw [K0 jB]
        rw [e2] at KH; exact KH
      have e3:sm w (fun j=>A i j*vk fr a col X k j)=G*sm w (fun j=>A i j*(vk fr a col X k j / G)):=by
       rw [← H3]
       exact W0 fun j hj=>by
        have h9:=lJ j hj
        have h8:A i j*vk fr a col X k j=A i j*(G*(vk fr a col X k j / G)):=by rw [h9]
        rw [h8]; grind
      rw [e3] at e1
      rcases K4.1 e1 with h | h
      ·omega
      ·exact h
     ·
      have BM:∀ j,j < w→d*G ∣ vk fr a col X k j:=by
       intro j hj
       obtain ⟨c,hc⟩:=wI j hj
       refine ⟨c,?_⟩
       have h9:=lJ j hj
       have hc:vk fr a col X k j / G=d*c:=hc
       rw [← h9,hc]; grind
      have h1:d*G ∣ a:=by have:=BM fr ay; rwa [db k eA] at this
      have h2:∀ s,s < k→d*G ∣ X s:=fun s hs=>by have:=BM (col s) (Xy s hs); rwa [eb k hB.asc s hs] at this
      obtain ⟨c,hc⟩:=g4 _ h1 h2
      have h3:G*(d*c - 1)=0:=by
       have:d*G*c=G*(d*c):=by grind
       rw [A9]; omega
      rcases K4.1 h3 with h | h
      ·omega
      ·exact ⟨c,A0⟩
  obtain ⟨⟨l,e⟩,EL,he,hu⟩:=key
  simp only at he hu
  subst he
  exact ⟨l,k,EL,wK,⟨A',col,sn,hB⟩,.inr ⟨aL,hu⟩⟩
end
def Rw (K:Nat) (v:Int) (z:Nb):Prop:=LW z.2∧z.2.length≤K∧sv z.1 z.2=v
def Lr (K:Nat) (l:List Nb) (w:Nat) (f:Nat→Int):Prop:=l.length=w∧∀ c,c < w→∃ z,l[c]?=some z∧Rw K (f c) z
def Tr (K:Nat) (T:List (List Nb)) (n w:Nat) (A:Mx):Prop:=T.length=n∧∀ r,r < n→∃ l,T[r]?=some l∧Lr K l w (A r)
theorem Rw.bd {K:Nat} {v:Int} {z:Nb} (h:Rw K v z):Bd (pw K) v:=by
 obtain ⟨h1,h2,h3⟩:=h
 have a1:=Y1 h1
 have a2:=G4 h1
 have a3:=y6 h2
 unfold sv at h3
 split at h3
 ·exact ⟨A0,A0⟩
 ·exact ⟨A0,A0⟩
theorem Bg.rw {K:Nat} {v:Int} {z:Nb} (h:Bg v z.1 z.2) (hl:z.2.length≤K):Rw K v z:=⟨h.1,hl,h.sv⟩
theorem Lg.lr {K:Nat} {l:List Nb} {w:Nat} {f:Nat→Int} {M:Int} (h:Lg l w f) (hb:∀ j,j < w→Bd M (f j)) (hM:M < pw K):Lr K l w f:=⟨h.1,fun c hc=>by
 obtain ⟨z,h1,h2⟩:=h.2 c hc
 exact ⟨z,h1,h2.rw (h2.lenB (hb c hc) hM)⟩⟩
theorem Tg.tr {K:Nat} {T:List (List Nb)} {n w:Nat} {A:Mx} {M:Int} (h:Tg T n w A) (hb:∀ i j,i < n→j < w→Bd M (A i j)) (hM:M < pw K):Tr K T n w A:=⟨h.1,fun r hr=>by
 obtain ⟨l,h1,h2⟩:=h.2 r hr
 exact ⟨l,h1,h2.lr (fun j hj=>hb r j hr hj) hM⟩⟩
theorem Lr.at {K:Nat} {l:List Nb} {w:Nat} {f:Nat→Int} (h:Lr K l w f) {c:Nat} (hc:c < w) {i:Int} (hi:i=(c:Int)):∃ z,getI l i=some z∧Rw K (f c) z:=by
 obtain ⟨z,h1,h2⟩:=h.2 c hc
 exact ⟨z,X2 h1 hi,h2⟩
theorem Tr.at {K:Nat} {T:List (List Nb)} {n w:Nat} {A:Mx} (h:Tr K T n w A) {r:Nat} (hr:r < n) {i:Int} (hi:i=(r:Int)):∃ l,getI T i=some l∧Lr K l w (A r):=by
 obtain ⟨l,h1,h2⟩:=h.2 r hr
 exact ⟨l,X2 h1 hi,h2⟩
def Sh (T:List (List Nb)) (n w:Nat):Prop:=T.length=n∧∀ r,r < n→∃ l,T[r]?=some l∧l.length=w
theorem Tr.sh {K:Nat} {T:List (List Nb)} {n w:Nat} {A:Mx} (h:Tr K T n w A):Sh T n w:=⟨h.1,fun r hr=>by
 obtain ⟨l,h1,h2⟩:=h.2 r hr
 exact ⟨l,h1,h2.1⟩⟩
theorem Tg.sh {T:List (List Nb)} {n w:Nat} {A:Mx} (h:Tg T n w A):Sh T n w:=⟨h.1,fun r hr=>by
 obtain ⟨l,h1,h2⟩:=h.2 r hr
 exact ⟨l,h1,h2.1⟩⟩
theorem Sh.at {T:List (List Nb)} {n w:Nat} (h:Sh T n w) {r:Nat} (hr:r < n) {i:Int} (hi:i=(r:Int)):∃ l,getI T i=some l∧l.length=w:=by
 obtain ⟨l,h1,h2⟩:=h.2 r hr
 exact ⟨l,X2 h1 hi,h2⟩
section
variable {n w K:Nat} {A:Mx} {T:List (List Nb)}
theorem di (hT:Sh T n w):m_dy T=some (if n=0 then 0 else (w:Int)):=by
 unfold m_dy
 by_cases h0:n=0
 ·rw [M0 (by rw [hT.1]; omega),M0 h0]
 ·rw [K0 (by rw [hT.1]; omega),K0 h0]
  obtain ⟨l,h1,h2⟩:=hT.at (r:=0) A0 (i:=0) rfl
  rw [h1,obs,h2]
theorem Jm (hT:Sh T n w):m_hw T=some (if n=0 then 0 else (w:Int)):=by
 unfold m_hw
 by_cases h0:n=0
 ·rw [M0 (by rw [hT.1]; omega),M0 h0]
 ·rw [K0 (by rw [hT.1]; omega),K0 h0]
  obtain ⟨l,h1,h2⟩:=hT.at (r:=0) A0 (i:=0) rfl
  rw [h1,obs,h2]
theorem Sm (hT:Sh T n w) (hn:n≤16) (hw:w≤16):m_d3 T=some 0:=by
 have hc:m_d2 T (if n=0 then 0 else (w:Int))=some false:=by
  refine Ret.eq ?_
  unfold m_d2 m_d1
  rw [J0]
  refine Zw (Q0 (Post:=fun o=>o=.inl ()) n (fun k (i:Int)=>i=(k:Int)) rfl ?_ A0) ?_
  ·rintro k _ hk rfl
   unfold m_d0
   rw [hT.1,O0]
   refine ⟨fun hlt=>?_,fun _=>⟨_,rfl,rfl⟩⟩
   obtain ⟨l,h1,h2⟩:=hT.at (r:=k) A0 (i:=(k:Int)) rfl
   unfold m_dz
   rw [h1,obs,obs,h2,K0 (show ¬ n=0 by omega)]
   simp only [decide_true,Y5,Q2,if_false]
   exact ⟨_,rfl,A0,Xw⟩
  ·rintro _ rfl
   exact ⟨_,rfl,_,rfl,rfl⟩
 unfold m_d3
 rw [di hT,obs,hc,obs,K0 H0,hT.1,K0]
 simp only [H5,decide_eq_true_eq,not_or]
 split<;>omega
theorem WB {v:Int} {z:Nb} (hz:Rw K v z) (hK:K≤400):Ret (m_cu z.1 z.2) (fun r=>Bg v r.1 r.2):=(Fg (s:=z.1) hz.1 (by have:=hz.2.1; omega)).mono fun r hr=>by rw [hz.2.2] at hr; exact hr
theorem Uw {row:List Nb} {f:Nat→Int} (TA:Lr K row w f) (hK:K≤400) (hw:w≤1000):Ret (loop (m_d5 row) ([],0)) (fun o=>Lg o w f):=by
 refine Q0 (Post:=fun o:List Nb=>Lg o w f) w (fun k (s:List Nb×Int)=>s.2=(k:Int)∧Lg s.1 k f) ⟨rfl,rfl,fun c hc=>absurd hc A0⟩ ?_ A0
 rintro k ⟨o,_⟩ hk ⟨rfl,hI⟩
 simp only at hI
 unfold m_d5
 simp only
 rw [TA.1,O0]
 refine ⟨fun hlt=>?_,fun tx=>⟨_,rfl,by have e:k=w:=A0; subst e; exact hI⟩⟩
 have Jx:k < w:=A0
 obtain ⟨z,h1,h2⟩:=TA.at Jx (i:=(k:Int)) rfl
 rw [h1,obs]
 refine Zw (WB h2 hK) fun r hr=>?_
 rw [J0,D2]
 refine ⟨by rw [hI.1]; simp only [I2,Y2]; omega,_,rfl,Jx,Xw,hI.snoc (z:=(r.1,r.2)) hr⟩
theorem Cm (hT:Tr K T n w A) (hK:K≤400) (hn:n≤1000) (hw:w≤1000):Ret (m_d7 T []) (fun o=>Tg o n w A):=by
 unfold m_d7
 refine Zw (Q0 (Post:=fun o:List (List Nb)=>Tg o n w A) n (fun k (s:List (List Nb)×Int)=>s.2=(k:Int)∧Tg s.1 k w A) ⟨rfl,rfl,fun c hc=>absurd hc A0⟩ ?_ A0) fun r hr=>⟨_,rfl,hr⟩
 rintro k ⟨o,_⟩ hk ⟨rfl,hI⟩
 simp only at hI
 unfold m_d6
 simp only
 rw [hT.1,O0]
 refine ⟨fun hlt=>?_,fun tx=>⟨_,rfl,by have e:k=n:=A0; subst e; exact hI⟩⟩
 have px:k < n:=A0
 obtain ⟨row,h1,h2⟩:=hT.at px (i:=(k:Int)) rfl
 rw [h1,obs]
 refine Zw (Uw h2 hK hw) fun r hr=>?_
 rw [K0 H0]
 unfold m_d4
 rw [J0,D2]
 exact ⟨by rw [hI.1]; simp only [I2,Y2]; omega,_,rfl,px,Xw,hI.snoc hr⟩
theorem Lg.zeros' (w:Nat):Lg (List.replicate w ((false,[]):Nb)) w (fun _=>0):=⟨U4 ..,fun c hc=>⟨(false,[]),by rw [Kb,M0 hc],Ac⟩⟩
theorem iprod {K:Nat} {v u s:Int} {m:Nat} {y z q:Nb} (hK:K≤60) (hy:Rw K v y) (hz:Rw K u z) (hq:Bg s q.1 q.2) (hs:q.2.length≤500):Ret ((m_eb y.1 y.2 z.1 z.2).bind fun r=>m_ek q.1 q.2 r.1 r.2) (fun r=>Bg (s+v*u) r.1 r.2):=by
 have l1:=hy.2.1
 have l2:=hz.2.1
 refine Zw (Gg (s:=y.1) (t:=z.1) hy.1 hz.1 A0 A0) fun r hr=>?_
 rw [hy.2.2,hz.2.2] at hr
 have lr:r.2.length≤2*K+1:=hr.lenB (hy.bd.mul hz.bd) (by
  have h1:pw (K+K)=pw K*pw K:=W6 K K
  have h2:pw (K+K+1)=B*pw (K+K):=rfl
  have h3:=M1 (K+K)
  have e2:B=4294967296:=rfl
  have:2*K+1=K+K+1:=A0
  rw [this,h2,← h1,e2]; omega)
 refine (al (s:=q.1) (t:=r.1) hq.1 hr.1 A0 A0).mono fun t ht=>?_
 rw [hq.sv,hr.sv] at ht
 exact ht
end
section
variable {n w K:Nat} {A:Mx} {T:List (List Nb)}
theorem Mm {M:Int} (hM:M < pw 190) (hT:Tr K T n w A) (hK:K≤400) (hR:Okb n w A M) (hn:n≤16) (hw:w≤16) (zF:0 < n∨w=0):∃ k:Nat,m_e8 T=some ((k:Int),0)∧∃ A' col sn,Bar n w A A' col k w sn:=by
 obtain ⟨T',ht,uJ⟩:=Cm hT hK A0 A0
 obtain ⟨⟨R,pv,zs,zl,sn⟩,qJ,A',col,k,hB,SK,Wz,hd⟩:=Fk (cw:=w) hM hR (H2 w) A0 A0 uJ
 simp only at hB SK Wz hd
 have ED:pv.length=k:=by rw [Wz,Sa,Q6]
 refine ⟨k,?_,A',col,sn,hB⟩
 have EG:m_dy T=some (w:Int):=by
  rw [di hT.sh]
  split
  ·rename_i h0; have:w=0:=A0; rw [this]; rfl
  ·rfl
 unfold m_e8
 rw [Sm hT.sh hn hw,obs,M0 rfl,ht,obs,EG,obs,qJ,obs]
 simp only
 rw [ED]
end
abbrev Fb:=Bool×LI×Bool×LI
def Bk (K:Nat) (v:Int):Prop:=- pw K < v∧v < pw K
theorem O6 {s:Bool} {l:LI} {K:Nat} (h:LW l) (hl:l.length≤K):Bk K (sv s l):=by
 have a1:=Y1 h
 have a2:=G4 h
 have a3:=y6 hl
 unfold sv
 split
 ·exact ⟨A0,A0⟩
 ·exact ⟨A0,A0⟩
theorem Bk.len {K:Nat} {v:Int} {s:Bool} {l:LI} (h:Bk K v) (hb:Bg v s l):l.length≤K:=hb.len h.1 h.2
theorem Bk.mul {K L:Nat} {u v:Int} (h:Bk K u) (h':Bk L v):Bk (K+L) (u*v):=by
 have e:pw (K+L)=pw K*pw L:=W6 K L
 have p1:=M1 K
 have p2:=M1 L
 have b:=(show Bd (pw K - 1) u from ⟨by have:=h.1; omega,by have:=h.2; omega⟩).mul (show Bd (pw L - 1) v from ⟨by have:=h'.1; omega,by have:=h'.2; omega⟩)
 have e2:(pw K - 1)*(pw L - 1)=pw K*pw L - pw K - pw L+1:=by grind
 rw [e2] at b
 exact ⟨by have:=b.1; omega,by have:=b.2; omega⟩
theorem Bk.mono {K L:Nat} {v:Int} (h:Bk K v) (JS:K≤L):Bk L v:=by
 have:=y6 JS
 exact ⟨by have:=h.1; omega,by have:=h.2; omega⟩
theorem Bk.of {K:Nat} {v M:Int} (h:Bd M v) (hM:M < pw K):Bk K v:=⟨by have:=h.1; omega,by have:=h.2; omega⟩
theorem Bk.sub {K:Nat} {u v:Int} (h:Bk K u) (h':Bk K v):Bk (K+1) (u - v):=by
 have e:pw (K+1)=B*pw K:=rfl
 have e2:B=4294967296:=rfl
 have p1:=M1 K
 have:=h.1; have:=h.2; have:=h'.1; have:=h'.2
 exact ⟨by rw [e,e2]; omega,by rw [e,e2]; omega⟩
theorem vg {s t:Bool} {a b:LI} (ha:LW a) (hb:LW b) (hn:a.length≤800) (hm:b.length≤800) (kx:sv t b≠0) (hd:sv t b ∣ sv s a):Ret (m_if s a t b) (fun r=>Bg (sv s a / sv t b) r.1 r.2.1):=by
 unfold m_if
 refine Zw (Gk (s:=s) (t:=t) ha hb hn hm kx) ?_
 rintro ⟨q1,q2,q3,q4⟩ ⟨h1,h2⟩
 simp only at h1 h2 ⊢
 rw [XF hd] at h2
 have l2:=h2.lenB (M:=0) (m:=1) ⟨A0,A0⟩ (by decide)
 have hs:=bc h2 A0
 rw [B0,B0] at hs
 rw [hs,obs,M0 rfl]
 exact ⟨_,rfl,h1⟩
def Fr (z:Fb) (n d:Int):Prop:=Bg n z.1 z.2.1∧Bg d z.2.2.1 z.2.2.2
theorem Yg {s t:Bool} {a b:LI} {u v:Int} (ha:LW a) (hb:LW b) (hu:sv s a=u) (hv:sv t b=v) (hn:a.length≤400) (hm:b.length≤400) (kx:v≠0) (oR:Bg v t b):Ret (m_ih s a t b) (fun r=>Fr r (nrm u v).1 (nrm u v).2):=by
 unfold m_ih
 refine Zw (Rt (s:=s) (t:=t) ha hb hn hm) ?_
 rintro ⟨gs,gl⟩ hg
 simp only at hg ⊢
 rw [hu,hv] at hg
 have pM:(Int.gcd u v:Int) ∣ v:=Mc ..
 have CT:(Int.gcd u v:Int) ∣ u:=Nc ..
 have GG:Int.gcd u v≠0:=fun h=>kx (gm h)
 have aT:(Int.gcd u v:Nat)≤v.natAbs:=Ib A0 (by have:=Qh.2 pM; simpa using this)
 have LO:=O6 (s:=t) hb hm
 rw [hv] at LO
 have rM:Bk 400 (Int.gcd u v:Int):=⟨by have:=M1 400; omega,by have:=LO.1; have:=LO.2; omega⟩
 have lg:=rM.len hg
 rw [bc oR A0,obs]
 have key:∀ (xs:Bool) (xl:LI) (g:Int),Bg g xs xl→g=sgcd u v→xl.length≤400→Ret (m_ig s a t b xs xl) (fun r=>Fr r (nrm u v).1 (nrm u v).2):=by
  rintro xs xl g hx rfl hl
  unfold m_ig
  have qN:=vj (a:=u) kx
  refine Zw (vg (s:=s) (t:=xs) ha hx.1 A0 A0 (by rw [hx.sv]; exact qN) (by rw [hx.sv,hu]; exact wj u v)) fun r hr=>?_
  rw [hx.sv,hu] at hr
  refine Zw (vg (s:=t) (t:=xs) hb hx.1 A0 A0 (by rw [hx.sv]; exact qN) (by rw [hx.sv,hv]; exact uj u v)) fun q hq=>?_
  rw [hx.sv,hv] at hq
  exact ⟨_,rfl,hr,hq⟩
 rw [O0]
 refine ⟨fun CD=>?_,fun uH=>?_⟩
 ·have VH:v < 0:=by revert CD; split<;>(try split)<;>omega
  refine Zw (Nj (s:=gs) hg.1 A0) fun r hr=>?_
  obtain ⟨hr,hl⟩:=hr
  rw [hg.sv] at hr
  exact key r.1 r.2 _ hr (by unfold sgcd; rw [M0 VH]) A0
 ·have VH:¬ v < 0:=fun h=>uH (by rw [M0 h]; omega)
  exact key gs gl _ hg (by unfold sgcd; rw [K0 VH]) lg
def Fq (z:Fb) (v D:Int):Prop:=∃ n d,Fr z n d∧Lo n d∧Vq n d v D
theorem Fq.cancel {z:Fb} {v D c:Int} (hc:c≠0) (h:Fq z (c*v) (c*D)):Fq z v D:=by
 obtain ⟨n,d,h1,h2,h3⟩:=h
 refine ⟨n,d,h1,h2,?_⟩
 unfold Vq at*
 have:c*(n*D - v*d)=0:=by grind
 rcases K4.1 this with h | h
 ·exact absurd h hc
 ·omega
theorem Fq.scale {z:Fb} {v D:Int} (c:Int) (h:Fq z v D):Fq z (c*v) (c*D):=by
 obtain ⟨n,d,h1,h2,h3⟩:=h
 refine ⟨n,d,h1,h2,?_⟩
 unfold Vq at*
 have:n*(c*D)=c*(n*D):=by grind
 rw [this,h3]; grind
theorem Fq.zero {z:Fb} {D D':Int} (hD:D≠0) (h:Fq z 0 D):Fq z 0 D':=by
 obtain ⟨n,d,h1,h2,h3⟩:=h
 refine ⟨n,d,h1,h2,?_⟩
 unfold Vq at*
 rw [V3] at h3 ⊢
 rcases K4.1 h3 with h | h
 ·rw [h,V3]
 ·exact absurd h hD
theorem Fq.num {z:Fb} {v D:Int} (hD:D≠0) (h:Fq z v D):∃ n d,Fr z n d∧Lo n d∧Vq n d v D∧(n=0↔v=0):=by
 obtain ⟨n,d,h1,h2,h3⟩:=h
 refine ⟨n,d,h1,h2,h3,?_,?_⟩
 ·rintro rfl
  unfold Vq at h3
  rw [V3] at h3
  rcases K4.1 h3.symm with h | h
  ·exact h
  ·have:=h2.1; omega
 ·rintro rfl
  unfold Vq at h3
  rw [V3] at h3
  rcases K4.1 h3 with h | h
  ·exact h
  ·exact absurd h hD
theorem Fq.len {z:Fb} {v D:Int} {K:Nat} (hD:D≠0) (hv:Bk K v) (hd:Bk K D) (h:Fq z v D):z.2.1.length≤K∧z.2.2.2.length≤K:=by
 obtain ⟨n,d,h1,h2,h3,h4⟩:=h.num hD
 unfold Vq at h3
 have IT:=h2.1
 have d1:d ∣ D:=by
  have:d ∣ n*D:=⟨v,by rw [h3,P2]⟩
  exact Ja h2.2 this
 have n1:n ∣ v:=by
  have:n ∣ d*v:=⟨D,by rw [P2 d v]; exact h3.symm⟩
  exact Ja (by rw [Xv]; exact h2.2) this
 have d2:d.natAbs≤D.natAbs:=Ib A0 (Qh.2 d1)
 have n2:n.natAbs≤v.natAbs:=by
  by_cases h0:v=0
  ·rw [h4.2 h0]; omega
  ·exact Ib A0 (Qh.2 n1)
 have bn:Bk K n:=⟨by have:=hv.1; have:=hv.2; omega,by have:=hv.1; have:=hv.2; omega⟩
 have bd:Bk K d:=⟨by have:=hd.1; have:=hd.2; omega,by have:=hd.1; have:=hd.2; omega⟩
 exact ⟨bn.len h1.1,bd.len h1.2⟩
theorem TB {a b:Int} {K L:Nat} (hb:b≠0) (ha:Bk K a) (hB:Bk L b):Bk K (nrm a b).1∧Bk L (nrm a b).2:=by
 have h0:=vj (a:=a) hb
 have key:∀ {x:Int} {K:Nat},sgcd a b ∣ x→Bk K x→Bk K (x / sgcd a b):=by
  rintro x K ⟨y,rfl⟩ hx
  rw [B9 _ h0]
  have h1:y.natAbs≤(sgcd a b*y).natAbs:=by
   rw [Ud]
   have:1*y.natAbs≤(sgcd a b).natAbs*y.natAbs:=Eb _ A0
   omega
  exact ⟨by have:=hx.1; have:=hx.2; omega,by have:=hx.1; have:=hx.2; omega⟩
 exact ⟨key (wj a b) ha,key (uj a b) hB⟩
theorem au {x y z w:Fb} {X Y Z W D:Int} {K L:Nat} (hD:D≠0) (hW:W≠0) (hx:Fq x X D) (hy:Fq y Y D) (hz:Fq z Z D) (hw:Fq w W D) (lx:x.2.1.length≤L∧x.2.2.2.length≤L) (ly:y.2.1.length≤K∧y.2.2.2.length≤K) (lz:z.2.1.length≤K∧z.2.2.2.length≤K) (lw:w.2.1.length≤K∧w.2.2.2.length≤K) (hK:L+3*K≤380):
  Ret (m_ii x.1 x.2.1 x.2.2.1 x.2.2.2 y.1 y.2.1 y.2.2.1 y.2.2.2 z.1 z.2.1 z.2.2.1 z.2.2.2 w.1 w.2.1 w.2.2.1 w.2.2.2) (fun r=>Fq r (X*W - Y*Z) (D*W)):=by
 obtain ⟨xn,xd,fx,ox,vx⟩:=hx
 obtain ⟨yn,yd,fy,oy,vy⟩:=hy
 obtain ⟨zn,zd,fz,oz,vz⟩:=hz
 obtain ⟨wn,wd,fw,ow,vw⟩:=hw
 obtain ⟨AJ,hV⟩:=Dt.minus_ok hD hW ox oy oz ow vx vy vz vw
 have bxn:=O6 (s:=x.1) fx.1.1 lx.1
 have bxd:=O6 (s:=x.2.2.1) fx.2.1 lx.2
 have byn:=O6 (s:=y.1) fy.1.1 ly.1
 have byd:=O6 (s:=y.2.2.1) fy.2.1 ly.2
 have bzn:=O6 (s:=z.1) fz.1.1 lz.1
 have bzd:=O6 (s:=z.2.2.1) fz.2.1 lz.2
 have bwn:=O6 (s:=w.1) fw.1.1 lw.1
 have bwd:=O6 (s:=w.2.2.1) fw.2.1 lw.2
 rw [fx.1.sv] at bxn
 rw [fx.2.sv] at bxd
 rw [fy.1.sv] at byn
 rw [fy.2.sv] at byd
 rw [fz.1.sv] at bzn
 rw [fz.2.sv] at bzd
 rw [fw.1.sv] at bwn
 rw [fw.2.sv] at bwd
 have SL:=oy.1
 have XN:=oz.1
 have uL:=ox.1
 have wH:yd*zd*wn≠0:=J8 (J8 A0 A0) AJ
 unfold m_ii
 refine Zw (P7 (s:=y.1) (t:=z.1) fy.1.1 fz.1.1 A0 A0) fun r1 h1=>?_
 rw [fy.1.sv,fz.1.sv] at h1
 have l1:=(byn.mul bzn).len h1
 refine Zw (P7 (s:=r1.1) (t:=w.2.2.1) h1.1 fw.2.1 A0 A0) fun r2 h2=>?_
 rw [h1.sv,fw.2.sv] at h2
 have b2:=(byn.mul bzn).mul bwd
 have l2:=b2.len h2
 refine Zw (P7 (s:=y.2.2.1) (t:=z.2.2.1) fy.2.1 fz.2.1 A0 A0) fun r3 h3=>?_
 rw [fy.2.sv,fz.2.sv] at h3
 have l3:=(byd.mul bzd).len h3
 refine Zw (P7 (s:=r3.1) (t:=w.1) h3.1 fw.1.1 A0 A0) fun r4 h4=>?_
 rw [h3.sv,fw.1.sv] at h4
 have b4:=(byd.mul bzd).mul bwn
 have l4:=b4.len h4
 refine Zw (Yg (s:=r2.1) (t:=r4.1) h2.1 h4.1 h2.sv h4.sv A0 A0 wH h4) fun p hp=>?_
 obtain ⟨p1,p2⟩:=nb (a:=yn*zn*wd) wH
 obtain ⟨bp1,bp2⟩:=TB (a:=yn*zn*wd) wH b2 b4
 generalize nrm (yn*zn*wd) (yd*zd*wn)=P at*
 have lp1:=bp1.len hp.1
 have lp2:=bp2.len hp.2
 have BR:=p1.1
 have xH:xd*P.2≠0:=J8 A0 A0
 refine Zw (P7 (s:=x.1) (t:=p.2.2.1) fx.1.1 hp.2.1 A0 A0) fun r5 h5=>?_
 rw [fx.1.sv,hp.2.sv] at h5
 have b5:=bxn.mul bp2
 have l5:=b5.len h5
 refine Zw (P7 (s:=p.1) (t:=x.2.2.1) hp.1.1 fx.2.1 A0 A0) fun r6 h6=>?_
 rw [hp.1.sv,fx.2.sv] at h6
 have b6:=bp1.mul bxd
 have l6:=b6.len h6
 refine Zw (Wq (s:=r5.1) (t:=r6.1) h5.1 h6.1 A0 A0) fun r7 h7=>?_
 rw [h5.sv,h6.sv] at h7
 have b7:=(b5.mono (show L+(K+K+K)≤L+3*K by omega)).sub (b6.mono (show (K+K+K)+L≤L+3*K by omega))
 have l7:=b7.len h7
 refine Zw (P7 (s:=x.2.2.1) (t:=p.2.2.1) fx.2.1 hp.2.1 A0 A0) fun r8 h8=>?_
 rw [fx.2.sv,hp.2.sv] at h8
 have b8:=bxd.mul bp2
 have l8:=b8.len h8
 refine Zw (Yg (s:=r7.1) (t:=r8.1) h7.1 h8.1 h7.sv h8.sv A0 A0 xH h8) fun q hq=>?_
 obtain ⟨q1,q2⟩:=nb (a:=xn*P.2 - P.1*xd) xH
 exact ⟨_,rfl,_,_,hq,q1,hV⟩
def Lf (l:List Fb) (w:Nat) (f:Nat→Int) (D:Int):Prop:=l.length=w∧∀ c,c < w→∃ z,l[c]?=some z∧Fq z (f c) D
def Tf (F:List (List Fb)) (n w:Nat) (V:Mx) (D:Nat→Int):Prop:=F.length=n∧∀ r,r < n→∃ l,F[r]?=some l∧Lf l w (V r) (D r)
theorem Lf.at {l:List Fb} {w:Nat} {f:Nat→Int} {D:Int} (h:Lf l w f D) {c:Nat} (hc:c < w) {i:Int} (hi:i=(c:Int)):∃ z,getI l i=some z∧Fq z (f c) D:=by
 obtain ⟨z,h1,h2⟩:=h.2 c hc
 exact ⟨z,X2 h1 hi,h2⟩
theorem Tf.at {F:List (List Fb)} {n w:Nat} {V:Mx} {D:Nat→Int} (h:Tf F n w V D) {r:Nat} (hr:r < n) {i:Int} (hi:i=(r:Int)):∃ l,getI F i=some l∧Lf l w (V r) (D r):=by
 obtain ⟨l,h1,h2⟩:=h.2 r hr
 exact ⟨l,X2 h1 hi,h2⟩
theorem Lf.congr {l:List Fb} {w:Nat} {f g:Nat→Int} {D E:Int} (h:Lf l w f D) (e:∀ c,c < w→f c=g c) (e2:D=E):Lf l w g E:=⟨h.1,fun c hc=>by
 obtain ⟨z,h1,h2⟩:=h.2 c hc
 exact ⟨z,h1,by rw [← e c hc,← e2]; exact h2⟩⟩
theorem Tf.congr {F:List (List Fb)} {n w:Nat} {V V':Mx} {D D':Nat→Int} (h:Tf F n w V D) (e:∀ r c,r < n→c < w→V r c=V' r c) (e2:∀ r,r < n→D r=D' r):Tf F n w V' D':=⟨h.1,fun r hr=>by
 obtain ⟨l,h1,h2⟩:=h.2 r hr
 exact ⟨l,h1,h2.congr (fun c hc=>e r c hr hc) (e2 r hr)⟩⟩
theorem Lf.snoc {l:List Fb} {k:Nat} {f:Nat→Int} {D:Int} (h:Lf l k f D) {z:Fb} (hz:Fq z (f k) D):Lf (l++[z]) (k+1) f D:=by
 refine ⟨by rw [Q1,h.1]; rfl,fun c hc=>?_⟩
 by_cases e:c < k
 ·obtain ⟨y,h1,h2⟩:=h.2 c e
  exact ⟨y,by rw [Q5 (by rw [h.1]; exact e)]; exact h1,h2⟩
 ·obtain rfl:c=k:=A0
  exact ⟨z,by rw [X5 (by rw [h.1]; omega),h.1,E6]; rfl,hz⟩
theorem Tf.snoc {F:List (List Fb)} {k w:Nat} {V:Mx} {D:Nat→Int} (h:Tf F k w V D) {l:List Fb} (hl:Lf l w (V k) (D k)):Tf (F++[l]) (k+1) w V D:=by
 refine ⟨by rw [Q1,h.1]; rfl,fun c hc=>?_⟩
 by_cases e:c < k
 ·obtain ⟨y,h1,h2⟩:=h.2 c e
  exact ⟨y,by rw [Q5 (by rw [h.1]; exact e)]; exact h1,h2⟩
 ·obtain rfl:c=k:=A0
  exact ⟨l,by rw [X5 (by rw [h.1]; omega),h.1,E6]; rfl,hl⟩
theorem Og (v:Int):Lo v 1:=⟨A0,by rw [Int.gcd_one]⟩
theorem Wt {K n w:Nat} {A:Mx} {T:List (List Nb)} (hT:Tr K T n w A) (hK:K≤400) (hn:n≤1000) (hw:w≤1000):Ret (m_hv T) (fun F=>Tf F n w A (fun _=>1)):=by
 unfold m_hv
 refine Zw (Q0 (Post:=fun F:List (List Fb)=>Tf F n w A (fun _=>1)) n (fun r (s:List (List Fb)×Int)=>s.2=(r:Int)∧Tf s.1 r w A (fun _=>1)) ⟨rfl,rfl,fun c hc=>absurd hc A0⟩ ?_ A0) fun r hr=>⟨_,rfl,hr⟩
 rintro r ⟨F,_⟩ hr ⟨rfl,hI⟩
 simp only at hI
 unfold m_hu
 simp only
 rw [hT.1,O0]
 refine ⟨fun hlt=>?_,fun tx=>⟨_,rfl,by have e:r=n:=A0; subst e; exact hI⟩⟩
 have ZJ:r < n:=A0
 obtain ⟨row,h1,h2⟩:=hT.at ZJ (i:=(r:Int)) rfl
 refine Zw (Q0 (Post:=fun l:List Fb=>Lf l w (A r) 1) w (fun c (s:List Fb×Int)=>s.2=(c:Int)∧Lf s.1 c (A r) 1) ⟨rfl,rfl,fun c hc=>absurd hc A0⟩ ?_ A0) fun l hl=>?_
 ·rintro c ⟨l,_⟩ hc ⟨rfl,hJ⟩
  simp only at hJ
  unfold m_ht
  simp only
  rw [h1,obs,h2.1,O0]
  refine ⟨fun TI=>?_,fun tx=>⟨_,rfl,by have e:c=w:=A0; subst e; exact hJ⟩⟩
  have aA:c < w:=A0
  obtain ⟨z,h3,h4⟩:=h2.at aA (i:=(c:Int)) rfl
  rw [obs,h3,obs]
  refine Zw (nd (s:=z.1) h4.1 (by have:=h4.2.1; omega)) fun y hy=>?_
  obtain ⟨hy,_⟩:=hy
  rw [h4.2.2] at hy
  refine Zw (ra (n:=1) A0 A0) fun one eI=>?_
  rw [J0,D2]
  exact ⟨by rw [hJ.1]; simp only [I2,Y2]; omega,_,rfl,aA,Xw,hJ.snoc (z:=(y.1,y.2,one.1,one.2)) ⟨A r c,1,⟨hy,eI⟩,Og _,by unfold Vq; rfl⟩⟩
 ·rw [J0,D2]
  exact ⟨by rw [hI.1]; simp only [I2,Y2]; omega,_,rfl,ZJ,Xw,hI.snoc hl⟩
theorem Ug {α:Type} {p q:Prop} [Decidable p] [Decidable q] {x y:α} (h:p↔q):(if p then x else y)=if q then x else y:=by
 by_cases hp:p
 ·rw [M0 hp,M0 (h.1 hp)]
 ·rw [K0 hp,K0 (fun e=>hp (h.2 e))]
def VT (A':Mx) (col:Nat→Nat) (k:Nat):Mx:=fun r j=>if r < k then Rk A' col r r j else Rk A' col k r j
def DT (A':Mx) (col:Nat→Nat) (k:Nat):Nat→Int:=fun r=>if r < k then det r (Pm_ A' col) else det k (Pm_ A' col)
def EJ (n w:Nat) (A:Mx) (c:Nat) (F:List (List Fb)) (pv:LI) (ds:Bool) (dl:LI) (es:Bool) (el:LI):Prop:=
 ∃ A' col k sn,Bar n w A A' col k c sn∧Tf F n w (VT A' col k) (DT A' col k)∧pv=(List.range k).map (fun s=>(col s:Int))∧Bg (sn*det k (Pm_ A' col)) ds dl∧Bg 1 es el∧∀ s,s≤k→det s (Pm_ A' col)≠0
theorem Tf.set {F:List (List Fb)} {n w:Nat} {V:Mx} {D:Nat→Int} (h:Tf F n w V D) {k:Nat} (hk:k < n) {l:List Fb} {g:Nat→Int} {E:Int} (hl:Lf l w g E):Tf (F.set k l) n w (up V k g) (fun r=>if r=k then E else D r):=by
 refine ⟨by rw [N3]; exact h.1,fun r hr=>?_⟩
 by_cases e:r=k
 ·subst e
  exact ⟨l,by rw [D5]; rw [h.1]; exact hk,hl.congr (fun c _=>C2.symm) (M0 rfl).symm⟩
 ·obtain ⟨m,h1,h2⟩:=h.2 r hr
  exact ⟨m,by rw [A6 (fun h=>e h.symm)]; exact h1,h2.congr (fun c _=>(J2 e).symm) (K0 e).symm⟩
section
variable {n w:Nat} {A A':Mx} {col:Nat→Nat} {k c a:Nat} {sn M:Int}
def Mid (n w k c i X:Nat) (V V1 R':Mx) (D:Nat→Int) (D' dk:Int) (F:List (List Fb)):Prop:=
 F.length=n∧(∀ r,r < n→r≠i→∃ l,F[r]?=some l∧Lf l w (V r) (D r))∧∃ l,F[i]?=some l∧l.length=w∧∀ x,x < w→∃ z,l[x]?=some z∧Fq z (if c≤x∧x < X then R' i x else V1 i x) (if c≤x∧x < X then D' else dk)
theorem iA (hM:M < pw 60) {pv:LI} (ED:pv.length=k) {i:Nat} (XG:i < n) (Pz:k < i) (aA:c < w) (hw:w≤1000) (hn:n≤1000) {V V1 R':Mx} {D:Nat→Int} {dk D':Int} (AG:dk≠0) (UN:D'≠0)
  (bV:∀ r j,r < n→k≤r→j < w→Bd M (V1 r j)) (bd:Bd M dk) (oS:∀ j,V k j=V1 k j) (TN:D k=dk) (PJ:V1 k c=D')
  (kB:∀ x,V1 i x*V1 k c - V1 i c*V1 k x=dk*R' i x) {f:Fb} (hf:Fq f (V1 i c) dk) {F:List (List Fb)} (hF:Mid n w k c i c V V1 R' D D' dk F):
  Ret (loop (m_ik (w:Int) (i:Int) pv (c:Int) f) (F,(c:Int))) (fun G=>Mid n w k c i w V V1 R' D D' dk G):=by
 refine Q0 (Post:=fun G:List (List Fb)=>Mid n w k c i w V V1 R' D D' dk G) (w - c) (fun t (s:List (List Fb)×Int)=>s.2=((c+t:Nat):Int)∧c+t≤w∧Mid n w k c i (c+t) V V1 R' D D' dk s.1) ⟨rfl,A0,hF⟩ ?_ A0
 rintro t ⟨F,_⟩ ht ⟨rfl,sT,hI⟩
 simp only at hI
 unfold m_ik
 simp only
 rw [O0]
 refine ⟨fun hlt=>?_,fun tx=>⟨_,rfl,by have e:c+t=w:=A0; rw [e] at hI; exact hI⟩⟩
 have TL:c+t < w:=A0
 obtain ⟨hl,By,li,h1,h2,h3⟩:=hI
 obtain ⟨lk,k1,k2⟩:=By k A0 A0
 obtain ⟨zi,h4,h5⟩:=h3 (c+t) TL
 rw [B0,B0] at h5
 obtain ⟨zx,k3,k4⟩:=k2.2 (c+t) TL
 obtain ⟨zc,k5,k6⟩:=k2.2 c aA
 rw [oS,TN] at k4 k6
 have gi:=X2 h1 (i:=(i:Int)) rfl
 have gk:=X2 k1 (i:=(k:Int)) rfl
 have RI:(pv.length:Int)=(k:Int):=by rw [ED]
 rw [RI,gi,obs,obs,X2 h4 rfl,obs,gk,obs,X2 k3 rfl,obs,obs,X2 k5 rfl,obs,J0]
 have b0:Bk 60 dk:=Bk.of bd hM
 have bi:∀ j,j < w→Bk 60 (V1 i j):=fun j hj=>Bk.of (bV i j XG A0 hj) hM
 have bk:∀ j,j < w→Bk 60 (V1 k j):=fun j hj=>Bk.of (bV k j A0 (H2 k) hj) hM
 refine (au (K:=60) (L:=60) (x:=zi) (y:=f) (z:=zx) (w:=zc) AG (by rw [PJ]; exact UN) h5 hf k4 k6 (h5.len AG (bi _ TL) b0) (hf.len AG (bi _ aA) b0) (k4.len AG (bk _ TL) b0) (k6.len AG (bk _ aA) b0) A0).mono fun r hr=>?_
 rw [kB,PJ] at hr
 have hr:=hr.cancel AG
 rw [P4 (by rw [h2]; exact TL) rfl,obs,P4 (by rw [hl]; exact XG) rfl,obs]
 refine ⟨_,rfl,A0,by show wa .i64 ((c+t:Nat):Int) 1=_; rw [U0 A0 A0]; rfl,A0,by rw [N3]; exact hl,fun r hr iQ=>?_,_,by rw [D5]; rw [hl]; exact XG,by rw [N3]; exact h2,fun x hx=>?_⟩
 ·obtain ⟨m,g1,g2⟩:=By r hr iQ
  exact ⟨m,by rw [A6 (fun h=>iQ h.symm)]; exact g1,g2⟩
 ·by_cases e:x=c+t
  ·subst e
   exact ⟨_,by rw [D5]; rw [h2]; exact hx,by rw [C0,C0]; exact hr⟩
  ·obtain ⟨z,g1,g2⟩:=h3 x hx
   refine ⟨z,by rw [A6 (fun h=>e h.symm)]; exact g1,?_⟩
   by_cases e2:c≤x∧x < c+t
   ·rw [M0 e2,M0 e2] at g2
    rw [C0,C0]; exact g2
   ·rw [K0 e2,K0 e2] at g2
    rw [B0,B0]; exact g2
theorem Mr (hM:M < pw 60) (hR:Okb n w A M) (h:Bar n w A A' col k c sn) (hw:w≤900) (hn:n≤900) (hc:c < w) (kH:k≤a) (wG:a < n) (kx:Rk A' col k a c≠0) (pI:∀ s,s≤k→det s (Pm_ A' col)≠0)
  {F:List (List Fb)} (hF:Tf F n w (fun r j=>if r < k then Rk A' col r r j else Rk (sw A' k a) col k r j) (DT A' col k)) {pv:LI} (Wz:pv=(List.range k).map (fun s=>(col s:Int))) {ds es:Bool} {dl el:LI} (hd:Bg ((if a=k then sn else -sn)*det k (Pm_ A' col)) ds dl) (he:Bg 1 es el):
  Ret (m_im pv (c:Int) es el (w:Int) F ds dl) (fun o=>∃ F' pv' ds' dl' es' el',o=.inl (F',ds',dl',es',el',pv',((c+1:Nat):Int))∧EJ n w A (c+1) F' pv' ds' dl' es' el'):=by
 obtain ⟨NJ,SJ,SA,kB⟩:=h.pivot hc kH wG kx
 have ED:pv.length=k:=by rw [Wz,Sa,Q6]
 have px:k < n:=A0
 have By:=La h
 have NH:=Pq By px wG
 have hlt:∀ s,s < k→col s < w:=fun s hs=>by have:=h.lt s hs; have:=h.cw; omega
 have fI:∀ s,s < k+1→setC col k c s < w:=fun s hs=>by have:=NJ.lt s hs; have:=NJ.cw; omega
 have bR:∀ i j,i < n→j < w→Bd M (Rk (sw A' k a) col k i j):=fun i j hi hj=>(hR _ _ _ _ _ NH h.kn hlt hi hj).1
 have bd:Bd M (det k (Pm_ A' col)):=(hR _ col k 0 c By h.kn hlt A0 hc).2
 have hk:∀ j,Rk (sw A' k a) col k k j=Rk A' col k a j:=fun j=>by rw [Y8 kH,M0 rfl]
 have AG:=h.d
 generalize hS:sw A' k a=S at*
 generalize hC:setC col k c=C at*
 generalize zL:(if a=k then sn else -sn)=sn' at*
 have gP:sn'=1∨sn'= -1:=NJ.sg.1
 let V1:Mx:=fun r j=>if r < k then Rk A' col r r j else Rk S col k r j
 let R':Mx:=Rk S C (k+1)
 have LJ:∀ r j,k≤r→V1 r j=Rk S col k r j:=fun r j hr=>K0 A0
 have hzero:∀ r j,k < r→r < n→j < c→Rk S col k r j=0:=by
  intro r j zN hr hj
  rw [← hS,Y8 kH,B0]
  split
  ·exact h.zero k j (H2 k) px hj
  ·exact h.zero r j A0 hr hj
 unfold m_im
 have RI:(pv.length:Int)=(k:Int):=by rw [ED]
 obtain ⟨lk,g1,g2⟩:=hF.2 k px
 obtain ⟨z,g3,g4⟩:=g2.2 c hc
 have gk:=X2 g1 (i:=(k:Int)) rfl
 have gc:=X2 g3 (i:=(c:Int)) rfl
 rw [RI,gk,obs,gc,obs,J0]
 have TN:DT A' col k k=det k (Pm_ A' col):=K0 (Hl k)
 have g4:Fq z (Rk A' col k a c) (det k (Pm_ A' col)):=by
  have h1:V1 k c=Rk A' col k a c:=by rw [LJ k c (H2 k),hk]
  have h2:Fq z (V1 k c) (DT A' col k k):=g4
  rw [h1,TN] at h2; exact h2
 have b0:Bk 60 (det k (Pm_ A' col)):=Bk.of bd hM
 have b1:Bk 60 (Rk A' col k a c):=Bk.of (by rw [← hk]; exact bR k c px hc) hM
 have lz:=g4.len AG b1 b0
 obtain ⟨nn,dd,f1,f2,f3⟩:=g4
 have bs:Bk 60 (sn'*det k (Pm_ A' col)):=by
  rcases gP with e | e
  ·rw [e,M4]; exact b0
  ·rw [e]; exact ⟨by have:=b0.2; omega,by have:=b0.1; omega⟩
 have ld:=bs.len hd
 have le':=he.lenB (M:=1) (m:=1) ⟨A0,A0⟩ (by decide)
 refine (P7 (s:=ds) (t:=z.1) hd.1 f1.1.1 A0 A0).mono fun r1 h1=>?_
 rw [hd.sv,f1.1.sv] at h1
 have bz1:=O6 (s:=z.1) f1.1.1 lz.1
 have bz2:=O6 (s:=z.2.2.1) f1.2.1 lz.2
 rw [f1.1.sv] at bz1
 rw [f1.2.sv] at bz2
 have l1:=(bs.mul bz1).len h1
 rw [obs,gc,obs]
 refine Zw (P7 (s:=es) (t:=z.2.2.1) he.1 f1.2.1 A0 A0) fun r2 h2=>?_
 rw [he.sv,f1.2.sv,M4] at h2
 have l2:=bz2.len h2
 have lK:=f2.1
 refine Zw (Yg (s:=r1.1) (t:=r2.1) h1.1 h2.1 h1.sv h2.sv A0 A0 A0 h2) fun q hq=>?_
 have qP:nrm (sn'*det k (Pm_ A' col)*nn) dd=(sn'*Rk A' col k a c,1):=SB A0 (Og _) (by
  unfold Vq at f3
  have e:sn'*det k (Pm_ A' col)*nn=sn'*(nn*det k (Pm_ A' col)):=by grind
  rw [e,f3]; grind)
 rw [qP] at hq
 obtain ⟨EH,bI⟩:=hq
 simp only at EH bI
 rw [J0]
 have UN:det (k+1) (Pm_ S C)≠0:=NJ.d
 refine (Q0 (Post:=fun G:List (List Fb)=>Tf G n w (fun r j=>if k < r then R' r j else V1 r j) (fun r=>if k < r then det (k+1) (Pm_ S C) else DT A' col k r)) (n - (k+1)) (fun t (s:List (List Fb)×Int)=>s.2=((k+1+t:Nat):Int)∧k+1+t≤n∧Tf s.1 n w (fun r j=>if k < r∧r < k+1+t then R' r j else V1 r j) (fun r=>if k < r∧r < k+1+t then det (k+1) (Pm_ S C) else DT A' col k r)) ⟨Xw,A0,hF.congr (fun r j _ _=>(K0 (show ¬ (k < r∧r < k+1+0) by omega)).symm) fun r _=>(K0 (show ¬ (k < r∧r < k+1+0) by omega)).symm⟩ ?_ A0).mono ?_
 ·rintro t ⟨G,_⟩ ht ⟨rfl,nI,hI⟩
  simp only at hI
  unfold m_il
  simp only
  rw [hI.1,O0]
  refine ⟨fun TI=>?_,fun tx=>⟨_,rfl,hI.congr (fun r j hr _=>?_) fun r hr=>?_⟩⟩
  ·have XG:k+1+t < n:=A0
   obtain ⟨li,e1,e2⟩:=hI.2 (k+1+t) XG
   have RS:DT A' col k (k+1+t)=det k (Pm_ A' col):=K0 A0
   have e2:Lf li w (V1 (k+1+t)) (det k (Pm_ A' col)):=e2.congr (fun x _=>K0 (show ¬ (k < k+1+t∧k+1+t < k+1+t) by omega)) ((K0 (show ¬ (k < k+1+t∧k+1+t < k+1+t) by omega)).trans RS)
   obtain ⟨f,e3,e4⟩:=e2.2 c hc
   rw [X2 e1 rfl,obs,X2 e3 rfl,obs,J0]
   have SP:Mid n w k c (k+1+t) c (fun r j=>if k < r∧r < k+1+t then R' r j else V1 r j) V1 R' (fun r=>if k < r∧r < k+1+t then det (k+1) (Pm_ S C) else DT A' col k r) (det (k+1) (Pm_ S C)) (det k (Pm_ A' col)) G:=by
    refine ⟨hI.1,fun r hr _=>hI.2 r hr,li,e1,e2.1,fun x hx=>?_⟩
    obtain ⟨y,y1,y2⟩:=e2.2 x hx
    refine ⟨y,y1,?_⟩
    rw [K0 (show ¬ (c≤x∧x < c) by omega),K0 (show ¬ (c≤x∧x < c) by omega)]
    exact y2
   refine (iA (V:=fun r j=>if k < r∧r < k+1+t then R' r j else V1 r j) (V1:=V1) (R':=R') hM ED XG A0 hc A0 A0 AG UN (fun r j hr zN hj=>by rw [LJ r j zN]; exact bR r j hr hj) bd (fun j=>K0 (show ¬ (k < k∧k < k+1+t) by omega)) ((K0 (show ¬ (k < k∧k < k+1+t) by omega)).trans TN) (by rw [LJ k c (H2 k),hk,SJ]) (fun x=>?_) e4 SP).mono fun G' MS=>?_
   ·rw [LJ _ _ (show k≤k+1+t by omega),LJ _ _ (show k≤k+1+t by omega),LJ k c (H2 k),LJ k x (H2 k),hk,hk,P2 (Rk S col k (k+1+t) x)]
    exact kB (k+1+t) x A0
   ·obtain ⟨m1,m2,l',m3,m4,m5⟩:=MS
    refine ⟨_,rfl,A0,by show wa .i64 ((k+1+t:Nat):Int) 1=_; rw [U0 A0 A0]; rfl,A0,m1,fun r hr=>?_⟩
    by_cases e:r=k+1+t
    ·subst e
     refine ⟨l',m3,m4,fun x hx=>?_⟩
     obtain ⟨y,y1,y2⟩:=m5 x hx
     refine ⟨y,y1,?_⟩
     have fin:Fq y (R' (k+1+t) x) (det (k+1) (Pm_ S C))→Fq y ((fun r j=>if k < r∧r < k+1+(t+1) then R' r j else V1 r j) (k+1+t) x) ((fun r=>if k < r∧r < k+1+(t+1) then det (k+1) (Pm_ S C) else DT A' col k r) (k+1+t)):=fun h=>by
      have i1:k < k+1+t∧k+1+t < k+1+(t+1):=A0
      show Fq y (if k < k+1+t∧k+1+t < k+1+(t+1) then R' (k+1+t) x else V1 (k+1+t) x) (if k < k+1+t∧k+1+t < k+1+(t+1) then det (k+1) (Pm_ S C) else DT A' col k (k+1+t))
      rw [M0 i1,M0 i1]; exact h
     refine fin ?_
     by_cases ZP:c≤x
     ·rw [M0 ⟨ZP,hx⟩,M0 ⟨ZP,hx⟩] at y2; exact y2
     ·rw [B0,B0,LJ _ _ (show k≤k+1+t by omega),hzero _ _ A0 XG A0] at y2
      have:R' (k+1+t) x=0:=NJ.zero (k+1+t) x A0 XG A0
      rw [this]
      exact y2.zero AG
    ·obtain ⟨l2,n1,n2⟩:=m2 r hr e
     have hi:(k < r∧r < k+1+t)↔(k < r∧r < k+1+(t+1)):=A0
     exact ⟨l2,n1,n2.congr (fun x _=>Ug hi) (Ug hi)⟩
  ·exact Ug (show (k < r∧r < k+1+t)↔k < r by omega)
  ·exact Ug (show (k < r∧r < k+1+t)↔k < r by omega)
 ·intro G hG
  rw [J0,D2]
  refine ⟨by rw [ED]; simp only [I2,Y2]; omega,?_⟩
  unfold m_ij
  have oI:wa .i64 (c:Int) 1=((c+1:Nat):Int):=by rw [U0 A0 A0]; rfl
  rw [oI]
  have DQ:∀ r j,r < k→Rk S C r r j=Rk A' col r r j:=fun r j hr=>tl (fun s hs=>by rw [← hC,ja A0]) (fun t j ht=>by rw [← hS]; unfold sw; rw [B0,B0]) (fun j=>by rw [← hS]; unfold sw; rw [B0,B0])
  have yS:∀ j,Rk S C k k j=Rk S col k k j:=fun j=>by rw [← hC]; exact gv
  have NQ:∀ r,r≤k→det r (Pm_ S C)=det r (Pm_ A' col):=fun r hr=>w5 fun i j hi hj=>by
   unfold Pm_
   rw [← hC,ja A0,← hS]
   unfold sw; rw [B0,B0]
  refine ⟨_,rfl,_,_,_,_,_,_,rfl,S,C,k+1,sn',NJ,hG.congr (fun r j hr _=>?_) (fun r hr=>?_),?_,?_,bI,fun s hs=>?_⟩
  ·unfold VT
   by_cases e:k < r
   ·rw [M0 e,B0]
   ·rw [K0 e,C0]
    by_cases e2:r < k
    ·show (if r < k then Rk A' col r r j else Rk S col k r j)=_
     rw [M0 e2,DQ r j e2]
    ·obtain rfl:r=k:=A0
     rw [LJ r j (H2 r),yS]
  ·unfold DT
   by_cases e:k < r
   ·rw [M0 e,B0]
   ·rw [K0 e,M0 (show r < k+1 by omega),NQ r A0]
    by_cases e2:r < k
    ·rw [M0 e2]
    ·rw [K0 e2]
     obtain rfl:r=k:=A0
     rfl
  ·rw [Wz,Fc,Gh]
   congr 1
   ·refine Lv fun s hs=>?_
    rw [← hC,ja (Z6.1 hs)]
   ·show [(c:Int)]=[((C k:Nat):Int)]
    rw [← hC,ib]
  ·rw [SJ]; exact EH
  ·by_cases e:s=k+1
   ·subst e; exact UN
   ·rw [NQ s A0]; exact pI s A0
theorem vu (hM:M < pw 60) (hR:Okb n w A M) (hw:w≤900) (hn:n≤900) {F:List (List Fb)} (hF:Tf F n w A (fun _=>1)):
  Ret (m_ip F (w:Int)) (fun r=>EJ n w A w r.1 r.2.1 r.2.2.1 r.2.2.2.1 r.2.2.2.2.1 r.2.2.2.2.2):=by
 unfold m_ip
 refine Zw (ra (n:=1) A0 A0) fun o1 cK=>?_
 refine Zw (ra (n:=1) A0 A0) fun o2 wN=>?_
 rw [J0]
 refine (Q0 (Post:=fun r:List (List Fb)×Bool×LI×Bool×LI×LI=>EJ n w A w r.1 r.2.2.2.2.2 r.2.1 r.2.2.1 r.2.2.2.1 r.2.2.2.2.1) w (fun c (s:List (List Fb)×Bool×LI×Bool×LI×LI×Int)=>s.2.2.2.2.2.2=(c:Int)∧c≤w∧EJ n w A c s.1 s.2.2.2.2.2.1 s.2.1 s.2.2.1 s.2.2.2.1 s.2.2.2.2.1) ⟨rfl,A0,A,id,0,1,Bar.start,hF.congr (fun r j _ _=>by unfold VT; rw [B0,ev]) (fun r _=>by unfold DT; rw [B0]; rfl),rfl,cK.cast (show (1:Int)=1*det 0 (Pm_ A id) from rfl),wN,fun s hs=>by
  obtain rfl:s=0:=A0
  show (1:Int)≠0; omega⟩ ?_ A0).mono fun r hr=>⟨_,rfl,hr⟩
 rintro c ⟨F,ds,dl,es,el,pv,_⟩ hc ⟨rfl,eS,A',col,k,sn,hB,hT,Wz,hd,he,pI⟩
 simp only at hT Wz hd he
 unfold m_io
 simp only
 rw [O0]
 refine ⟨fun hlt=>?_,fun tx=>⟨_,rfl,by have e:c=w:=A0; subst e; exact ⟨A',col,k,sn,hB,hT,Wz,hd,he,pI⟩⟩⟩
 have aA:c < w:=A0
 have ED:pv.length=k:=by rw [Wz,Sa,Q6]
 have px:=hB.kn
 have By:=La hB
 have fI:∀ s,s < k→col s < w:=fun s hs=>by have:=hB.lt s hs; have:=hB.cw; omega
 have wL:wa .i64 (c:Int) 1=((c+1:Nat):Int):=by rw [U0 A0 A0]; rfl
 have kL:∀ r j,k≤r→VT A' col k r j=Rk A' col k r j:=fun r j hr=>K0 A0
 have aJ:∀ r,k≤r→DT A' col k r=det k (Pm_ A' col):=fun r hr=>K0 A0
 refine Zw (Q0 (Post:=fun o:Int=>∃ i:Nat,o=(i:Int)∧k≤i∧i≤n∧(∀ j,k≤j→j < i→Rk A' col k j c=0)∧(i < n→Rk A' col k i c≠0)) (n - k) (fun t (s:Int)=>s=((k+t:Nat):Int)∧k+t≤n∧∀ j,k≤j→j < k+t→Rk A' col k j c=0) ⟨by rw [ED]; rfl,A0,fun j h1 h2=>absurd h2 A0⟩ ?_ A0) ?_
 ·rintro t _ ht ⟨rfl,nI,hz⟩
  unfold m_in
  rw [hT.1]
  by_cases Px:k+t < n
  ·obtain ⟨row,h1,h2⟩:=hT.2 (k+t) Px
   obtain ⟨x,h3,h4⟩:=h2.2 c aA
   rw [kL _ _ A0,aJ _ A0] at h4
   have bx:=hR _ _ _ _ _ By px fI Px aA
   have lx:=h4.len hB.d (Bk.of bx.1 hM) (Bk.of bx.2 hM)
   obtain ⟨nn,dd,f1,f2,f3,f4⟩:=h4.num hB.d
   rw [C0,X2 h1 rfl,obs,X2 h3 rfl,obs]
   unfold m_hx
   rw [bc f1.1 A0,obs,obs,obs,O0]
   refine ⟨fun h0=>⟨_,rfl,A0,by rw [U0 A0 A0]; rfl,A0,fun j HH QH=>?_⟩,fun h0=>⟨_,rfl,k+t,rfl,A0,A0,hz,fun _ h=>?_⟩⟩
   ·by_cases e:j=k+t
    ·subst e
     refine f4.1 ?_
     have h0:(if nn < 0 then (-1:Int) else if 0 < nn then 1 else 0)=0:=by simpa using h0
     revert h0; split
     ·omega
     ·split
      ·omega
      ·intro _; omega
    ·exact hz j HH A0
   ·have:nn=0:=f4.2 h
    subst this
    simp at h0
  ·rw [B0,obs,K0 H0]
   exact ⟨_,rfl,k+t,rfl,A0,A0,hz,fun h=>absurd h Px⟩
 ·rintro _ ⟨i,rfl,WG,XG,hz,kx⟩
  rw [hT.1,O0]
  refine ⟨fun h0=>?_,fun h0=>?_⟩
  ·have:i=n:=A0
   subst this
   unfold m_ij
   rw [wL]
   exact ⟨_,rfl,aA,rfl,A0,A',col,k,sn,hB.none aA fun j h1 h2=>hz j h1 h2,hT,Wz,hd,he,pI⟩
  ·have MH:i < n:=A0
   rw [ED,O0]
   have fin:∀ {m:Option _},Ret m (fun o=>∃ F' pv' ds' dl' es' el',o=.inl (F',ds',dl',es',el',pv',((c+1:Nat):Int))∧EJ n w A (c+1) F' pv' ds' dl' es' el')→Ret m (VQ (fun s:List (List Fb)×Bool×LI×Bool×LI×LI×Int=>c < w∧s.2.2.2.2.2.2=((c+1:Nat):Int)∧c+1≤w∧EJ n w A (c+1) s.1 s.2.2.2.2.2.1 s.2.1 s.2.2.1 s.2.2.2.1 s.2.2.2.2.1) (fun r:List (List Fb)×Bool×LI×Bool×LI×LI=>EJ n w A w r.1 r.2.2.2.2.2 r.2.1 r.2.2.1 r.2.2.2.1 r.2.2.2.2.1)):=fun h=>h.mono fun o ho=>by
    obtain ⟨F',pv',ds',dl',es',el',rfl,hE⟩:=ho
    exact ⟨aA,rfl,A0,hE⟩
   refine ⟨fun Pz=>?_,fun Pz=>?_⟩
   ·obtain rfl:i=k:=A0
    refine fin (Mr (a:=i) hM hR hB hw hn aA (H2 i) MH (kx MH) pI (hT.congr (fun r j hr _=>?_) fun _ _=>rfl) Wz (by rw [M0 rfl]; exact hd) he)
    unfold VT
    by_cases e:r < i
    ·rw [M0 e,M0 e]
    ·rw [K0 e,K0 e,Y8 (H2 _)]
     by_cases e2:r=i
     ·subst e2; rw [M0 rfl]
     ·rw [K0 e2,K0 e2]
   ·have RJ:k < n:=A0
    obtain ⟨la,h1,h2⟩:=hT.2 i MH
    obtain ⟨lk,h3,h4⟩:=hT.2 k RJ
    rw [X2 h3 rfl,obs,X2 h1 rfl,obs,P4 (by rw [hT.1]; exact MH) rfl,obs,P4 (by rw [N3,hT.1]; exact RJ) rfl,obs,J0]
    have bd:=hR _ _ _ 0 c By px fI A0 aA
    have ld:dl.length≤60:=by
     have b0:Bk 60 (det k (Pm_ A' col)):=Bk.of bd.2 hM
     have:Bk 60 (sn*det k (Pm_ A' col)):=by
      rcases hB.sg.1 with e | e
      ·rw [e,M4]; exact b0
      ·rw [e]; exact ⟨by have:=b0.2; omega,by have:=b0.1; omega⟩
     exact this.len hd
    refine (Nj (s:=ds) hd.1 A0).mono fun r hr=>?_
    obtain ⟨hr,_⟩:=hr
    rw [hd.sv] at hr
    refine fin (Mr (a:=i) hM hR hB hw hn aA WG MH (kx MH) pI ?_ Wz (hr.cast ?_) he)
    ·refine ((hT.set MH h4).set RJ h2).congr (fun r j hr _=>?_) fun r hr=>?_
     ·by_cases e1:r=k
      ·subst e1
       rw [C2,K0 (Hl r),Y8 WG,M0 rfl,kL _ _ WG]
      ·rw [J2 e1]
       by_cases e2:r=i
       ·subst e2
        rw [C2,B0,Y8 WG,K0 e1,M0 rfl,kL _ _ (H2 k)]
       ·rw [J2 e2]
        unfold VT
        by_cases e3:r < k
        ·rw [M0 e3,M0 e3]
        ·rw [K0 e3,K0 e3,Y8 WG,K0 e1,K0 e2]
     ·by_cases e1:r=k
      ·subst e1; rw [M0 rfl,aJ _ WG,aJ _ (H2 r)]
      ·rw [K0 e1]
       by_cases e2:r=i
       ·subst e2; rw [M0 rfl,aJ _ (H2 k),aJ _ WG]
       ·rw [K0 e2]
    ·rw [B0]; grind
end
theorem Vg {α:Type} {l:List α} {k:Nat} (h:k < l.length):getI l (k:Int)=some l[k]:=X2 (B3 h) rfl
theorem mL {n:Nat} (h:n≤maxLen):n < 9223372036854775808:=by
 have e:maxLen=9223372036854775807:=by decide
 omega
theorem Yk {α:Type} {l:List α} {step:Int→Option (Int⊕(Unit⊕Unit))} {p:α→Bool} (hl:l.length < 9223372036854775808) (h1:∀ k (hk:k < l.length),step (k:Int)=some (if p l[k]=true then .inl (wa .i64 (k:Int) 1) else .inr (.inr ()))) (h2:step (l.length:Int)=some (.inr (.inl ()))):loop step 0=some (if l.all p=true then .inl () else .inr ()):=by
 refine Ret.eq ?_
 refine Q0 (Post:=fun o:Unit⊕Unit=>o=if l.all p=true then .inl () else .inr ()) l.length (fun k (i:Int)=>i=(k:Int)∧k≤l.length∧∀ j (hj:j < l.length),j < k→p l[j]=true) ⟨rfl,A0,fun j _ h=>A0⟩ ?_ hl
 rintro k _ hk ⟨rfl,Kx,hI⟩
 by_cases hlt:k < l.length
 ·rw [h1 k hlt]
  by_cases hp:p l[k]=true
  ·rw [M0 hp]
   refine ⟨_,rfl,hlt,by rw [U0 A0 A0]; rfl,A0,fun j hj FG=>?_⟩
   by_cases e:j=k
   ·subst e; exact hp
   ·exact hI j hj A0
  ·rw [K0 hp]
   refine ⟨_,rfl,?_⟩
   have:¬ l.all p=true:=fun h=>hp (w7.1 h _ (N5 hlt))
   show (Sum.inr ():Unit⊕Unit)=_
   rw [K0 this]
 ·have e:k=l.length:=A0
  subst e
  rw [h2]
  refine ⟨_,rfl,?_⟩
  have:l.all p=true:=w7.2 fun x hx=>by
   obtain ⟨j,hj,rfl⟩:=Xe hx
   exact hI j hj hj
  show (Sum.inl ():Unit⊕Unit)=_
  rw [M0 this]
theorem ZE {s:Bool} {l:LI} (hl:l.length≤1000):m_ke s l s l=some true:=by
 unfold m_ke
 rw [M0 H0,zC hl,obs,obs]
theorem Je {l:List Nb} (hl:l.length≤1000) (hz:∀ z,z∈l→z.2.length≤1000):m_kg l l=some true:=by
 unfold m_kg
 have h:=Yk (l:=l) (step:=m_kf l l) (p:=fun _=>true) A0 (fun k hk=>by
  have cR:=hz _ (N5 hk)
  unfold m_kf
  rw [C0,Vg hk,obs,obs,ZE cR,obs,M0 rfl,M0 rfl]) (by
  unfold m_kf
  rw [B0])
 rw [M0 rfl,h,obs,M0 H0]
theorem Aj {T:List (List Nb)} (hT:T.length≤1000) (hr:∀ l,l∈T→l.length≤1000∧∀ z,z∈l→z.2.length≤1000):m_ki T T=some true:=by
 unfold m_ki
 have h:=Yk (l:=T) (step:=m_kh T T) (p:=fun _=>true) A0 (fun k hk=>by
  have RG:=hr _ (N5 hk)
  unfold m_kh
  rw [C0,Vg hk,obs,obs,Je RG.1 RG.2,obs,M0 rfl,M0 rfl]) (by
  unfold m_kh
  rw [B0])
 rw [M0 rfl,h,obs,M0 H0]
theorem zG {l m:List Nb} {w:Nat} {f:Nat→Int} (h:Lg l w f) (h':Lg m w f) (hw:w≤1000) (hl:∀ z,z∈l→z.2.length≤1000):m_kg l m=some true:=by
 have e:l=m:=by
  refine Da fun k=>?_
  by_cases hk:k < w
  ·obtain ⟨z,h1,h2⟩:=h.2 k hk
   obtain ⟨y,h3,h4⟩:=h'.2 k hk
   obtain ⟨e1,e2⟩:=h2.uniq h4
   rw [h1,h3]
   exact C1 some (Prod.ext e1 e2)
  ·rw [K7 (by rw [h.1]; omega),K7 (by rw [h'.1]; omega)]
 subst e
 exact Je (by rw [h.1]; exact hw) hl
def cw (T:List (List Nb)):Nat:=match T with | []=>0 | l::_=>l.length
theorem sG {T:List (List Nb)} (hT:T.length≤1000000):m_d2 T (cw T:Int)=some (!(T.all (fun l=>decide (l.length=cw T)))):=by
 refine Ret.eq ?_
 unfold m_d2 m_d1
 rw [J0]
 refine Zw (Q0 (Post:=fun o:Unit⊕Int=>(T.all (fun l=>decide (l.length=cw T))=true∧o=.inl ())∨(T.all (fun l=>decide (l.length=cw T))=false∧∃ k:Nat,o=.inr (k:Int))) T.length (fun k (i:Int)=>i=(k:Int)∧k≤T.length∧∀ j (hj:j < T.length),j < k→T[j].length=cw T) ⟨rfl,A0,fun j _ h=>A0⟩ ?_ A0) ?_
 ·rintro k _ hk ⟨rfl,Kx,hI⟩
  unfold m_d0
  rw [O0]
  refine ⟨fun hlt=>?_,fun tx=>⟨_,rfl,.inl ⟨w7.2 fun x hx=>?_,rfl⟩⟩⟩
  ·have OG:k < T.length:=A0
   rw [Vg OG,obs]
   unfold m_dz
   rw [obs,O0]
   refine ⟨fun kx=>⟨_,rfl,.inr ⟨?_,k,rfl⟩⟩,fun he=>⟨_,rfl,OG,Xw,A0,fun j hj FG=>?_⟩⟩
   ·rw [Bool.eq_false_iff]
    intro h
    have:=w7.1 h _ (N5 OG)
    simp only [decide_eq_true_eq] at this
    rw [this] at kx
    simp at kx
   ·by_cases e:j=k
    ·subst e
     simp only [B7,decide_eq_false_iff_not,gw] at he
     omega
    ·exact hI j hj A0
  ·obtain ⟨j,hj,rfl⟩:=Xe hx
   exact decide_eq_true (hI j hj A0)
 ·rintro _ (⟨h,rfl⟩ | ⟨h,k,rfl⟩)
  ·exact ⟨_,rfl,_,rfl,by rw [h]; rfl⟩
  ·refine ⟨_,rfl,_,rfl,?_⟩
   rw [h]
   show decide ((0:Int)≤(k:Int))=true
   exact decide_eq_true A0
theorem Tr.bd {K n w:Nat} {T:List (List Nb)} {A:Mx} (h:Tr K T n w A):∀ i j,i < n→j < w→Bd (pw K) (A i j):=fun i j hi hj=>by
 obtain ⟨l,h1,h2⟩:=h.2 i hi
 obtain ⟨z,h3,h4⟩:=h2.2 j hj
 exact h4.bd
theorem Lr.bd {K w:Nat} {l:List Nb} {f:Nat→Int} (h:Lr K l w f):∀ j,j < w→Bd (pw K) (f j):=fun j hj=>by
 obtain ⟨z,h3,h4⟩:=h.2 j hj
 exact h4.bd
section
variable {n w K:Nat} {A:Mx} {T:List (List Nb)} {M:Int}
theorem og (hM:M < pw 60) (hR:Okb n w A M) (hT:Tr K T n w A) (hK:K≤400) (hn:n≤16) (hw:w≤16) (zF:0 < n∨w=0):∃ k:Nat,m_iq T=some (k:Int)∧∃ A' col sn,Bar n w A A' col k w sn:=by
 obtain ⟨F,OS,hF⟩:=Wt hT hK A0 A0
 obtain ⟨⟨F',pv,ds,dl,es,el⟩,h1,A',col,k,sn,hB,uJ,Wz,hd,he,pI⟩:=vu hM hR A0 A0 hF
 simp only at Wz
 have ED:pv.length=k:=by rw [Wz,Sa,Q6]
 refine ⟨k,?_,A',col,sn,hB⟩
 have EG:m_hw T=some (w:Int):=by
  rw [Jm hT.sh]
  split
  ·rename_i h0; have:w=0:=A0; rw [this]; rfl
  ·rfl
 unfold m_iq
 rw [OS,obs,EG,obs,h1,obs]
 simp only
 rw [ED]
end
end Km
namespace Dt
section
open Sx Go M Vc Lm Km
variable {n w K:Nat} {A:Mx} {T:List (List Nb)} {M:Int}
theorem Bar.uniqk {A' A'':Mx} {col Zx:Nat→Nat} {k k':Nat} {sn sn':Int} (h:Bar n w A A' col k w sn) (h':Bar n w A A'' Zx k' w sn'):k≤k':=by
 refine H1 fun hc=>?_
 obtain ⟨y,⟨j0,uI,jJ⟩,hy⟩:=wk k' k (fun i t=>Rk A'' Zx k' i (col t)) A0
 have hA:∀ r,r < n→sm k (fun t=>A r (col t)*y t)=0:=by
  refine h'.rows (P:=fun row=>sm k (fun t=>row (col t)*y t)=0) fun r hr=>?_
  have e:det k' (Pm_ A'' Zx)*sm k (fun t=>A'' r (col t)*y t)=0:=by
   rw [← H3]
   have e1:sm k (fun t=>det k' (Pm_ A'' Zx)*(A'' r (col t)*y t))=sm k (fun t=>sm k' fun s=>A'' r (Zx s)*(Rk A'' Zx k' s (col t)*y t)):=W0 fun t ht=>by
    have:=h'.span (j:=col t) hr (.inl (h.lt t ht))
    have e2:det k' (Pm_ A'' Zx)*(A'' r (col t)*y t)=(det k' (Pm_ A'' Zx)*A'' r (col t))*y t:=by grind
    rw [e2,this,← N7]
    exact W0 fun s _=>by grind
   rw [e1,E7]
   exact C5 fun s hs=>by rw [H3,hy s hs,Q3]
  rcases K4.1 e with h1 | h1
  ·exact absurd h1 h'.d
  ·exact h1
 obtain ⟨x,xi,hx,eO⟩:=h.perm
 have px:=h.kn
 refine jJ (gh h.d (w:=y) (fun r hr=>?_) j0 uI)
 rw [← hA (x r) (hx r A0).1]
 exact W0 fun t ht=>by unfold Pm_; rw [eO r _ A0]
end
end Dt
namespace Km
open Sx Go M Vc Lm Dt
section
variable {n w K:Nat} {A:Mx} {T:List (List Nb)} {M:Int}
theorem Lr.set {l:List Nb} {f:Nat→Int} (h:Lr K l w f) {c:Nat} (hc:c < w) {z:Nb} {v:Int} (hz:Rw K v z):Lr K (l.set c z) w (fun j=>if j=c then v else f j):=by
 refine ⟨by rw [N3]; exact h.1,fun j hj=>?_⟩
 by_cases e:j=c
 ·subst e
  exact ⟨z,by rw [D5]; rw [h.1]; exact hc,by show Rw K (if j=j then v else f j) z; rw [M0 rfl]; exact hz⟩
 ·obtain ⟨y,h1,h2⟩:=h.2 j hj
  exact ⟨y,by rw [A6 (fun h=>e h.symm)]; exact h1,by show Rw K (if j=c then v else f j) y; rw [K0 e]; exact h2⟩
theorem Tr.snoc {k:Nat} (h:Tr K T k w A) {l:List Nb} (hl:Lr K l w (A k)):Tr K (T++[l]) (k+1) w A:=by
 refine ⟨by rw [Q1,h.1]; rfl,fun c hc=>?_⟩
 by_cases e:c < k
 ·obtain ⟨y,h1,h2⟩:=h.2 c e
  exact ⟨y,by rw [Q5 (by rw [h.1]; exact e)]; exact h1,h2⟩
 ·obtain rfl:c=k:=A0
  exact ⟨l,by rw [X5 (by rw [h.1]; omega),h.1,E6]; rfl,hl⟩
theorem Lr.snoc {l:List Nb} {k:Nat} {f:Nat→Int} (h:Lr K l k f) {z:Nb} (hz:Rw K (f k) z):Lr K (l++[z]) (k+1) f:=by
 refine ⟨by rw [Q1,h.1]; rfl,fun c hc=>?_⟩
 by_cases e:c < k
 ·obtain ⟨y,h1,h2⟩:=h.2 c e
  exact ⟨y,by rw [Q5 (by rw [h.1]; exact e)]; exact h1,h2⟩
 ·obtain rfl:c=k:=A0
  exact ⟨z,by rw [X5 (by rw [h.1]; omega),h.1,E6]; rfl,hz⟩
theorem QC {K:Nat} {v u s:Int} {y z q:Nb} (hK:K≤60) (hy:Rw K v y) (hz:Rw K u z) (hq:Bg s q.1 q.2) (hs:q.2.length≤500):Ret ((m_h1 y.1 y.2 z.1 z.2).bind fun r=>m_6 q.1 q.2 r.1 r.2) (fun r=>Bg (s+v*u) r.1 r.2):=by
 have l1:=hy.2.1
 have l2:=hz.2.1
 refine Zw (P7 (s:=y.1) (t:=z.1) hy.1 hz.1 A0 A0) fun r hr=>?_
 have b1:=O6 (s:=y.1) hy.1 l1
 have b2:=O6 (s:=z.1) hz.1 l2
 rw [hy.2.2,hz.2.2] at hr
 rw [hy.2.2] at b1
 rw [hz.2.2] at b2
 have lr:=(b1.mul b2).len hr
 refine (qh (s:=q.1) (t:=r.1) hq.1 hr.1 A0 A0).mono fun t ht=>?_
 rw [hq.sv,hr.sv] at ht
 exact ht
theorem Bz {k:Nat} {f g:Nat→Int} {zs:Bool} {zl:LI} (hk:k≤1000) (hf:∀ x,x < k→Bd (pw K) (f x)) (hg:∀ x,x < k→Bd (pw K) (g x)) (hI:Bg (sm k fun x=>f x*g x) zs zl):zl.length≤2*K+2:=by
 have hp:=M1 K
 have SG:=Wc (n:=k) (M:=pw K*pw K) (O3 A0 A0) fun x hx=>(hf x hx).mul (hg x hx)
 refine hI.lenB SG ?_
 have e1:pw (K+K)=pw K*pw K:=W6 K K
 have e2:pw (K+K+1)=B*pw (K+K):=rfl
 have e3:pw (K+K+2)=B*pw (K+K+1):=rfl
 have e4:B=4294967296:=rfl
 have h3:=M1 (K+K)
 have e5:(k:Int)*(pw K*pw K)≤1000*(pw K*pw K):=D3 A0 A0
 have:2*K+2=K+K+2:=A0
 rw [this,e3,e2,e4]
 omega
theorem Ox {a b:List Nb} {f g:Nat→Int} (ha:Lr K a w f) (hb:Lr K b w g) (hK:K≤60) (hw:w≤900):Ret (m_k0 a b) (fun r=>Bg (sm w fun j=>f j*g j) r.1 r.2):=by
 unfold m_k0
 refine Zw (Q0 (Post:=fun r:Bool×LI=>Bg (sm w fun j=>f j*g j) r.1 r.2) w (fun k (s:Bool×LI×Int)=>s.2.2=(k:Int)∧Bg (sm k fun j=>f j*g j) s.1 s.2.1) ⟨rfl,Ac.cast (show (0:Int)=sm 0 (fun j=>f j*g j) from rfl)⟩ ?_ A0) fun r hr=>⟨_,rfl,hr⟩
 rintro k ⟨zs,zl,_⟩ hk ⟨rfl,hI⟩
 simp only at hI
 unfold m_kz
 simp only
 rw [ha.1,O0]
 refine ⟨fun hlt=>?_,fun tx=>⟨_,rfl,by have e:k=w:=A0; subst e; exact hI⟩⟩
 have Jx:k < w:=A0
 obtain ⟨x,hx,Nx⟩:=ha.at Jx (i:=(k:Int)) rfl
 obtain ⟨y,hy,Zz⟩:=hb.at Jx (i:=(k:Int)) rfl
 have ls:=Bz (K:=K) (show k≤1000 by omega) (fun x hx=>by
  obtain ⟨z,_,h⟩:=ha.2 x A0; exact h.bd) (fun x hx=>by
  obtain ⟨z,_,h⟩:=hb.2 x A0; exact h.bd) hI
 rw [hx,obs,hy,obs]
 have:=QC (q:=(zs,zl)) hK Nx Zz hI (by simp only; omega)
 simp only at this
 rw [J0] at this
 rw [J0]
 refine this.mono fun r hr=>?_
 rw [J0]
 refine hr.mono fun t ht=>?_
 exact ⟨_,rfl,Jx,Xw,ht⟩
theorem Pw {x:List Nb} {f:Nat→Int} (hT:Tr K T n w A) (hx:Lr K x w f) (hK:K≤60) (hn:n≤900) (hw:w≤900):Ret (m_k2 T x) (fun r=>Lg r n (fun i=>sm w fun j=>A i j*f j)):=by
 unfold m_k2
 refine Zw (Q0 (Post:=fun r:List Nb=>Lg r n (fun i=>sm w fun j=>A i j*f j)) n (fun k (s:List Nb×Int)=>s.2=(k:Int)∧Lg s.1 k (fun i=>sm w fun j=>A i j*f j)) ⟨rfl,rfl,fun c hc=>absurd hc A0⟩ ?_ A0) fun r hr=>⟨_,rfl,hr⟩
 rintro k ⟨o,_⟩ hk ⟨rfl,hI⟩
 simp only at hI
 unfold m_k1
 simp only
 rw [hT.1,O0]
 refine ⟨fun hlt=>?_,fun tx=>⟨_,rfl,by have e:k=n:=A0; subst e; exact hI⟩⟩
 have px:k < n:=A0
 obtain ⟨row,h1,h2⟩:=hT.at px (i:=(k:Int)) rfl
 rw [h1,obs]
 refine Zw (Ox h2 hx hK hw) fun r hr=>?_
 rw [J0,D2]
 exact ⟨by rw [hI.1]; simp only [I2,Y2]; omega,_,rfl,px,Xw,hI.snoc (z:=(r.1,r.2)) hr⟩
end
section
variable {n w:Nat} {A:Mx} {T:List (List Nb)} {M:Int}
def KU (n w:Nat) (A:Mx) (M:Int) (fr:Nat) (l:List Nb):Prop:=∃ u:Nat→Int,Lg l w u∧(∀ j,j < w→Bd M (u j))∧(∀ r,r < n→sm w (fun j=>A r j*u j)=0)∧(∀ d:Int,(∀ j,j < w→d ∣ u j)→d ∣ 1)∧0 < u fr∧∀ j,fr < j→j < w→u j=0
theorem Nm {K:Nat} (hM:M < pw 190) (hR:Okb n w A M) (hT:Tr K T n w A) (hK:K≤400) (hn:n≤16) (hw:w≤16) (zF:0 < n) (AJ:0 < w):
  ∃ l k A' col sn,m_fj T=some (l,0)∧Bar n w A A' col k w sn∧((l=[]∧k=w)∨(k < w∧∃ fr,KU n w A M fr l∧fr < w∧fr≤k∧(∀ s,s < fr→col s=s)∧(fr < k→col fr≠fr))):=by
 obtain ⟨T',ht,uJ⟩:=Cm hT hK A0 A0
 obtain ⟨⟨R,pv,zs,zl,sn⟩,qJ,A',col,k,hB,SK,Wz,hd⟩:=Fk (cw:=w) hM hR (H2 w) A0 A0 uJ
 simp only at hB SK Wz hd
 have ED:pv.length=k:=by rw [Wz,Sa,Q6]
 have EG:m_dy T=some (w:Int):=by rw [di hT.sh,B0]
 have kI:=Sm hT.sh hn hw
 have IK:∀ s,s < k→getI pv (s:Int)=some (col s:Int):=fun s hs=>X2 (by rw [Wz,y9,Ta hs]; rfl) rfl
 have Xy:∀ s,s < k→col s < w:=fun s hs=>hB.lt s hs
 have tx:∀ d s,s+d < k→col s+d≤col (s+d):=by
  intro d s
  induction d with
  | zero=>intro _; exact H2 _
  | succ d ih=>intro hd; have:=hB.asc (s+d) (s+(d+1)) A0 A0; have:=ih A0; omega
 have Jx:k≤w:=by
  rcases Qa k with h | h
  ·omega
  ·have h1:=tx (k - 1) 0 A0
   have h2:=Xy (k - 1) A0
   rw [Q9] at h1
   omega
 have bD:=(hR A' col k 0 0 (La hB) hB.kn Xy zF AJ).2
 have bX:∀ i j,i < n→j < w→Bd M (Rk A' col k i j):=fun i j hi hj=>(hR A' col k i j (La hB) hB.kn Xy hi hj).1
 have MJ:=bD.nn
 have ld:=hd.lenB bD hM
 have IM:=hB.d
 have eJ:Ret (loop (m_fi (R,pv,zs,zl,sn)) 0) (fun o=>∃ fr:Nat,o=(fr:Int)∧fr≤k∧(∀ s,s < fr→col s=s)∧(fr < k→col fr≠fr)):=by
  refine Q0 (Post:=fun o=>∃ fr:Nat,o=(fr:Int)∧fr≤k∧(∀ s,s < fr→col s=s)∧(fr < k→col fr≠fr)) k (fun j (i:Int)=>i=(j:Int)∧j≤k∧∀ s,s < j→col s=s) ⟨rfl,A0,fun s hs=>absurd hs A0⟩ ?_ A0
  rintro j _ hj ⟨rfl,FG,hI⟩
  unfold m_fi
  simp only
  rw [ED]
  by_cases hlt:j < k
  ·rw [C0,IK j hlt,obs,obs,O0]
   refine ⟨fun he=>⟨_,rfl,hlt,by rw [U0 A0 A0]; rfl,hlt,fun s hs=>?_⟩,fun he=>⟨_,rfl,j,rfl,FG,hI,fun _ h=>he (by rw [h]; simp)⟩⟩
   have he:(col j:Int)=(j:Int):=by simpa using he
   by_cases e:s=j
   ·subst e; omega
   ·exact hI s A0
  ·rw [B0,obs,K0 H0]
   exact ⟨_,rfl,j,rfl,FG,hI,fun h=>absurd h hlt⟩
 obtain ⟨_,uM,fr,rfl,IJ,IH,JI⟩:=eJ
 have QI:∀ (f:Int→Option (List Nb×Int)),((loop (m_fi (R,pv,zs,zl,sn)) 0).bind f)=f (fr:Int):=fun f=>by rw [uM,obs]
 by_cases mH:fr=w
 ·refine ⟨[],k,A',col,sn,?_,hB,.inl ⟨rfl,A0⟩⟩
  unfold m_fj
  rw [kI,obs,M0 rfl,EG,obs,ht,obs,qJ,obs,QI,C0]
 ·have eA:∀ s,s < k→col s≠fr:=by
   intro s hs
   by_cases h1:s < fr
   ·rw [IH s h1]; omega
   ·have h2:fr < k:=A0
    have h3:=JI h2
    have h4:=tx (s - fr) fr A0
    rw [show fr+(s - fr)=s by omega] at h4
    have h5:fr≤col fr:=by
     rcases Qa fr with h | h
     ·omega
     ·have h6:=hB.asc (fr - 1) fr A0 h2
      rw [IH (fr - 1) A0] at h6
      omega
    omega
  have aL:k < w:=by
   refine H1 fun hc=>?_
   have hk:k=w:=A0
   have h2:fr < k:=A0
   have h4:=tx (k - 1 - fr) fr A0
   rw [show fr+(k - 1 - fr)=k - 1 by omega] at h4
   have h5:fr≤col fr:=by
    rcases Qa fr with h | h
    ·omega
    ·have h6:=hB.asc (fr - 1) fr A0 h2
     rw [IH (fr - 1) A0] at h6
     omega
   have h3:=JI h2
   have h7:=Xy (k - 1) A0
   omega
  have ay:fr < w:=A0
  generalize UO:det k (Pm_ A' col)=D at*
  let a:Int:=if D < 0 then -D else D
  let X:Nat→Int:=fun s=>if D < 0 then Rk A' col k s fr else - Rk A' col k s fr
  have KJ:0 < a:=by show 0 < (if D < 0 then -D else D); split<;>omega
  have ba:Bd M a:=by show Bd M (if D < 0 then -D else D); split; exact bD.neg; exact bD
  have px:=hB.kn
  have bXs:∀ s,s < k→Bd M (X s):=fun s hs=>by
   show Bd M (if D < 0 then Rk A' col k s fr else - Rk A' col k s fr)
   split
   ·exact bX s fr A0 ay
   ·exact (bX s fr A0 ay).neg
  have key:Ret (m_fj T) (fun r=>r.2=0∧KU n w A M fr r.1):=by
   unfold m_fj
   rw [kI,obs,M0 rfl,EG,obs,ht,obs,qJ,obs,QI,B0,J0,J5]
   refine ⟨A0,A0,?_⟩
   rw [Z0,J0]
   refine (Xu (s:=zs) hd.1 A0).mono fun z hz=>?_
   have hz:Bg a z.1 z.2:=by rw [hd.abs] at hz; exact hz
   have h0:Lg ((List.replicate w ((false,[]):Nb)).set fr (z.1,z.2)) w (vk fr a col X 0):=((Lg.zeros w).set ay (z:=(z.1,z.2)) hz).congr fun c _=>rfl
   rw [P4 (by rw [U4]; exact ay) rfl,obs]
   obtain ⟨y,EK,yJ⟩:=h0.at ay (i:=(fr:Int)) rfl
   have yJ:Bg a y.1 y.2:=yJ.cast (M0 rfl)
   rw [EK,obs]
   refine Zw (Q0 (Post:=fun o:List Nb×Bool×LI=>Lg o.1 w (vk fr a col X k)∧∃ G,Bg G o.2.1 o.2.2∧(0 < G∧G≤a)∧(G ∣ a∧∀ s,s < k→G ∣ X s)∧∀ d,d ∣ a→(∀ s,s < k→d ∣ X s)→d ∣ G) k (fun i (s:List Nb×Bool×LI×Int)=>s.2.2.2=(i:Int)∧Lg s.1 w (vk fr a col X i)∧∃ G,Bg G s.2.1 s.2.2.1∧(0 < G∧G≤a)∧(G ∣ a∧∀ s,s < i→G ∣ X s)∧∀ d,d ∣ a→(∀ s,s < i→d ∣ X s)→d ∣ G) ⟨rfl,h0,a,yJ,⟨KJ,ef a⟩,⟨Th a,fun s hs=>absurd hs A0⟩,fun d h _=>h⟩ ?_ A0) ?_
   ·rintro i ⟨o,gs,gl,_⟩ hi ⟨rfl,hI,G,hG,⟨g0,g1⟩,⟨g2,g3⟩,g4⟩
    simp only at hI hG
    unfold m_fh
    simp only
    rw [ED,O0]
    refine ⟨fun hlt=>?_,fun cL=>⟨_,rfl,by have e:i=k:=A0; subst e; exact ⟨hI,G,hG,⟨g0,g1⟩,⟨g2,g3⟩,g4⟩⟩⟩
    have Pz:i < k:=A0
    obtain ⟨row,h1,h2⟩:=SK.at (show i < n by omega) (i:=(i:Int)) rfl
    obtain ⟨x,h3,h4⟩:=h2.at ay (i:=(fr:Int)) rfl
    have lx:=h4.lenB (bX i fr A0 ay) hM
    rw [IK i Pz,obs,h1,obs,h3,obs]
    refine Zw (Iq hd h4 A0 A0) fun t DI=>?_
    have bt:Bd M (if D < 0 then - Rk A' col k i fr else Rk A' col k i fr):=by
     split
     ·exact (bX i fr A0 ay).neg
     ·exact bX i fr A0 ay
    have lt:=DI.lenB bt hM
    refine Zw (Oj (s:=t.1) DI.1 A0) fun q hq=>?_
    have hq:Bg (X i) q.1 q.2:=by
     rw [DI.sv] at hq
     refine hq.cast ?_
     show -(if D < 0 then - Rk A' col k i fr else Rk A' col k i fr)=if D < 0 then Rk A' col k i fr else - Rk A' col k i fr
     split<;>omega
    have PK:=Xy i Pz
    rw [P4 (by rw [hI.1]; exact PK) rfl,obs]
    have hS:Lg (o.set (col i) (q.1,q.2)) w (vk fr a col X (i+1)):=(hI.set PK (z:=(q.1,q.2)) hq).congr fun c _=>rfl
    obtain ⟨y2,bO,BI⟩:=hS.at PK (i:=(col i:Int)) rfl
    have BI:Bg (X i) y2.1 y2.2:=BI.cast (M0 rfl)
    have ly2:=BI.lenB (bXs i Pz) hM
    have lG:=hG.lenB (show Bd M G from ⟨A0,by have:=ba.2; omega⟩) hM
    rw [bO,obs]
    refine Zw (Tt (s:=gs) (t:=y2.1) hG.1 BI.1 A0 A0) fun g hg=>?_
    rw [hG.sv,BI.sv] at hg
    obtain ⟨e1,e2⟩:=Ak (x:=G) (y:=X i) g0
    have d1:((Int.gcd G (X i):Nat):Int) ∣ G:=Nc ..
    have d2:((Int.gcd G (X i):Nat):Int) ∣ X i:=Mc ..
    refine ⟨_,rfl,Pz,Xw,hS,_,hg,⟨e1,A0⟩,⟨Oc d1 g2,fun s hs=>?_⟩,fun d AM yM=>?_⟩
    ·by_cases e:s=i
     ·subst e; exact d2
     ·exact Oc d1 (g3 s A0)
    ·exact Int.dvd_coe_gcd (g4 d AM fun s hs=>yM s A0) (yM i A0)
   ·rintro ⟨o,gs,gl⟩ ⟨hO,G,hG,⟨g0,g1⟩,⟨g2,g3⟩,g4⟩
    simp only at hO hG ⊢
    have bv:∀ j,Bd M (vk fr a col X k j):=kj MJ ba k bXs
    have TO:∀ j,j < w→G ∣ vk fr a col X k j:=by
     intro j hj
     by_cases e:j=fr
     ·subst e; rw [db k eA]; exact g2
     ·by_cases hex:∃ s,s < k∧col s=j
      ·obtain ⟨s,hs,rfl⟩:=hex
       rw [eb k hB.asc s hs]; exact g3 s hs
      ·rw [Rc e k fun s hs h=>hex ⟨s,hs,h⟩]; exact jm _
    have lJ:∀ j,j < w→G*(vk fr a col X k j / G)=vk fr a col X k j:=fun j hj=>Wv (TO j hj)
    have lG:=hG.lenB (show Bd M G from ⟨A0,by have:=ba.2; omega⟩) hM
    have bu:∀ j,j < w→Bd M (vk fr a col X k j / G):=by
     intro j hj
     have h1:=lJ j hj
     have h2:=bv j
     generalize vk fr a col X k j / G=u at*
     rw [← h1] at h2
     rcases Int.le_total 0 u with h3 | h3
     ·have:1*u≤G*u:=D3 A0 h3
      exact ⟨A0,by have:=h2.2; omega⟩
     ·have:G*u≤1*u:=cm A0 h3
      exact ⟨by have:=h2.1; omega,A0⟩
    refine Zw (Q0 (Post:=fun r:List Nb=>Lg r w (fun j=>vk fr a col X k j / G)) w (fun i (s:List Nb×Int)=>s.2=(i:Int)∧Lg s.1 w (fun j=>if j < i then vk fr a col X k j / G else vk fr a col X k j)) ⟨rfl,hO.congr fun c _=>(B0).symm⟩ ?_ A0) ?_
    ·rintro i ⟨r,_⟩ hi ⟨rfl,hI⟩
     simp only at hI
     unfold m_fg
     simp only
     rw [hO.1,O0]
     refine ⟨fun hlt=>?_,fun cL=>⟨_,rfl,hI.congr fun c hc=>M0 A0⟩⟩
     have II:i < w:=A0
     obtain ⟨x,h1,h2⟩:=hI.at II (i:=(i:Int)) rfl
     have h2:Bg (vk fr a col X k i) x.1 x.2:=h2.cast (B0)
     have lx:=h2.lenB (bv i) hM
     rw [h1,obs]
     refine Zw (Gj (s:=x.1) (t:=gs) (h:=vk fr a col X k i / G) h2.1 hG.1 A0 A0 (by rw [hG.sv]; omega) (by rw [h2.sv,hG.sv,lJ i II])) ?_
     rintro ⟨t1,t2,t3⟩ ⟨aM,_⟩
     simp only at aM ⊢
     rw [P4 (by rw [hI.1]; exact II) rfl,obs]
     refine ⟨_,rfl,II,Xw,(hI.set II (z:=(t1,t2)) aM).congr fun c hc=>?_⟩
     by_cases e:c=i
     ·subst e; rw [M0 rfl,C0]
     ·rw [K0 e]
      by_cases nK:c < i
      ·rw [M0 nK,C0]
      ·rw [K0 nK,B0]
    ·intro r hr
     refine ⟨_,rfl,rfl,_,hr,bu,fun i hi=>?_,fun d wI=>?_,?_,fun j HH QH=>?_⟩
     ·
      have KH:=hB.kernel ay eA (v:=fun j=>if D < 0 then - vk fr a col X k j else vk fr a col X k j) (by
       show (if D < 0 then - vk fr a col X k fr else vk fr a col X k fr)=det k (Pm_ A' col)
       rw [db k eA,UO]
       show (if D < 0 then -(if D < 0 then -D else D) else (if D < 0 then -D else D))=D
       split<;>omega) (fun s hs=>by
       show (if D < 0 then - vk fr a col X k (col s) else vk fr a col X k (col s))=_
       rw [eb k hB.asc s hs]
       show (if D < 0 then -(if D < 0 then Rk A' col k s fr else - Rk A' col k s fr) else (if D < 0 then Rk A' col k s fr else - Rk A' col k s fr))=_
       split<;>omega) (fun j hj h1 h2=>by
       show (if D < 0 then - vk fr a col X k j else vk fr a col X k j)=0
       rw [Rc h1 k h2]; split<;>omega) i hi
      have e1:sm w (fun j=>A i j*vk fr a col X k j)=0:=by
       by_cases jB:D < 0
       ·have e2:sm w (fun j=>A i j*(if D < 0 then - vk fr a col X k j else vk fr a col X k j))= -1*sm w (fun j=>A i j*vk fr a col X k j):=by
         rw [← H3]; exact W0 fun j _=>by rw [M0 jB]; grind
        rw [e2] at KH; omega
       ·have e2:sm w (fun j=>A i j*(if D < 0 then - vk fr a col X k j else vk fr a col X k j))=sm w (fun j=>A i j*vk fr a col X k j):=W0 fun j _=>by rw [K0 jB]
        rw [e2] at KH; exact KH
      have e3:sm w (fun j=>A i j*vk fr a col X k j)=G*sm w (fun j=>A i j*(vk fr a col X k j / G)):=by
       rw [← H3]
       exact W0 fun j hj=>by
        have h9:=lJ j hj
        have h8:A i j*vk fr a col X k j=A i j*(G*(vk fr a col X k j / G)):=by rw [h9]
        rw [h8]; grind
      rw [e3] at e1
      rcases K4.1 e1 with h | h
      ·omega
      ·exact h
     ·
      have BM:∀ j,j < w→d*G ∣ vk fr a col X k j:=by
       intro j hj
       obtain ⟨c,hc⟩:=wI j hj
       refine ⟨c,?_⟩
       have h9:=lJ j hj
       have hc:vk fr a col X k j / G=d*c:=hc
       rw [← h9,hc]; grind
      have h1:d*G ∣ a:=by have:=BM fr ay; rwa [db k eA] at this
      have h2:∀ s,s < k→d*G ∣ X s:=fun s hs=>by have:=BM (col s) (Xy s hs); rwa [eb k hB.asc s hs] at this
      obtain ⟨c,hc⟩:=g4 _ h1 h2
      have h3:G*(d*c - 1)=0:=by
       have:d*G*c=G*(d*c):=by grind
       rw [A9]; omega
      rcases K4.1 h3 with h | h
      ·omega
      ·exact ⟨c,A0⟩
     ·have h9:=lJ fr ay
      rw [db k eA] at h9 ⊢
      refine H1 fun hc=>?_
      have:=cf (show 0≤G by omega) (show a / G≤0 by omega)
      omega
     ·have h0:vk fr a col X k j=0:=by
       by_cases hex:∃ s,s < k∧col s=j
       ·obtain ⟨s,hs,rfl⟩:=hex
        rw [eb k hB.asc s hs]
        have hl:Rk A' col k s fr=0:=hB.lead s fr hs HH
        show (if D < 0 then Rk A' col k s fr else - Rk A' col k s fr)=0
        rw [hl]; split<;>omega
       ·exact Rc A0 k fun s hs h=>hex ⟨s,hs,h⟩
      show vk fr a col X k j / G=0
      rw [h0,Xl]
  obtain ⟨⟨l,e⟩,EL,he,hu⟩:=key
  simp only at he hu
  subst he
  exact ⟨l,k,A',col,sn,EL,hB,.inr ⟨aL,fr,hu,ay,IJ,IH,JI⟩⟩
end
section
variable {n w:Nat} {A A':Mx} {col:Nat→Nat} {k fr:Nat} {sn M:Int} {u:Nat→Int}
end
end Km
namespace Dt
section
open Sx Go M Vc Lm Km
variable {n w:Nat} {A A':Mx} {col:Nat→Nat} {k fr:Nat} {sn M:Int} {u:Nat→Int}
theorem Bar.ge (h:Bar n w A A' col k w sn):∀ s,s < k→s≤col s:=by
 intro s
 induction s with
 | zero=>intro _; omega
 | succ s ih=>intro hs; have:=ih A0; have:=h.asc s (s+1) A0 hs; omega
end
end Dt
namespace Km
open Sx Go M Vc Lm Dt
section
variable {n w:Nat} {A A':Mx} {col:Nat→Nat} {k fr:Nat} {sn M:Int} {u:Nat→Int}
end
end Km
namespace Dt
section
open Sx Go M Vc Lm Km
variable {n w:Nat} {A A':Mx} {col:Nat→Nat} {k fr:Nat} {sn M:Int} {u:Nat→Int}
theorem Bar.indep (h:Bar n w A A' col k w sn) {f:Nat} (hf:f≤k) (hc:∀ s,s < f→col s=s) {v:Nat→Int} (hv:∀ r,r < n→sm w (fun j=>A r j*v j)=0) (h0:∀ j,f≤j→j < w→v j=0):∀ j,j < f→v j=0:=by
 obtain ⟨x,xi,hx,hA⟩:=h.perm
 have px:=h.kn
 have jI:∀ s t,s < k→t < k→col s=col t→s=t:=by
  intro s t hs ht e
  rcases Hb s t with h5 | h5 | h5
  ·have:=h.asc s t h5 ht; omega
  ·exact h5
  ·have:=h.asc t s h5 hs; omega
 have key:=gh h.d (w:=fun s=>v (col s)) fun r hr=>by
  rw [← hv (x r) (hx r A0).1]
  have e1:sm w (fun j=>A (x r) j*v j)=sm w (fun j=>sm k fun s=>if j=col s then Pm_ A' col r s*v (col s) else 0):=W0 fun j hj=>by
   by_cases hex:∃ s,s < k∧col s=j
   ·obtain ⟨s,hs,rfl⟩:=hex
    have e:sm k (fun t=>if col s=col t then Pm_ A' col r t*v (col t) else 0)=sm k (fun t=>if t=s then Pm_ A' col r t*v (col t) else 0):=W0 fun t ht=>by
     by_cases CG:t=s
     ·subst CG; rw [M0 rfl,M0 rfl]
     ·rw [K0 (fun e=>CG (jI t s ht hs e.symm)),K0 CG]
    rw [e,L4 (f:=fun t=>Pm_ A' col r t*v (col t)) hs]
    unfold Pm_
    rw [hA r _ A0]
   ·have XR:f≤j:=by
     refine H1 fun hn=>hex ⟨j,A0,hc j A0⟩
    rw [h0 j XR hj,Q3,C5 fun s hs=>K0 fun e=>hex ⟨s,hs,e.symm⟩]
  rw [e1,E7]
  exact W0 fun s hs=>(L4 (f:=fun _=>Pm_ A' col r s*v (col s)) (h.lt s hs)).symm
 intro j hj
 have:=key j A0
 simp only [hc j hj] at this
 exact this
end
end Dt
namespace Km
open Sx Go M Vc Lm Dt
section
variable {n w:Nat} {A A':Mx} {col:Nat→Nat} {k fr:Nat} {sn M:Int} {u:Nat→Int}
end
end Km
namespace Dt
section
open Sx Go M Vc Lm Km
variable {n w:Nat} {A A':Mx} {col:Nat→Nat} {k fr:Nat} {sn M:Int} {u:Nat→Int}
theorem Bar.tri (h:Bar n w A A' col k w sn) (hu:∀ r,r < n→sm w (fun j=>A r j*u j)=0) {s:Nat} (hs:s < k):sm w (fun j=>Rk A' col s s j*u j)=0:=by
 obtain ⟨x,xi,hx,hA⟩:=h.perm
 have px:=h.kn
 have hr:∀ r,r < n→sm w (fun j=>A' r j*u j)=0:=fun r ZJ=>by
  rw [← hu (x r) (hx r ZJ).1]
  exact W0 fun j _=>by rw [hA r j ZJ]
 have e1:sm w (fun j=>Rk A' col s s j*u j)=sm w (fun j=>det s (Pm_ A' col)*(A' s j*u j)+(-1)*sm s (fun t=>bt A' col s s t*(A' t j*u j))):=W0 fun j _=>by
  rw [Nd (Hl s),Int.sub_mul,← N7]
  have:sm s (fun t=>bt A' col s s t*A' t j*u j)=sm s (fun t=>bt A' col s s t*(A' t j*u j)):=W0 fun t _=>by rw [y7]
  rw [this]; grind
 rw [e1,G7,H3,H3,hr s A0,E7]
 have:sm s (fun t=>sm w fun j=>bt A' col s s t*(A' t j*u j))=0:=C5 fun t ht=>by rw [H3,hr t A0,Q3]
 rw [this]; simp
end
end Dt
namespace Km
open Sx Go M Vc Lm Dt
section
variable {n w:Nat} {A A':Mx} {col:Nat→Nat} {k fr:Nat} {sn M:Int} {u:Nat→Int}
theorem ar {f:Nat→Int} {a b:Nat} (h:a≤b):sm b f=sm a f+sm (b - a) fun t=>f (a+t):=by
 obtain ⟨d,rfl⟩:=AF h
 rw [show a+d - a=d by omega]
 induction d with
 | zero=>show sm a f=sm a f+0; omega
 | succ d ih=>
  show sm (a+d) f+f (a+d)=sm a f+(sm d (fun t=>f (a+t))+f (a+d))
  rw [ih A0]; omega
end
section
variable {n w:Nat} {A A':Mx} {col:Nat→Nat} {k fr:Nat} {sn M:Int} {u:Nat→Int}
def Vk (w fr:Nat) (u:Nat→Int) (s:Nat) (v:List Fb):Prop:=v.length=w∧∀ j,j < w→∃ z,v[j]?=some z∧(if j < s then Fq z 0 1 else Fq z (u j) (u fr))
theorem Zt:∀ {z:Fb},Fr z 1 1→Fq z 1 1:=fun h=>⟨1,1,h,Og 1,by unfold Vq; rfl⟩
theorem QA (hM:M < pw 60) (hB:Bar n w A A' col k w sn) (pI:∀ s,s≤k→det s (Pm_ A' col)≠0) (IJ:fr≤k) (mH:fr < w) (hw:w≤16) (IH:∀ s,s < fr→col s=s)
  (bR:∀ s j,s < fr→j < w→Bd M (Rk A' col s s j)∧Bd M (det s (Pm_ A' col))) (bu:∀ j,j < w→Bd M (u j)) (hu:∀ r,r < n→sm w (fun j=>A r j*u j)=0) (xL:0 < u fr) (WL:∀ j,fr < j→j < w→u j=0)
  {F:List (List Fb)} {pv:LI} {ds es:Bool} {dl el:LI} (hF:Tf F n w (VT A' col k) (DT A' col k)) {o1 o2:Bool×LI} (h1:Bg 1 o1.1 o1.2) (h2:Bg 1 o2.1 o2.2) {v:List Fb} (hv:Vk w fr u fr v):
  Ret (loop (m_iv (fr:Int) (F,pv,ds,dl,es,el) o1 o2) (v,(fr:Int) - 1)) (fun v=>Vk w fr u 0 v):=by
 have l1:=h1.lenB (M:=1) (m:=1) ⟨A0,A0⟩ (by decide)
 have l2:=h2.lenB (M:=1) (m:=1) ⟨A0,A0⟩ (by decide)
 have px:=hB.kn
 refine Q0 (Post:=fun v:List Fb=>Vk w fr u 0 v) fr (fun t (s:List Fb×Int)=>t≤fr∧s.2=(fr:Int) - 1 - (t:Int)∧Vk w fr u (fr - t) s.1) ⟨A0,by show (fr:Int) - 1=(fr:Int) - 1 - 0; omega,hv⟩ ?_ A0
 rintro t ⟨v,_⟩ ht ⟨tT,rfl,hI⟩
 simp only at hI
 unfold m_iv
 simp only
 rw [O0]
 refine ⟨fun tx=>?_,fun hlt=>⟨_,rfl,by
  have e:t=fr:=A0
  subst e; rw [E6] at hI; exact hI⟩⟩
 have cP:t < fr:=A0
 obtain ⟨s,hs⟩:∃ s,s=fr - 1 - t:=⟨_,rfl⟩
 have jO:(fr:Int) - 1 - (t:Int)=(s:Int):=A0
 have YJ:s < fr:=A0
 have cx:fr - t=s+1:=A0
 rw [cx] at hI
 rw [jO]
 obtain ⟨z0,g0,g1⟩:=hI.2 s A0
 rw [C0] at g1
 obtain ⟨row,r1,r2⟩:=hF.2 s A0
 have hV:∀ j,VT A' col k s j=Rk A' col s s j:=fun j=>M0 A0
 have hD:DT A' col k s=det s (Pm_ A' col):=M0 A0
 have rD:=pI s A0
 have ZL:u fr≠0:=A0
 generalize lK:det s (Pm_ A' col)=dd at*
 have ZI:dd*u fr≠0:=J8 rD ZL
 have bdd:Bd M dd:=by rw [← lK]; exact (bR s fr YJ mH).2
 have bD:Bk 120 (dd*u fr):=Bk.mul (K:=60) (L:=60) (Bk.of bdd hM) (Bk.of (bu fr mH) hM)
 let X:Nat→Int:=fun m=>-(sm m fun t=>Rk A' col s s (s+1+t)*u (s+1+t))
 have MJ:=bdd.nn
 have bX:∀ m,s+1+m≤w→Bk 121 (X m):=fun m hm=>by
  have b:=(Wc (n:=m) (M:=M*M) (O3 MJ MJ) fun t ht=>((bR s (s+1+t) YJ A0).1).mul (bu (s+1+t) A0)).neg
  refine Bk.of b ?_
  exact iz hM MJ A0
 rw [X2 g0 rfl,obs,J0]
 have hw1:wa .i64 (s:Int) 1=((s+1:Nat):Int):=by rw [U0 A0 A0]; rfl
 rw [hw1]
 refine (Q0 (Post:=fun q:Fb=>Fq q (X (fr - s)) (dd*u fr)) (fr - s) (fun m (q:Bool×LI×Bool×LI×Int)=>q.2.2.2.2=((s+1+m:Nat):Int)∧s+m≤fr∧Fq (q.1,q.2.1,q.2.2.1,q.2.2.2.1) (X m) (dd*u fr)) ⟨rfl,A0,by
  have e:X 0=0:=by show -(0:Int)=0; omega
  rw [e]; exact g1.zero A0⟩ ?_ A0).mono ?_
 ·rintro m ⟨a1,a2,a3,a4,_⟩ hm ⟨rfl,yT,hJ⟩
  simp only at hJ
  unfold m_iu
  simp only
  rw [O0]
  refine ⟨fun hle=>?_,fun NK=>⟨_,rfl,by have e:m=fr - s:=A0; subst e; exact hJ⟩⟩
  have Ay:s+1+m < w:=A0
  obtain ⟨y,y1,y2⟩:=r2.2 (s+1+m) Ay
  rw [hV,hD] at y2
  obtain ⟨z,z1,z2⟩:=hI.2 (s+1+m) Ay
  rw [B0] at z2
  rw [X2 r1 rfl,obs,X2 y1 rfl,obs,X2 z1 rfl,obs,J0]
  have b:=bR s (s+1+m) YJ Ay
  have ly:=y2.len rD (Bk.of b.1 hM) (Bk.of bdd hM)
  have lz:=z2.len ZL (Bk.of (bu _ Ay) hM) (Bk.of (bu fr mH) hM)
  have lx:=hJ.len ZI (bX m A0) (bD.mono A0)
  have f1:=y2.scale (u fr)
  have f2:=z2.scale dd
  have f3:=(Zt (z:=(o1.1,o1.2,o2.1,o2.2)) ⟨h1,h2⟩).scale (dd*u fr)
  rw [P2 (u fr) dd] at f1
  rw [J6] at f3
  refine (au (K:=60) (L:=121) (x:=(a1,a2,a3,a4)) (y:=y) (z:=z) (w:=(o1.1,o1.2,o2.1,o2.2)) ZI ZI hJ f1 f2 f3 lx ly lz ⟨by show o1.2.length≤60; omega,by show o2.2.length≤60; omega⟩ A0).mono fun q hq=>?_
  have e1:X m*(dd*u fr) - u fr*Rk A' col s s (s+1+m)*(dd*u (s+1+m))=(dd*u fr)*X (m+1):=by
   show X m*(dd*u fr) - u fr*Rk A' col s s (s+1+m)*(dd*u (s+1+m))=(dd*u fr)* -(sm m (fun t=>Rk A' col s s (s+1+t)*u (s+1+t))+Rk A' col s s (s+1+m)*u (s+1+m))
   show -(sm m fun t=>Rk A' col s s (s+1+t)*u (s+1+t))*(dd*u fr) - u fr*Rk A' col s s (s+1+m)*(dd*u (s+1+m))=_
   grind
  rw [e1] at hq
  exact ⟨_,rfl,A0,by show wa .i64 ((s+1+m:Nat):Int) 1=_; rw [U0 A0 A0]; rfl,A0,hq.cancel ZI⟩
 ·rintro ⟨a1,a2,a3,a4⟩ hq
  simp only at hq ⊢
  have PJ:det (s+1) (Pm_ A' col)=Rk A' col s s s:=by
   have:=det_next (A:=A') (col:=col) (k:=s) (by rw [lK]; exact rD)
   rw [IH s YJ] at this; exact this
  have vN:Rk A' col s s s≠0:=by rw [← PJ]; exact pI (s+1) A0
  have mS:X (fr - s)=Rk A' col s s s*u s:=by
   have ht:=hB.tri hu (show s < k by omega)
   rw [ar (show s+1≤w by omega)] at ht
   have e1:sm (s+1) (fun j=>Rk A' col s s j*u j)=Rk A' col s s s*u s:=by
    show sm s (fun j=>Rk A' col s s j*u j)+Rk A' col s s s*u s=_
    have:sm s (fun j=>Rk A' col s s j*u j)=0:=C5 fun j hj=>by
     have:=Od (A:=A') (col:=col) (k:=s) (i:=s) (s:=j) (Hl s) hj
     rw [IH j A0] at this
     rw [this,V3]
    rw [this]; omega
   rw [e1,ar (show fr - s≤w - (s+1) by omega)] at ht
   have e2:sm (w - (s+1) - (fr - s)) (fun t=>Rk A' col s s (s+1+(fr - s+t))*u (s+1+(fr - s+t)))=0:=C5 fun t ht=>by
    rw [WL _ A0 A0,Q3]
   rw [e2] at ht
   show -(sm (fr - s) fun t=>Rk A' col s s (s+1+t)*u (s+1+t))=_
   omega
  rw [mS] at hq
  have bq:Bk 121 (Rk A' col s s s*u s):=(Bk.mul (K:=60) (L:=60) (Bk.of (bR s s YJ A0).1 hM) (Bk.of (bu s A0) hM)).mono A0
  have lx:=hq.len ZI bq (bD.mono A0)
  obtain ⟨xn,xd,fx,ox,vx⟩:=hq
  obtain ⟨y,y1,y2⟩:=r2.2 s A0
  rw [hV,hD] at y2
  have ly:=y2.len rD (Bk.of (bR s s YJ A0).1 hM) (Bk.of bdd hM)
  obtain ⟨an,ad,fa,oa,va,KJ⟩:=y2.num rD
  have gr:=X2 r1 (i:=(s:Int)) rfl
  have gy:=X2 y1 (i:=(s:Int)) rfl
  rw [gr,obs,gy,obs]
  refine Zw (P7 (s:=a1) (t:=y.2.2.1) fx.1.1 fa.2.1 (by have:=lx.1; simp only at this; omega) A0) fun p1 uN=>?_
  have vL:sv a1 a2=xn:=fx.1.sv
  have kJ:sv a3 a4=xd:=fx.2.sv
  rw [vL,fa.2.sv] at uN
  have bx1:=O6 (s:=a1) fx.1.1 lx.1
  have bx2:=O6 (s:=a3) fx.2.1 lx.2
  have ba1:=O6 (s:=y.1) fa.1.1 ly.1
  have ba2:=O6 (s:=y.2.2.1) fa.2.1 ly.2
  rw [fa.1.sv] at ba1
  rw [fa.2.sv] at ba2
  have bx1:Bk 121 xn:=vL▸bx1
  have bx2:Bk 121 xd:=kJ▸bx2
  have lp1:=(bx1.mul ba2).len uN
  rw [obs,gy,obs]
  refine Zw (P7 (s:=a3) (t:=y.1) fx.2.1 fa.1.1 (by have:=lx.2; simp only at this; omega) A0) fun p2 CJ=>?_
  rw [kJ,fa.1.sv] at CJ
  have lp2:=(bx2.mul ba1).len CJ
  have uL:=ox.1
  have JT:=oa.1
  have wG:an≠0:=fun h=>vN (KJ.1 h)
  have wH:xd*an≠0:=J8 A0 wG
  refine Zw (Yg (s:=p1.1) (t:=p2.1) uN.1 CJ.1 uN.sv CJ.sv A0 A0 wH CJ) fun q hq=>?_
  obtain ⟨q1,q2⟩:=nb (a:=xn*ad) wH
  rw [P4 (by rw [hI.1]; omega) rfl,obs]
  have zJ:ws .i64 (s:Int) 1=(fr:Int) - 1 - ((t+1:Nat):Int):=by rw [C3 A0 A0]; omega
  refine ⟨_,rfl,cP,A0,zJ,by rw [N3]; exact hI.1,fun j hj=>?_⟩
  have eP:fr - (t+1)=s:=A0
  rw [eP]
  by_cases e:j=s
  ·subst e
   refine ⟨_,by rw [D5]; rw [hI.1]; exact hj,?_⟩
   rw [B0]
   refine ⟨_,_,hq,q1,?_⟩
   unfold Vq at vx va ⊢
   generalize (nrm (xn*ad) (xd*an)).1=N at*
   generalize (nrm (xn*ad) (xd*an)).2=E at*
   have h9:(xd*Rk A' col j j j*ad)*(N*u fr - u j*E)=0:=by
    have c1:N*(xd*an)*(dd*u fr)=xn*ad*E*(dd*u fr):=by rw [q2]
    have c2:N*(xd*an)*(dd*u fr)=N*xd*u fr*(an*dd):=by grind
    have c3:xn*ad*E*(dd*u fr)=ad*E*(xn*(dd*u fr)):=by grind
    rw [c2,c3,va,vx] at c1
    grind
   rcases K4.1 h9 with h | h
   ·exact absurd h (J8 (J8 A0 vN) A0)
   ·omega
  ·obtain ⟨z,z1,z2⟩:=hI.2 j hj
   refine ⟨z,by rw [A6 (fun h=>e h.symm)]; exact z1,?_⟩
   by_cases e2:j < s
   ·rw [C0] at z2; rw [M0 e2]; exact z2
   ·rw [B0] at z2; rw [K0 e2]; exact z2
theorem EC {S d:Int} (hS:0 < S) (hd:0 < d):0 < S*(d / Int.gcd S d)∧S ∣ S*(d / Int.gcd S d)∧d ∣ S*(d / Int.gcd S d)∧∀ m,S ∣ m→d ∣ m→S*(d / Int.gcd S d) ∣ m:=by
 obtain ⟨h1,h2⟩:=nb (a:=S) (b:=d) A0
 have hg:sgcd S d=(Int.gcd S d:Int):=by unfold sgcd; rw [B0]
 have wQ:(Int.gcd S d:Int) ∣ d:=Mc ..
 have sQ:(Int.gcd S d:Int) ∣ S:=Nc ..
 have h1:Lo (S / Int.gcd S d) (d / Int.gcd S d):=by
  have:=h1
  unfold nrm at this
  rw [hg] at this; exact this
 have h3:=h1.1
 refine ⟨Vd hS h3,⟨_,rfl⟩,?_,?_⟩
 ·obtain ⟨a,ha⟩:=sQ
  obtain ⟨b,hb⟩:=wQ
  have GG:(Int.gcd S d:Int)≠0:=by
   intro h; rw [h] at hb; omega
  have e1:d / Int.gcd S d=b:=by
   conv=>lhs; lhs; rw [hb]
   exact B9 _ GG
  rw [e1]
  exact ⟨a,by
   conv=>lhs; rw [ha]
   conv=>rhs; rw [hb]
   grind⟩
 ·rintro m ⟨x,rfl⟩ hm
  obtain ⟨a,ha⟩:=sQ
  obtain ⟨b,hb⟩:=wQ
  have GG:(Int.gcd S d:Int)≠0:=by
   intro h; rw [h] at hb; omega
  have e1:d / Int.gcd S d=b:=by
   conv=>lhs; lhs; rw [hb]
   exact B9 _ GG
  have e2:S / Int.gcd S d=a:=by
   conv=>lhs; lhs; rw [ha]
   exact B9 _ GG
  rw [e1,e2] at h1
  rw [e1]
  have h5:b ∣ a*x:=by
   obtain ⟨c,hc⟩:=hm
   refine ⟨c,?_⟩
   generalize (Int.gcd S d:Int)=g at*
   have:g*(a*x - b*c)=0:=by
    have h6:S*x=g*a*x:=by rw [← ha]
    have h7:d*c=g*b*c:=by rw [← hb]
    rw [h6,h7] at hc
    grind
   rcases K4.1 this with h | h
   ·exact absurd h GG
   ·omega
  obtain ⟨y,hy⟩:=Ja h1.2 h5
  exact ⟨y,by rw [hy]; grind⟩
end
theorem EB {a x:Int} (ha:0 < a) (h:0 < a*x):0 < x:=by
 refine H1 fun hc=>?_
 have:=cf (show 0≤a by omega) (show x≤0 by omega)
 omega
theorem Lg.eq' {l m:List Nb} {w:Nat} {f:Nat→Int} (h:Lg l w f) (h':Lg m w f):l=m:=by
 refine Da fun k=>?_
 by_cases hk:k < w
 ·obtain ⟨z,h1,h2⟩:=h.2 k hk
  obtain ⟨y,h3,h4⟩:=h'.2 k hk
  obtain ⟨e1,e2⟩:=h2.uniq h4
  rw [h1,h3]
  exact C1 some (Prod.ext e1 e2)
 ·rw [K7 (by rw [h.1]; omega),K7 (by rw [h'.1]; omega)]
section
variable {n w K:Nat} {A:Mx} {T:List (List Nb)} {M:Int}
theorem gA (hM:M < pw 60) {fr:Nat} (mH:fr < w) (hw:w≤16) {u:Nat→Int} (bu:∀ j,j < w→Bd M (u j)) (xL:0 < u fr) (hp:∀ d:Int,(∀ j,j < w→d ∣ u j)→d ∣ 1) {v:List Fb} (hv:Vk w fr u 0 v):
  Ret ((m_j 1).bind fun r340=>(loop (m_it (w:Int) v) (r340.1,r340.2,0)).bind fun (x413,x415)=>(loop (m_is (w:Int) v x413 x415) ([],0)).bind fun x487=>some x487) (fun r=>Lg r w u):=by
 have ZL:u fr≠0:=A0
 have hex:∀ j,∃ p:Int×Int,j < w→∃ z,v[j]?=some z∧Fr z p.1 p.2∧Lo p.1 p.2∧Vq p.1 p.2 (u j) (u fr):=fun j=>by
  by_cases hj:j < w
  ·obtain ⟨z,h1,h2⟩:=hv.2 j hj
   rw [B0] at h2
   obtain ⟨nn,dd,h3,h4,h5⟩:=h2
   exact ⟨(nn,dd),fun _=>⟨z,h1,h3,h4,h5⟩⟩
  ·exact ⟨(0,0),fun h=>absurd h hj⟩
 let N:Nat→Int:=fun j=>(Classical.choose (hex j)).1
 let E:Nat→Int:=fun j=>(Classical.choose (hex j)).2
 have OL:∀ j,j < w→∃ z,v[j]?=some z∧Fr z (N j) (E j)∧Lo (N j) (E j)∧Vq (N j) (E j) (u j) (u fr):=fun j hj=>Pb (hex j) hj
 have SN:∀ j,j < w→E j ∣ u fr:=fun j hj=>by
  obtain ⟨z,_,_,h2,h3⟩:=OL j hj
  unfold Vq at h3
  exact Ja h2.2 ⟨u j,by rw [h3,P2]⟩
 have hlen:∀ j,j < w→∀ z,v[j]?=some z→z.2.1.length≤60∧z.2.2.2.length≤60:=fun j hj z hz=>by
  obtain ⟨y,h1,h2⟩:=hv.2 j hj
  obtain rfl:=N2 (h1.symm.trans hz)
  rw [B0] at h2
  exact h2.len ZL (Bk.of (bu j hj) hM) (Bk.of (bu fr mH) hM)
 have hle:∀ x:Int,0 < x→x ∣ u fr→Bk 60 x:=fun x hx hd=>by
  have:=Kc xL hd
  have b:=Bk.of (bu fr mH) hM
  exact ⟨by have:=M1 60; omega,by have:=b.2; omega⟩
 refine Zw (ra (n:=1) A0 A0) fun o ho=>?_
 refine Zw (Q0 (Post:=fun r:Bool×LI=>∃ S,Bg S r.1 r.2∧0 < S∧(∀ i,i < w→E i ∣ S)∧∀ m,(∀ i,i < w→E i ∣ m)→S ∣ m) w (fun j (s:Bool×LI×Int)=>s.2.2=(j:Int)∧j≤w∧∃ S,Bg S s.1 s.2.1∧0 < S∧(∀ i,i < j→E i ∣ S)∧∀ m,(∀ i,i < j→E i ∣ m)→S ∣ m) ⟨rfl,A0,1,ho,A0,fun i hi=>absurd hi A0,fun m _=>Int.one_dvd m⟩ ?_ A0) ?_
 ·rintro j ⟨ss,sl,_⟩ hj ⟨rfl,Ay,S,hS,wJ,FM,NL⟩
  simp only at hS
  unfold m_it
  simp only
  rw [O0]
  refine ⟨fun hlt=>?_,fun tx=>⟨_,rfl,by have e:j=w:=A0; subst e; exact ⟨S,hS,wJ,FM,NL⟩⟩⟩
  have KG:j < w:=A0
  obtain ⟨z,z1,z2,z3,z4⟩:=OL j KG
  obtain ⟨lz1,lz2⟩:=hlen j KG z z1
  have PN:S ∣ u fr:=NL _ fun i hi=>SN i A0
  have ls:=(hle S wJ PN).len hS
  have MQ:=z3.1
  rw [X2 z1 rfl,obs,obs]
  refine Zw (Rt (s:=ss) (t:=z.2.2.1) hS.1 z2.2.1 A0 A0) fun g hg=>?_
  rw [hS.sv,z2.2.sv] at hg
  obtain ⟨e1,e2⟩:=Ak (x:=S) (y:=E j) wJ
  have BO:((Int.gcd S (E j):Nat):Int) ∣ E j:=Mc ..
  have lg:g.2.length≤60:=(hle _ e1 (Oc BO (SN j KG))).len hg
  refine Zw (vg (s:=z.2.2.1) (t:=g.1) z2.2.1 hg.1 A0 A0 (by rw [hg.sv]; omega) (by rw [hg.sv,z2.2.sv]; exact BO)) fun q hq=>?_
  rw [hg.sv,z2.2.sv] at hq
  obtain ⟨s1,s2,s3,s4⟩:=EC wJ MQ
  have lq:q.2.1.length≤60:=by
   have h1:E j / ((Int.gcd S (E j):Nat):Int) ∣ E j:=by
    obtain ⟨c,hc⟩:=BO
    refine ⟨((Int.gcd S (E j):Nat):Int),?_⟩
    conv=>rhs; lhs; lhs; rw [hc]
    rw [B9 _ A0]
    conv=>lhs; rw [hc]
    exact P2 _ _
   have h2:0 < E j / ((Int.gcd S (E j):Nat):Int):=EB wJ s1
   exact (hle _ h2 (Oc h1 (SN j KG))).len hq
  refine Zw (P7 (s:=ss) (t:=q.1) hS.1 hq.1 A0 A0) fun t ht=>?_
  rw [hS.sv,hq.sv] at ht
  refine ⟨_,rfl,KG,Xw,A0,_,ht,s1,fun i hi=>?_,fun m hm=>s4 m (NL m fun i hi=>hm i A0) (hm j A0)⟩
  by_cases e:i=j
  ·subst e; exact s3
  ·exact Oc (FM i A0) s2
 ·rintro ⟨ss,sl⟩ ⟨S,hS,wJ,FM,NL⟩
  simp only at hS ⊢
  have PN:S ∣ u fr:=NL _ fun i hi=>SN i hi
  have ls:=(hle S wJ PN).len hS
  have UI:N fr=1∧E fr=1:=by
   obtain ⟨z,_,_,h2,h3⟩:=OL fr mH
   unfold Vq at h3
   have e:N fr=E fr:=UF ZL (by rw [h3,P2])
   have:=h2.2
   rw [e,Int.gcd_self] at this
   have:=h2.1
   exact ⟨A0,A0⟩
  have WM:∀ j,j < w→E j ∣ N j*S:=fun j hj=>Int.dvd_mul_of_dvd_right (FM j hj)
  have yG:∀ j,j < w→N j*S / E j=u j:=by
   have yR:Prim w fun j=>N j*S / E j:=zB mH (fun j hj=>by obtain ⟨_,_,_,h2,_⟩:=OL j hj; exact h2) UI wJ FM NL
   have xR:Prim w u:=fun d hd Qx=>by
    have h1:=hp d Qx
    have:=Kc A0 h1
    omega
   intro j hj
   refine (Fs mH xL (t:=fun j=>N j*S / E j) ?_ xR yR (fun i hi=>?_) j hj).symm
   ·show 0 < N fr*S / E fr
    rw [UI.1,UI.2,M4,Yv]; exact wJ
   ·show u i*(N fr*S / E fr)=N i*S / E i*u fr
    rw [UI.1,UI.2,M4,Yv]
    obtain ⟨z,_,_,h2,h3⟩:=OL i hi
    unfold Vq at h3
    have h4:=h2.1
    obtain ⟨c,hc⟩:=WM i hi
    have hq:N i*S / E i=c:=by rw [hc]; exact B9 _ A0
    rw [hq]
    have h5:E i*(u i*S - c*u fr)=0:=by
     have h6:N i*S*u fr=E i*c*u fr:=by rw [hc]
     have h7:N i*S*u fr=(N i*u fr)*S:=by grind
     rw [h7,h3] at h6
     grind
    rcases K4.1 h5 with h | h<;>omega
  refine Zw (Q0 (Post:=fun r:List Nb=>Lg r w u) w (fun j (s:List Nb×Int)=>s.2=(j:Int)∧Lg s.1 j u) ⟨rfl,rfl,fun c hc=>absurd hc A0⟩ ?_ A0) fun r hr=>⟨_,rfl,hr⟩
  rintro j ⟨r,_⟩ hj ⟨rfl,hI⟩
  simp only at hI
  unfold m_is
  simp only
  rw [O0]
  refine ⟨fun hlt=>?_,fun tx=>⟨_,rfl,by have e:j=w:=A0; subst e; exact hI⟩⟩
  have KG:j < w:=A0
  obtain ⟨z,z1,z2,z3,z4⟩:=OL j KG
  obtain ⟨lz1,lz2⟩:=hlen j KG z z1
  have gz:=X2 z1 (i:=(j:Int)) rfl
  rw [gz,obs]
  refine Zw (P7 (s:=z.1) (t:=ss) z2.1.1 hS.1 A0 A0) fun t ht=>?_
  rw [z2.1.sv,hS.sv] at ht
  have bz:=O6 (s:=z.1) z2.1.1 lz1
  rw [z2.1.sv] at bz
  have lt:=(bz.mul (hle S wJ PN)).len ht
  have MQ:=z3.1
  rw [obs]
  refine Zw (vg (s:=t.1) (t:=z.2.2.1) ht.1 z2.2.1 A0 A0 (by rw [z2.2.sv]; omega) (by rw [ht.sv,z2.2.sv]; exact WM j KG)) fun q hq=>?_
  rw [ht.sv,z2.2.sv,yG j KG] at hq
  rw [J0,D2]
  exact ⟨by rw [hI.1]; simp only [I2,Y2]; omega,_,rfl,KG,Xw,hI.snoc (z:=(q.1,q.2.1)) hq⟩
theorem pA (hM:M < pw 60) (hR:Okb n w A M) (hT:Tr K T n w A) (hK:K≤400) (hn:n≤16) (hw:w≤16) (zF:0 < n) (AJ:0 < w) {l:List Nb} {k:Nat} {A':Mx} {col:Nat→Nat} {sn:Int} (hB:Bar n w A A' col k w sn)
  (hl:(l=[]∧k=w)∨(k < w∧∃ fr,KU n w A M fr l∧fr < w∧fr≤k∧(∀ s,s < fr→col s=s)∧(fr < k→col fr≠fr))):m_iy T=some l:=by
 refine Ret.eq ?_
 unfold m_iy
 have EG:m_hw T=some (w:Int):=by rw [Jm hT.sh,B0]
 rw [EG,obs]
 refine Zw (Wt hT hK A0 A0) fun F hF=>?_
 refine Zw (vu hM hR A0 A0 hF) ?_
 rintro ⟨F',pv,ds,dl,es,el⟩ ⟨A2,Tx,k2,sn2,SH,qK,Wz,hd,he,pI⟩
 simp only at qK Wz hd he ⊢
 obtain rfl:k2=k:=Nat.le_antisymm (SH.uniqk hB) (hB.uniqk SH)
 have ED:pv.length=k2:=by rw [Wz,Sa,Q6]
 rw [ED,O0]
 rcases hl with ⟨rfl,rfl⟩ | ⟨Jx,fr,⟨u,FS,bu,hu,hp,xL,WL⟩,mH,IJ,IH,JI⟩
 ·exact ⟨fun _=>⟨_,rfl,rfl⟩,fun h=>absurd rfl h⟩
 ·refine ⟨fun h=>absurd h A0,fun _=>?_⟩
  have IK:∀ s,s < k2→getI pv (s:Int)=some (Tx s:Int):=fun s hs=>X2 (by rw [Wz,y9,Ta hs]; rfl) rfl
  refine Zw (Q0 (Post:=fun o:Int=>∃ f:Nat,o=(f:Int)∧f≤k2∧(∀ s,s < f→Tx s=s)∧(f < k2→Tx f≠f)) k2 (fun j (i:Int)=>i=(j:Int)∧j≤k2∧∀ s,s < j→Tx s=s) ⟨rfl,A0,fun s hs=>absurd hs A0⟩ ?_ A0) ?_
  ·rintro j _ hj ⟨rfl,FG,hI⟩
   unfold m_ix
   simp only
   rw [ED]
   by_cases hlt:j < k2
   ·rw [C0,IK j hlt,obs,obs,O0]
    refine ⟨fun he=>⟨_,rfl,hlt,by rw [U0 A0 A0]; rfl,hlt,fun s hs=>?_⟩,fun he=>⟨_,rfl,j,rfl,FG,hI,fun _ h=>he (by rw [h]; simp)⟩⟩
    have he:(Tx j:Int)=(j:Int):=by simpa using he
    by_cases e:s=j
    ·subst e; omega
    ·exact hI s A0
   ·rw [B0,obs,K0 H0]
    exact ⟨_,rfl,j,rfl,FG,hI,fun h=>absurd h hlt⟩
  ·rintro _ ⟨f,rfl,EP,dL,DP⟩
   have SM:∀ s,s < k2→Tx s≠f:=by
    intro s hs e
    by_cases h1:s < f
    ·rw [dL s h1] at e; omega
    ·have h2:f < k2:=A0
     have h3:=DP h2
     have h4:=SH.ge f h2
     rcases Pa f s with h5 | h5
     ·have:=SH.asc f s h5 hs; omega
     ·obtain rfl:s=f:=A0
      exact h3 e
   obtain rfl:f=fr:=by
    rcases Hb f fr with h | h | h
    ·exfalso
     have CP:f < w:=A0
     let v:Nat→Int:=fun j=>if j=f then det k2 (Pm_ A2 Tx) else if ∃ s,s < k2∧Tx s=j then (if h:∃ s,s < k2∧Tx s=j then - Rk A2 Tx k2 (Classical.choose h) f else 0) else 0
     have hv2:∀ s,s < k2→v (Tx s)= - Rk A2 Tx k2 s f:=fun s hs=>by
      have hex:∃ t,t < k2∧Tx t=Tx s:=⟨s,hs,rfl⟩
      show (if Tx s=f then _ else if ∃ t,t < k2∧Tx t=Tx s then (if h:∃ t,t < k2∧Tx t=Tx s then - Rk A2 Tx k2 (Classical.choose h) f else 0) else 0)=_
      rw [K0 (SM s hs),M0 hex,dif_pos hex]
      have hc:=Pb hex
      have e:Classical.choose hex=s:=by
       rcases Hb (Classical.choose hex) s with h5 | h5 | h5
       ·have:=SH.asc _ s h5 hs; omega
       ·exact h5
       ·have:=SH.asc s _ h5 hc.1; omega
      rw [e]
     have hk:=SH.kernel CP SM (v:=v) (M0 rfl) hv2 (fun j hj h1 h2=>by
      show (if j=f then _ else if ∃ t,t < k2∧Tx t=j then _ else 0)=0
      rw [K0 h1,K0 fun ⟨s,hs,e⟩=>h2 s hs e])
     have h0:=hB.indep IJ IH hk (fun j hj Ay=>by
      by_cases hex:∃ t,t < k2∧Tx t=j
      ·obtain ⟨s,hs,rfl⟩:=hex
       rw [hv2 s hs,SH.lead s f hs A0]; rfl
      ·show (if j=f then _ else if ∃ t,t < k2∧Tx t=j then _ else 0)=0
       rw [B0,K0 hex]) f h
     have:v f=det k2 (Pm_ A2 Tx):=M0 rfl
     rw [this] at h0
     exact SH.d h0
    ·exact h
    ·exfalso
     have:=SH.indep EP dL hu (fun j hj Ay=>WL j A0 Ay) fr h
     omega
   have By:=La SH
   have RJ:=SH.kn
   have bR:∀ s j,s < f→j < w→Bd M (Rk A2 Tx s s j)∧Bd M (det s (Pm_ A2 Tx)):=fun s j hs hj=>hR A2 Tx s s j By A0 (fun t ht=>SH.lt t A0) A0 hj
   refine Zw (ra (n:=1) A0 A0) fun o1 cK=>?_
   refine Zw (ra (n:=1) A0 A0) fun o2 wN=>?_
   rw [J0,J5]
   refine ⟨A0,A0,?_⟩
   rw [Z0]
   refine Zw (Q0 (Post:=fun v:List Fb=>Lf v w (fun _=>0) 1) w (fun j (s:List Fb×Int)=>s.2=(j:Int)∧s.1.length=w∧∀ i,i < j→∃ z,s.1[i]?=some z∧Fq z 0 1) ⟨rfl,U4 ..,fun i hi=>absurd hi A0⟩ ?_ A0) ?_
   ·rintro j ⟨v,_⟩ hj ⟨rfl,dB,hI⟩
    simp only at dB hI
    unfold m_iw
    simp only
    rw [O0]
    refine ⟨fun hlt=>?_,fun tx=>⟨_,rfl,dB,fun c hc=>hI c A0⟩⟩
    have Ay:j < w:=A0
    refine Zw (ra (n:=1) A0 A0) fun o3 GR=>?_
    rw [P4 (by rw [dB]; exact Ay) rfl,obs]
    refine ⟨_,rfl,Ay,Xw,by rw [N3]; exact dB,fun i hi=>?_⟩
    by_cases e:i=j
    ·subst e
     exact ⟨_,by rw [D5]; rw [dB]; exact Ay,0,1,⟨Ac,GR⟩,Og 0,by unfold Vq; rfl⟩
    ·obtain ⟨z,z1,z2⟩:=hI i A0
     exact ⟨z,by rw [A6 (fun h=>e h.symm)]; exact z1,z2⟩
   ·intro v hv
    rw [P4 (by rw [hv.1]; exact mH) rfl,obs,J0]
    have zJ:ws .i64 (f:Int) 1=(f:Int) - 1:=C3 A0 A0
    rw [zJ]
    have wS:Vk w f u f (v.set f (o1.1,o1.2,o2.1,o2.2)):=by
     refine ⟨by rw [N3]; exact hv.1,fun j hj=>?_⟩
     by_cases e:j=f
     ·subst e
      refine ⟨_,by rw [D5]; rw [hv.1]; exact hj,?_⟩
      rw [B0]
      have:=(Zt (z:=(o1.1,o1.2,o2.1,o2.2)) ⟨cK,wN⟩).scale (u j)
      rw [J6] at this; exact this
     ·obtain ⟨z,z1,z2⟩:=hv.2 j hj
      refine ⟨z,by rw [A6 (fun h=>e h.symm)]; exact z1,?_⟩
      by_cases e2:j < f
      ·rw [M0 e2]; exact z2
      ·rw [K0 e2,WL j A0 hj]
       exact z2.zero A0
    refine (QA hM SH pI IJ mH hw dL bR bu hu xL WL qK cK wN wS).mono fun v' CI=>?_
    exact (gA hM mH hw bu xL hp CI).mono fun r hr=>hr.eq' FS
end
theorem we {τ ρ:Type} {step:τ→Option (τ⊕ρ)} {Post:ρ→Prop} (I:τ→Prop) (μ:τ→Nat) {s:τ} (h0:I s) (hμ:μ s < 1099511627776)
  (h:∀ t,I t→Ret (step t) (VQ (fun t'=>I t'∧μ t' < μ t) Post)):Ret (loop step s) Post:=by
 have key:∀ (fuel:Nat) (t:τ),μ t < fuel→I t→Ret (loopN step fuel t) Post:=by
  intro fuel
  induction fuel with
  | zero=>intro t h1; omega
  | succ n ih=>
   intro t h1 h2
   obtain ⟨x,hx,h3⟩:=h t h2
   cases x with
   | inr r=>exact ⟨r,by simp [loopN,hx],h3⟩
   | inl t'=>
    obtain ⟨h4,h5⟩:=h3
    obtain ⟨y,hy,hp⟩:=ih t' A0 h4
    exact ⟨y,by simp [loopN,hx,hy],hp⟩
 exact key FUEL s (Gl hμ (by unfold FUEL; omega)) h0
structure PP (p:Int):Prop where
 two:2≤p
 max:p≤2147483647
 prm:Nt.Prm p.toNat
theorem Mq {x p:Int} (h:0≤x):x.tmod p=x % p:=Td h
theorem Vb {x p:Int} (h:0≤x) (hp:0 < p):wr x p=some (x % p):=by
 unfold wr; rw [B0,Mq h]
theorem Q7 {p:Int} (x:Int) (hp:0 < p):0≤x % p∧x % p < p:=⟨P3 _ A0,W3 _ hp⟩
theorem uu {a p z k:Int} (h:a=z+p*k) (h0:0≤z) (h1:z < p):z=a % p:=by rw [h,mm,X4 h0 h1]
theorem nc {a p:Int} (hp:0 < p) (hm:p≤2147483647):m_gb a p=some (a % p):=by
 unfold m_gb wr m_ga
 rw [B0,obs]
 have h1:=Int.lt_tmod_of_pos a hp
 have h2:=Int.tmod_lt_of_pos a hp
 have h3:=Int.mul_tdiv_add_tmod a p
 split
 ·rw [U0 A0 A0]
  refine C1 some (uu (k:=a.tdiv p - 1) ?_ A0 A0)
  rw [A9]; omega
 ·exact C1 some (uu (k:=a.tdiv p) A0 A0 h2)
theorem qg:m_jj=m_gb:=rfl
theorem Rj {p x y:Int} (hm:p≤2147483647) (hx:0≤x∧x < p) (hy:0≤y∧y < p):0≤x*y∧x*y≤4611686014132420609:=
 ⟨O3 hx.1 hy.1,by have:=K8 (show x≤2147483647 by omega) (show y≤2147483647 by omega) hy.1 A0; omega⟩
theorem wmr {p x y:Int} (hm:p≤2147483647) (hx:0≤x∧x < p) (hy:0≤y∧y < p):wr (wm .i64 x y) p=some (x*y % p):=by
 have:=Rj hm hx hy
 rw [Z9 A0 A0,Vb this.1 A0]
theorem YA {p a:Nat} (hp:1 < p) (hm:p≤2147483647) (ha:a < p) {n:Nat} (hn:n < 1099511627776):m_gk (a:Int) (n:Int) (p:Int)=some ((a ^ n % p:Nat):Int):=by
 refine Ret.eq ?_
 unfold m_gk
 refine Zw (we (Post:=fun o=>o=((a ^ n % p:Nat):Int)) (fun (s:Int×Int×Int)=>∃ A m O:Nat,s=((A:Int),(m:Int),(O:Int))∧A < p∧O < p∧m < 1099511627776∧O*A ^ m % p=a ^ n % p) (fun s=>s.2.1.toNat) ⟨a,n,1,rfl,ha,hp,hn,by rw [Bh]⟩ (by show ((n:Int)).toNat < _; omega) ?_) ?_
 ·rintro _ ⟨A,m,O,rfl,hA,hO,qD,hI⟩
  unfold m_gj
  simp only
  have WT:=Rj (p:=p) (x:=A) (y:=A) A0 ⟨A0,A0⟩ ⟨A0,A0⟩
  have RT:=Rj (p:=p) (x:=O) (y:=A) A0 ⟨A0,A0⟩ ⟨A0,A0⟩
  have e1:wr (wm .i64 (A:Int) (A:Int)) (p:Int)=some ((A*A % p:Nat):Int):=by rw [wmr A0 ⟨A0,A0⟩ ⟨A0,A0⟩]; simp
  have e2:wr (wm .i64 (O:Int) (A:Int)) (p:Int)=some ((O*A % p:Nat):Int):=by rw [wmr A0 ⟨A0,A0⟩ ⟨A0,A0⟩]; simp
  have e3:wrc (m:Int) 2=((m % 2:Nat):Int):=by show Int.tmod (m:Int) 2=_; rw [Mq A0]; omega
  have e4:wqc .i64 (m:Int) 2=((m / 2:Nat):Int):=by
   show IntKind.wrap .i64 (Int.tdiv (m:Int) 2)=_
   rw [Nh A0,IntWalk.i64_in _ ⟨A0,A0⟩]; omega
  have hlt:∀ z:Nat,z % p < p:=fun z=>Gb _ A0
  rw [O0]
  refine ⟨fun h0=>?_,fun h0=>?_⟩
  ·rw [e3,O0]
   refine ⟨fun h1=>?_,fun h1=>?_⟩
   ·rw [e2,obs]
    unfold m_gi
    rw [e1,obs,e4]
    refine ⟨_,rfl,⟨_,_,_,rfl,hlt _,hlt _,A0,?_⟩,by show ((m / 2:Nat):Int).toNat < ((m:Int)).toNat; omega⟩
    rw [Nt.BB A0]; exact hI
   ·unfold m_gi
    rw [e1,obs,e4]
    refine ⟨_,rfl,⟨_,_,_,rfl,hlt _,hO,A0,?_⟩,by show ((m / 2:Nat):Int).toNat < ((m:Int)).toNat; omega⟩
    rw [Nt.CB A0]; exact hI
  ·refine ⟨_,rfl,?_⟩
   obtain rfl:m=0:=A0
   rw [Nat.pow_zero,Te,uv hO] at hI
   show (O:Int)=_
   rw [hI]
 ·rintro _ rfl
  exact ⟨_,rfl,rfl⟩
theorem Ft {p a:Int} (hp:PP p) (ha:0 < a∧a < p):∃ f,m_gl a p=some f∧(0≤f∧f < p)∧a*f % p=1:=by
 have h2:=hp.two
 have h3:=hp.max
 obtain ⟨P,rfl⟩:=W4 (show 0≤p by omega)
 obtain ⟨A,rfl⟩:=W4 (show 0≤a by omega)
 refine ⟨((A ^ (P - 2) % P:Nat):Int),?_,⟨A0,?_⟩,?_⟩
 ·unfold m_gl
  rw [C3 A0 A0,show (P:Int) - 2=((P - 2:Nat):Int) by omega,YA A0 A0 A0 A0,obs]
 ·have:=Gb (A ^ (P - 2)) (show P > 0 by omega); omega
 ·have:=Nt.RC hp.prm (a:=A) A0 (by simpa using (show A < P by omega))
  rw [Z0] at this
  exact_mod_cast this
def Ln (l:LI) (w:Nat) (f:Nat→Int):Prop:=l.length=w∧∀ c,c < w→l[c]?=some (f c)
def Tb (T:L2) (n w:Nat) (A:Mx):Prop:=T.length=n∧∀ r,r < n→∃ l,T[r]?=some l∧Ln l w (A r)
theorem Ln.congr {l:LI} {w:Nat} {f g:Nat→Int} (h:Ln l w f) (e:∀ c,c < w→f c=g c):Ln l w g:=⟨h.1,fun c hc=>by rw [h.2 c hc,e c hc]⟩
theorem Ln.set {l:LI} {w:Nat} {f:Nat→Int} (h:Ln l w f) {c:Nat} (hc:c < w) (x:Int):Ln (l.set c x) w (fun j=>if j=c then x else f j):=by
 refine ⟨by rw [N3]; exact h.1,fun j hj=>?_⟩
 rw [Ih]
 by_cases e:c=j
 ·subst e
  show _=some (if c=c then x else f c)
  rw [M0 rfl,M0 (by rw [h.1]; exact hc),M0 rfl]
 ·show _=some (if j=c then x else f j)
  rw [K0 e,K0 (Ne.symm e)]; exact h.2 j hj
theorem Tb.congr {T:L2} {n w:Nat} {A B:Mx} (h:Tb T n w A) (e:∀ r c,r < n→c < w→A r c=B r c):Tb T n w B:=⟨h.1,fun r hr=>by obtain ⟨l,h1,h2⟩:=h.2 r hr; exact ⟨l,h1,h2.congr fun c hc=>e r c hr hc⟩⟩
theorem Tb.set {T:L2} {n w:Nat} {A:Mx} (h:Tb T n w A) {k:Nat} (hk:k < n) {l:LI} {g:Nat→Int} (hl:Ln l w g):Tb (T.set k l) n w (up A k g):=by
 refine ⟨by rw [N3]; exact h.1,fun r hr=>?_⟩
 rw [Ih]
 by_cases e:k=r
 ·subst e; rw [M0 rfl,M0 (by rw [h.1]; exact hk)]; exact ⟨l,rfl,hl.congr fun c _=>C2.symm⟩
 ·rw [K0 e]; obtain ⟨m,h1,h2⟩:=h.2 r hr; exact ⟨m,h1,h2.congr fun c _=>(J2 fun e'=>e e'.symm).symm⟩
theorem Ln.get {l:LI} {w:Nat} {f:Nat→Int} (h:Ln l w f) {c:Nat} (hc:c < w) {Q:Int→Prop} (hQ:Q (f c)):Ret (getI l (c:Int)) Q:=by
 rw [L3]
 refine ⟨A0,by rw [h.1]; omega,fun x hx=>?_⟩
 rw [Z0,h.2 c hc] at hx
 obtain rfl:=N2 hx
 exact hQ
theorem Tb.get {T:L2} {n w:Nat} {A:Mx} (h:Tb T n w A) {r:Nat} (hr:r < n) {Q:LI→Prop} (hQ:∀ l,T[r]?=some l→Ln l w (A r)→Q l):Ret (getI T (r:Int)) Q:=by
 rw [L3]
 refine ⟨A0,by rw [h.1]; omega,fun x hx=>?_⟩
 rw [Z0] at hx
 obtain ⟨l,h1,h2⟩:=h.2 r hr
 rw [h1] at hx
 obtain rfl:=N2 hx
 exact hQ l h1 h2
section
variable {p:Int} {n w:Nat}
theorem Uq (p a b:Int):(a - b % p) % p=(a - b) % p:=Cg.iff.1 ((Cg.refl p a).sub (Cg.mod p b))
theorem jz (hp:0 < p) (hm:p≤2147483647) {l o:LI} {f g:Nat→Int} {x:Int} (hl:Ln l w f) (ho:Ln o w g) (hf:∀ c,c < w→0≤f c∧f c < p) (hg:∀ c,c < w→0≤g c∧g c < p) (hx:0≤x∧x < p) (hw:w≤1000):
  Ret (m_gn l o x p) (fun l'=>Ln l' w (fun c=>(f c - x*g c) % p)):=by
 unfold m_gn
 refine Zw (Q0 (Post:=fun l'=>Ln l' w (fun c=>(f c - x*g c) % p)) w (fun k (s:LI×Int)=>s.2=(k:Int)∧Ln s.1 w (fun j=>if j < k then (f j - x*g j) % p else f j)) ⟨rfl,hl.congr fun c _=>by rw [B0]⟩ ?_ A0) fun _ h=>⟨_,rfl,h⟩
 rintro k ⟨l',_⟩ hk ⟨rfl,h⟩
 unfold m_gm
 simp only at h ⊢
 rw [O0,ho.1]
 refine ⟨fun hlt=>?_,fun tx=>⟨_,rfl,?_⟩⟩
 ·have Jx:k < w:=A0
  rw [J0]; refine ho.get Jx ?_
  rw [J0]; refine h.get Jx ?_
  show Ret ((wr (wm .i64 x (g k)) p).bind _) _
  rw [B0,wmr hm hx (hg k Jx),obs]
  have h1:=Q7 (x*g k) hp
  have h2:=hf k Jx
  rw [C3 A0 A0,nc hp hm,obs,J0,E4]
  refine ⟨A0,by rw [h.1]; omega,_,rfl,?_⟩
  refine ⟨A0,by show wa .i64 (k:Int) 1=_; rw [U0 A0 A0]; omega,?_⟩
  show Ln (l'.set (k:Int).toNat _) w _
  rw [Z0]
  refine (h.set Jx _).congr fun j _=>?_
  by_cases e:j=k
  ·subst e; rw [M0 rfl,C0,Uq]
  ·rw [K0 e]
   by_cases e2:j < k
   ·rw [M0 e2,C0]
   ·rw [K0 e2,B0]
 ·show Ln l' w _
  exact h.congr fun j hj=>by rw [C0]
theorem Uz (hp:0 < p) (hm:p≤2147483647) {T:L2} {A:Mx} (hT:Tb T n w A) {k:Nat} (hk:k < n) (hr:∀ c,c < w→0≤A k c∧A k c < p) {f:Int} (hf:0≤f∧f < p) {top piv:LI} (h1:top.length=w) (h2:piv.length=k) (hw:w≤1000):
  Ret (loop (m_gr top piv f p) (T,0)) (fun T'=>Tb T' n w (up A k (fun j=>A k j*f % p))):=by
 refine Q0 w (fun m (s:L2×Int)=>s.2=(m:Int)∧Tb s.1 n w (up A k (fun j=>if j < m then A k j*f % p else A k j))) ⟨rfl,hT.congr fun r c hr hc=>?_⟩ ?_ A0
 ·by_cases e:r=k
  ·subst e; rw [C2,B0]
  ·rw [J2 e]
 ·rintro m ⟨T',_⟩ jH ⟨rfl,h⟩
  unfold m_gr
  simp only at h ⊢
  rw [O0,h1,h2]
  refine ⟨fun hlt=>?_,fun tx=>⟨_,rfl,?_⟩⟩
  ·have jH:m < w:=A0
   rw [J0]; refine h.get hk fun l tI Px=>?_
   rw [J0]; refine h.get hk fun l' eH iI=>?_
   obtain rfl:=N2 (tI.symm.trans eH)
   rw [J0]; refine Px.get jH ?_
   rw [C2,B0,wmr hm (hr m jH) hf,obs,J0,E4]
   refine ⟨A0,by rw [Px.1]; omega,?_⟩
   rw [J0,E4]
   refine ⟨A0,by rw [h.1]; omega,_,rfl,?_⟩
   refine ⟨A0,by show wa .i64 (m:Int) 1=_; rw [U0 A0 A0]; omega,?_⟩
   show Tb (T'.set (k:Int).toNat (l.set (m:Int).toNat _)) n w _
   rw [Z0,Z0]
   refine (h.set hk (Px.set jH _)).congr fun r c hr hc=>?_
   by_cases e:r=k
   ·subst e
    rw [C2,C2]
    by_cases e2:c=m
    ·subst e2; rw [M0 rfl,C2,C0]
    ·rw [K0 e2,C2]
     by_cases e3:c < m
     ·rw [M0 e3,C0]
     ·rw [K0 e3,B0]
   ·rw [J2 e,J2 e,J2 e]
  ·show Tb T' n w _
   refine h.congr fun r c hr hc=>?_
   by_cases e:r=k
   ·subst e; rw [C2,C2,C0]
   ·rw [J2 e,J2 e]
def Em (p:Int) (A:Mx) (k c m:Nat):Mx:=fun r j=>if r≠k∧r < m then (A r j - A r c*A k j) % p else A r j
theorem WD (hp:0 < p) (hm:p≤2147483647) {T:L2} {A:Mx} (hT:Tb T n w A) {k c:Nat} (hk:k < n) (hc:c < w) (hr:∀ r j,r < n→j < w→0≤A r j∧A r j < p) {T0:L2} {piv:LI} (h1:T0.length=n) (h2:piv.length=k) (hw:w≤1000) (hn:n≤1000):
  Ret (loop (m_gq T0 piv (c:Int) p) (T,0)) (fun T'=>Tb T' n w (Em p A k c n)):=by
 refine Q0 n (fun m (s:L2×Int)=>s.2=(m:Int)∧Tb s.1 n w (Em p A k c m)) ⟨rfl,hT.congr fun r j hr hc=>?_⟩ ?_ A0
 ·unfold Em; rw [B0]
 ·rintro m ⟨T',_⟩ jH ⟨rfl,h⟩
  unfold m_gq m_gp
  simp only at h ⊢
  rw [O0,h1,h2]
  refine ⟨fun hlt=>?_,fun tx=>⟨_,rfl,?_⟩⟩
  ·have qI:m < n:=A0
   have nxt:wa .i64 (m:Int) 1=((m+1:Nat):Int):=by rw [U0 A0 A0]; rfl
   have Emm:Em p A k c m m=A m:=by funext j; unfold Em; rw [B0]
   have Emk:Em p A k c m k=A k:=by funext j; unfold Em; rw [B0]
   rw [J0]; refine h.get qI fun l tI Px=>?_
   rw [Emm] at Px
   rw [J0,O0]
   refine ⟨fun he=>?_,fun he=>?_⟩
   ·have he:m=k:=A0
    rw [U2,K0 H0]
    refine ⟨_,rfl,A0,nxt,?_⟩
    refine h.congr fun r j hr hc=>?_
    unfold Em
    by_cases e:r≠k∧r < m
    ·rw [M0 e,C0]
    ·rw [K0 e,B0]
   ·have he:m≠k:=A0
    rw [J0]; refine Px.get hc ?_
    rw [U2,O0]
    have hz:=hr m c qI hc
    refine ⟨fun kx=>?_,fun kx=>?_⟩
    ·rw [J0]; refine h.get hk fun lk EL lM=>?_
     rw [Emk] at lM
     rw [J0]; refine Px.get hc ?_
     have uP:neI (m:Int) (k:Int)=some ():=by unfold neI; rw [B0]
     rw [uP,obs]
     refine Zw (jz hp hm Px lM (fun j hj=>hr m j qI hj) (fun j hj=>hr k j hk hj) hz hw) fun l' gK=>?_
     rw [J0,E4]
     refine ⟨A0,by rw [h.1]; omega,_,rfl,A0,nxt,?_⟩
     show Tb (T'.set (m:Int).toNat l') n w _
     rw [Z0]
     refine (h.set qI gK).congr fun r j hr hc=>?_
     by_cases e:r=m
     ·subst e; rw [C2]; unfold Em; rw [M0 ⟨he,A0⟩]
     ·rw [J2 e]; unfold Em
      by_cases e2:r≠k∧r < m
      ·rw [M0 e2,C0]
      ·rw [K0 e2,B0]
    ·have h0:A m c=0:=by simpa using kx
     refine ⟨_,rfl,A0,nxt,?_⟩
     refine h.congr fun r j dH hc=>?_
     unfold Em
     by_cases e:r=m
     ·subst e
      rw [B0,M0 ⟨he,A0⟩,h0,V3,Ea]
      have:=hr r j dH hc
      rw [X4 this.1 this.2]
     ·by_cases e2:r≠k∧r < m
      ·rw [M0 e2,C0]
      ·rw [K0 e2,B0]
  ·show Tb T' n w _
   refine h.congr fun r j hr hc=>?_
   unfold Em
   by_cases e:r≠k∧r < m
   ·rw [M0 e,C0]
   ·rw [K0 e,B0]
theorem zD {T:L2} {A:Mx} (hT:Tb T n w A) {c:Nat} (hc:c < w) (hn:n≤1000):
  Ret (m_gh T (c:Int)) (fun i=>(i= -1∧∀ r,r < n→A r c=0)∨∃ r:Nat,i=(r:Int)∧r < n∧A r c≠0):=by
 unfold m_gh
 refine Zw (Q0 (Post:=fun o=>(o=.inl ()∧∀ r,r < n→A r c=0)∨∃ r:Nat,o=.inr (r:Int)∧r < n∧A r c≠0) n (fun k (i:Int)=>i=(k:Int)∧k≤n∧∀ r,r < k→A r c=0) ⟨rfl,A0,fun r h=>absurd h A0⟩ ?_ A0) ?_
 ·rintro k _ hk ⟨rfl,px,h0⟩
  unfold m_gg m_gf
  rw [O0,hT.1]
  refine ⟨fun hlt=>?_,fun tx=>⟨_,rfl,.inl ⟨rfl,fun r hr=>h0 r A0⟩⟩⟩
  have px:k < n:=A0
  rw [J0]; refine hT.get px fun l tI Px=>?_
  rw [J0,J0]; refine Px.get hc ?_
  rw [U2,O0]
  refine ⟨fun kx=>⟨_,rfl,.inr ⟨k,rfl,px,by simpa using kx⟩⟩,fun kx=>⟨_,rfl,A0,by rw [U0 A0 A0]; rfl,A0,fun r hr=>?_⟩⟩
  by_cases e:r=k
  ·subst e; simpa using kx
  ·exact h0 r A0
 ·rintro o (⟨rfl,h⟩ | ⟨r,rfl,h1,h2⟩)
  ·exact ⟨_,rfl,.inl ⟨rfl,h⟩⟩
  ·exact ⟨_,rfl,.inr ⟨r,rfl,h1,h2⟩⟩
end
section
variable {p:Int} {n w:Nat} {A B:Mx} {col:Nat→Nat} {k c:Nat}
end
end Km
namespace Dt
section
open Sx Go M Vc Km
variable {p:Int} {n w:Nat} {A B:Mx} {col:Nat→Nat} {k c:Nat}
theorem Rre.none (h:Rre p n w B col k c) (hc:c < w) (hz:∀ r,k≤r→r < n→B r c=0):Rre p n w B col k (c+1) where
 kn:=h.kn
 cw:=hc
 lt:=fun s hs=>by have:=h.lt s hs; omega
 asc:=h.asc
 unit:=h.unit
 zero:=fun r j h1 h2 h3=>by
  by_cases e:j=c
  ·subst e; exact hz r h1 h2
  ·exact h.zero r j h1 h2 A0
 rng:=h.rng
 lead:=h.lead
end
end Dt
namespace Km
open Sx Go M Vc Dt
section
variable {p:Int} {n w:Nat} {A B:Mx} {col:Nat→Nat} {k c:Nat}
end
end Km
namespace Dt
section
open Sx Go M Vc Km
variable {p:Int} {n w:Nat} {A B:Mx} {col:Nat→Nat} {k c:Nat}
theorem Rre.full (h:Rre p n w B col n c):Rre p n w B col n w where
 kn:=h.kn
 cw:=H2 w
 lt:=fun s hs=>by have:=h.lt s hs; have:=h.cw; omega
 asc:=h.asc
 unit:=h.unit
 zero:=fun r j h1 h2 h3=>absurd h1 A0
 rng:=h.rng
 lead:=h.lead
end
end Dt
namespace Km
open Sx Go M Vc Dt
section
variable {p:Int} {n w:Nat} {A B:Mx} {col:Nat→Nat} {k c:Nat}
def St3 (p:Int) (n:Nat) (B:Mx) (k c:Nat) (f:Int):Mx:=Em p (up B k (fun j=>B k j*f % p)) k c n
theorem St3.self {f:Int} {j:Nat}:St3 p n B k c f k j=B k j*f % p:=by
 unfold St3 Em; rw [B0,C2]
theorem St3.oth {f:Int} {r j:Nat} (hr:r≠k) (hn:r < n):St3 p n B k c f r j=(B r j - B r c*(B k j*f % p)) % p:=by
 unfold St3 Em; rw [M0 ⟨hr,hn⟩,J2 hr,J2 hr,C2]
theorem St3.cg {f:Int} {r j:Nat} (hn:r < n):Cg p (St3 p n B k c f r j) (Dt.adds (up B k (fun c=>f*B k c)) k (fun r=>-(B r c)) n r j):=by
 by_cases hr:r=k
 ·subst hr
  rw [St3.self,A7 A0,C2,P2]
  exact Cg.mod p _
 ·rw [St3.oth hr hn,W8 ⟨hr,hn⟩,J2 hr,C2]
  refine (Cg.mod p _).trans ?_
  have:B r j+ -(B r c)*(f*B k j)=B r j - B r c*(B k j*f):=by
   rw [Ph,P2 f]; rfl
  rw [this]
  exact (Cg.refl p _).sub ((Cg.refl p _).mul (Cg.mod p _))
theorem az (h:Rre p n w B col k c) {t:Nat} (hk:k < n) (LK:k≤t) (ht:t < n):∀ s r,s < k→r < n→sw B k t r (col s)=if r=s then 1 else 0:=by
 intro s r hs hr
 unfold sw
 by_cases h1:r=k
 ·rw [M0 h1,h.unit s t hs ht,B0,B0]
 ·rw [K0 h1]
  by_cases h2:r=t
  ·rw [M0 h2,h.unit s k hs hk,B0,B0]
  ·rw [K0 h2]; exact h.unit s r hs hr
theorem Zy (h:Rre p n w B col k c) {t:Nat} (hk:k < n) (LK:k≤t) (ht:t < n):∀ r j,k≤r→r < n→j < c→sw B k t r j=0:=by
 intro r j h1 h2 h3
 unfold sw
 split
 ·exact h.zero t j LK ht h3
 ·split
  ·exact h.zero k j (H2 k) hk h3
  ·exact h.zero r j h1 h2 h3
end
end Km
namespace Dt
section
open Sx Go M Vc Km
variable {p:Int} {n w:Nat} {A B:Mx} {col:Nat→Nat} {k c:Nat}
theorem Rre.next (hp:2≤p) (h:Rre p n w B col k c) (hc:c < w) {t:Nat} (hk:k < n) (LK:k≤t) (ht:t < n) {f:Int} (hf:sw B k t k c*f % p=1):
  Rre p n w (St3 p n (sw B k t) k c f) (fun s=>if s=k then c else col s) (k+1) (c+1):=by
 have pv:∀ r,r < n→r≠k→St3 p n (sw B k t) k c f r c=0:=by
  intro r hr kx
  rw [St3.oth kx hr,hf,J6,Zl,Xa]
 have lo:=az h hk LK ht
 have ze:=Zy h hk LK ht
 have kc:∀ s,s < k→sw B k t s=B s:=by
  intro s hs; funext j; unfold sw; rw [B0,B0]
 refine ⟨hk,hc,fun s hs=>?_,fun s u h1 h2=>?_,fun s r hs hr=>?_,fun r j h1 h2 h3=>?_,fun r j h1 h2=>?_,fun s j hs hj=>?_⟩
 ·split
  ·omega
  ·have:=h.lt s A0; omega
 ·rw [K0 (show s≠k by omega)]
  split
  ·exact h.lt s A0
  ·exact h.asc s u h1 A0
 ·by_cases e:s=k
  ·subst e
   rw [M0 rfl]
   by_cases e2:r=s
   ·subst e2; rw [M0 rfl,St3.self]; exact hf
   ·rw [K0 e2]; exact pv r hr e2
  ·rw [K0 e]
   by_cases e2:r=k
   ·subst e2
    rw [St3.self,lo s r A0 hk,B0,V3,Xa]
   ·rw [St3.oth e2 hr,lo s k A0 hk,B0,V3,Xa,Q3,Ea,lo s r A0 hr]
    split
    ·exact X4 A0 A0
    ·exact Xa p
 ·by_cases e:j=c
  ·subst e; exact pv r h2 A0
  ·rw [St3.oth A0 h2,ze r j A0 h2 A0,ze k j (H2 k) hk A0,V3,Xa,Q3,Ea,Xa]
 ·by_cases e:r=k
  ·subst e; rw [St3.self]; exact Q7 _ A0
  ·rw [St3.oth e h1]; exact Q7 _ A0
 ·by_cases e:s=k
  ·subst e
   rw [M0 rfl] at hj
   rw [St3.self,ze s j (H2 s) hk hj,V3,Xa]
  ·rw [K0 e] at hj
   have:=h.lt s A0
   rw [St3.oth e A0,ze k j (H2 k) hk A0,V3,Xa,Q3,Ea,kc s A0,h.lead s j A0 hj,Xa]
end
end Dt
namespace Km
open Sx Go M Vc Dt
section
variable {p:Int} {n w:Nat} {A B:Mx} {col:Nat→Nat} {k c:Nat}
theorem pj (B:Mx) (k:Nat):sw B k k=B:=by
 funext r c; unfold sw; split
 ·rename_i h; rw [h]
 ·rfl
theorem Rq.sw3 {t:Nat} (hk:k < n) (ht:t < n) {f:Int} (hf:Cg p (sw B k t k c*f) 1):Rq p n w B (St3 p n (sw B k t) k c f):=by
 refine (Rq.sw B hk ht).trans ((Rq.step (Dt.sw B k t) hk hf fun r=>-(Dt.sw B k t r c)).trans (Rq.cg fun r j hr _=>(St3.cg hr).symm))
theorem det_next {t:Nat} (hk:k < n) (ht:t < n) {f d q:Int} (hf:Cg p (sw B k t k c*f) 1) (hd:Cg p d (q*det n B)):Cg p d (((if t=k then q else -q)*sw B k t k c)*det n (St3 p n (sw B k t) k c f)):=by
 have h1:Cg p (det n (St3 p n (sw B k t) k c f)) (f*det n (sw B k t)):=by
  rw [← mE (Dt.sw B k t) hk f (fun r=>-(Dt.sw B k t r c))]
  exact Cg.det fun r j hr _=>St3.cg hr
 have h2:(if t=k then q else -q)*det n (sw B k t)=q*det n B:=by
  split
  ·rename_i e; subst e; rw [pj]
  ·rename_i e
   rw [(L9 n).swap hk ht A0 B,Int.neg_mul_neg]
 have h3:Cg p (((if t=k then q else -q)*sw B k t k c)*det n (St3 p n (sw B k t) k c f)) (q*det n B):=by
  refine ((Cg.refl p _).mul h1).trans ?_
  have e:(if t=k then q else -q)*sw B k t k c*(f*det n (sw B k t))=(sw B k t k c*f)*((if t=k then q else -q)*det n (sw B k t)):=by grind
  rw [e,h2]
  have:=hf.mul (Cg.refl p (q*det n B))
  rwa [M4] at this
 exact hd.trans h3.symm
end
def Pv (l:LI) (k:Nat) (col:Nat→Nat):Prop:=l.length=k∧∀ s,s < k→l[s]?=some (col s:Int)
theorem Pv.push {l:LI} {k c:Nat} {col:Nat→Nat} (h:Pv l k col):Pv (l++[(c:Int)]) (k+1) (fun s=>if s=k then c else col s):=by
 refine ⟨by simp [h.1],fun s hs=>?_⟩
 by_cases e:s=k
 ·subst e; simp only [if_true]; rw [X5 (by rw [h.1]; omega),h.1,E6]; rfl
 ·rw [Q5 (by rw [h.1]; omega),h.2 s A0]; simp only [e,if_false]
theorem Tb.drop {n w:Nat} {T:L2} {A:Mx} (h:Tb T n w A) (k:Nat) (hk:k≤n):Tb ((T.take n).drop k) (n - k) w (fun r=>A (k+r)):=by
 refine ⟨by rw [U9,B4,h.1]; omega,fun r hr=>?_⟩
 obtain ⟨l,h1,h2⟩:=h.2 (k+r) A0
 exact ⟨l,by rw [V9,H6,C0]; exact h1,h2⟩
def Ech (p:Int) (n w:Nat) (A:Mx) (o:L2×LI×Int) (k:Nat) (B:Mx) (col:Nat→Nat) (c:Nat):Prop:=
 Tb o.1 n w B∧Rre p n w B col k c∧Rq p n w A B∧Pv o.2.1 k col∧(0≤o.2.2∧o.2.2 < p)∧Cg p (det n A) (o.2.2*det n B)∧∃ u,Cg p (o.2.2*u) 1
theorem YD {p:Int} (hP:PP p) {n w:Nat} (hn:0 < n) (jB:n≤1000) (hw:w≤1000) {T:L2} {A:Mx} (hT:Tb T n w A) (hA:∀ r j,r < n→j < w→0≤A r j∧A r j < p):
  Ret (m_gu T p) (fun o=>∃ k B col,Ech p n w A o k B col w):=by
 have hp:=hP.two
 have hm:=hP.max
 unfold m_gu m_f4
 rw [J0,O0,hT.1]
 refine ⟨fun h=>absurd h A0,fun _=>?_⟩
 rw [J0]
 have hg:=hT.get hn (Q:=fun l=>l.length=w) (fun l _ hl=>hl.1)
 refine hg.mono fun l0 PH=>?_
 rw [U2,PH]
 refine Zw (Q0 (Post:=fun o=>∃ k B col,Ech p n w A o k B col w) w (fun c (s:L2×LI×Int×Int)=>s.2.2.2=(c:Int)∧∃ k B col,Ech p n w A (s.1,s.2.1,s.2.2.1) k B col c) ⟨rfl,0,A,fun _=>0,hT,⟨A0,A0,fun s h=>absurd h A0,fun s t h1 h2=>absurd h2 A0,fun s r h=>absurd h A0,fun r j _ _ h=>absurd h A0,hA,fun s j h=>absurd h A0⟩,Rq.refl _ _ _ _,⟨rfl,fun s h=>absurd h A0⟩,⟨by show (0:Int)≤1; omega,by show (1:Int) < p; omega⟩,⟨by show Cg p _ (1*_); rw [M4]; exact .refl _ _,1,.refl _ _⟩⟩ ?_ A0) ?_
 ·rintro c ⟨T',pv,q,_⟩ aA ⟨rfl,k,B,col,h1,h2,h3,h4,h5,h6⟩
  simp only at h1 h4 h5 h6
  unfold m_gt m_go
  simp only
  have px:=h2.kn
  rw [O0]
  refine ⟨fun hlt=>?_,fun tx=>⟨_,rfl,k,B,col,h1,(by have e:c=w:=A0; subst e; exact h2),h3,h4,h5,h6⟩⟩
  have aA:c < w:=A0
  have nxt:wa .i64 (c:Int) 1=((c+1:Nat):Int):=by rw [U0 A0 A0]; rfl
  rw [O0,h4.1,h1.1]
  refine ⟨fun he=>⟨_,rfl,k,B,col,h1,(by have e:k=n:=A0; subst e; exact h2.full),h3,h4,h5,h6⟩,fun he=>?_⟩
  have px:k < n:=A0
  rw [J0,ic]
  refine ⟨A0,A0,by rw [h1.1]; omega,?_⟩
  rw [Z0,Z0]
  refine Zw (zD (h1.drop k A0) aA A0) fun i hi=>?_
  rw [U0 (by rcases hi with ⟨rfl,_⟩ | ⟨r,rfl,_⟩<;>omega) (by rcases hi with ⟨rfl,_⟩ | ⟨r,rfl,h,_⟩<;>omega)]
  rw [O0]
  refine ⟨fun Xz=>?_,fun Xz=>?_⟩
  ·obtain ⟨rfl,hz⟩:i= -1∧∀ r,r < n - k→B (k+r) c=0:=by
    rcases hi with h | ⟨r,rfl,_⟩
    ·exact h
    ·omega
   refine ⟨_,rfl,A0,nxt,k,B,col,h1,h2.none aA (fun r oI NG=>?_),h3,h4,h5,h6⟩
   have:=hz (r - k) A0
   rwa [show k+(r - k)=r by omega] at this
  ·obtain ⟨r,rfl,hr,kx⟩:∃ r:Nat,i=(r:Int)∧r < n - k∧B (k+r) c≠0:=by
    rcases hi with ⟨rfl,_⟩ | h
    ·omega
    ·exact h
   have key:∀ (T1:L2) (q1:Int),Tb T1 n w (sw B k (k+r))→(0≤q1∧q1 < p)→Cg p q1 (if k+r=k then q else -q)→
     Ret (m_gs pv (c:Int) p T1 q1) (VQ (fun t':L2×LI×Int×Int=>c < w∧t'.2.2.2=((c+1:Nat):Int)∧∃ k B col,Ech p n w A (t'.1,t'.2.1,t'.2.2.1) k B col (c+1)) (fun o=>∃ k B col,Ech p n w A o k B col w)):=by
    intro T1 q1 pK EH cM
    have UK:∀ r' j,r' < n→j < w→0≤sw B k (k+r) r' j∧sw B k (k+r) r' j < p:=by
     intro r' j dH hj
     unfold sw
     split
     ·exact h2.rng _ _ A0 hj
     ·split
      ·exact h2.rng _ _ px hj
      ·exact h2.rng _ _ dH hj
    have Wz:sw B k (k+r) k c=B (k+r) c:=by unfold sw; rw [M0 rfl]
    have hb:=UK k c px aA
    obtain ⟨f,xM,wM,vM⟩:=Ft hP (a:=sw B k (k+r) k c) ⟨by rw [Wz] at hb ⊢; omega,hb.2⟩
    have HL:Cg p (sw B k (k+r) k c*f) 1:=by
     have e1:(1:Int) % p=1:=X4 A0 A0
     exact Cg.iff.2 (by rw [vM,e1])
    unfold m_gs
    rw [h4.1,J0]; refine pK.get px fun l1 tI eH=>?_
    rw [J0]; refine eH.get aA ?_
    rw [wmr hm EH hb,obs,J0]; refine pK.get px fun l2 Px iI=>?_
    rw [J0]; refine iI.get aA ?_
    rw [xM,obs,J0]; refine pK.get px fun l3 NR yP=>?_
    refine Zw (Uz A0 hm pK px (fun j hj=>UK k j px hj) wM yP.1 h4.1 hw) fun T2 ML=>?_
    refine Zw (WD A0 hm ML px aA (fun r' j dH hj=>?_) ML.1 h4.1 hw jB) fun T3 RO=>?_
    ·by_cases e:r'=k
     ·subst e; rw [C2]; exact Q7 _ A0
     ·rw [J2 e]; exact UK r' j dH hj
    rw [J0,D2]
    have:=h2.kc
    refine ⟨by rw [h4.1]; simp only [I2,Y2]; omega,_,rfl,aA,nxt,k+1,_,_,RO,h2.next hp aA px A0 A0 vM,h3.trans (Rq.sw3 px A0 HL),h4.push,Q7 _ A0,?_,?_⟩
    ·refine (det_next px (show k+r < n by omega) HL h6.1).trans ?_
     refine Cg.mul ?_ (Cg.refl p _)
     exact ((cM.symm.mul (Cg.refl p _))).trans (Cg.mod p _).symm
    ·obtain ⟨u,hu⟩:=h6.2
     refine ⟨(if k+r=k then u else -u)*f,?_⟩
     have e1:Cg p (q1*(if k+r=k then u else -u)) 1:=by
      refine (cM.mul (Cg.refl p _)).trans ?_
      split
      ·exact hu
      ·rw [Int.neg_mul_neg]; exact hu
     have e2:=e1.mul HL
     rw [M4] at e2
     refine ((Cg.mod p _).mul (Cg.refl p _)).trans ?_
     have e3:q1*sw B k (k+r) k c*((if k+r=k then u else -u)*f)=q1*(if k+r=k then u else -u)*(sw B k (k+r) k c*f):=by grind
     show Cg p (q1*sw B k (k+r) k c*((if k+r=k then u else -u)*f)) 1
     rw [e3]; exact e2
   rw [O0]
   refine ⟨fun NK=>?_,fun NK=>?_⟩
   ·have DH:0 < r:=A0
    have ecast:(k:Int)+(r:Int)=((k+r:Nat):Int):=A0
    rw [ecast,J0]; refine h1.get (show k+r < n by omega) fun la sO ZK=>?_
    rw [J0]; refine h1.get px fun lk rO YK=>?_
    rw [J0,E4]
    refine ⟨A0,by rw [h1.1]; omega,?_⟩
    rw [J0,E4]
    refine ⟨A0,by rw [N3,h1.1]; omega,?_⟩
    rw [nc A0 hm,obs]
    refine key _ _ ?_ (Q7 _ A0) ?_
    ·rw [Z0,Z0]
     refine ((h1.set px ZK).set (show k+r < n by omega) YK).congr fun r' j _ _=>?_
     unfold sw up
     by_cases e1:r'=k
     ·rw [B0,M0 e1,M0 e1]
     ·by_cases e2:r'=k+r
      ·rw [M0 e2,K0 e1,M0 e2]
      ·rw [K0 e2,K0 e1,K0 e1,K0 e2]
    ·rw [B0]
     have:wneg .i64 q= -q:=IntWalk.i64_in _ ⟨A0,A0⟩
     rw [this]
     exact Cg.mod p _
   ·have DH:r=0:=A0
    subst DH
    refine key _ _ ?_ h5 ?_
    ·rw [T9,pj]; exact h1
    ·rw [M0 (T9 k)]; exact .refl _ _
 ·rintro ⟨T',pv,q⟩ h
  exact ⟨_,rfl,h⟩
end Km
namespace Dt
section
variable {p:Int} {n w:Nat} {B B':Mx} {col Zx:Nat→Nat} {k k':Nat}
theorem Rre.inj (h:Rre p n w B col k w):∀ s t,s < k→t < k→col s=col t→s=t:=by
 intro s t hs ht he
 rcases Hb s t with h1 | h1 | h1
 ·have:=h.asc s t h1 ht; omega
 ·exact h1
 ·have:=h.asc t s h1 hs; omega
theorem Rre.vec (h:Rre p n w B col k w) {fr:Nat} (eA:∀ s,s < k→col s≠fr):∃ v:Nat→Int,v fr=1∧(∀ s,s < k→v (col s)= - B s fr)∧∀ j,j≠fr→(∀ s,s < k→col s≠j)→v j=0:=by
 have hex:∀ j,∃ z:Int,(j=fr→z=1)∧(∀ s,s < k→col s=j→z= - B s fr)∧(j≠fr→(∀ s,s < k→col s≠j)→z=0):=by
  intro j
  by_cases h1:j=fr
  ·exact ⟨1,fun _=>rfl,fun s hs he=>absurd (he.trans h1) (eA s hs),fun h2=>absurd h1 h2⟩
  ·by_cases h2:∃ s,s < k∧col s=j
   ·obtain ⟨s,hs,he⟩:=h2
    exact ⟨- B s fr,fun e=>absurd e h1,fun t ht EN=>by rw [h.inj s t hs ht (he.trans EN.symm)],fun _ h3=>absurd he (h3 s hs)⟩
   ·exact ⟨0,fun e=>absurd e h1,fun t ht EN=>absurd ⟨t,ht,EN⟩ h2,fun _ _=>rfl⟩
 refine ⟨fun j=>Classical.choose (hex j),(Pb (hex fr)).1 rfl,fun s hs=>(Pb (hex (col s))).2.1 s hs rfl,fun j h1 h2=>(Pb (hex j)).2.2 h1 h2⟩
theorem Rre.free (hp:2≤p) (h:Rre p n w B col k w) (h':Rre p n w B' Zx k' w) (hN:∀ x,Nl p n w B x→Nl p n w B' x) {fr:Nat} (nH:fr < w) (eA:∀ s,s < k→col s≠fr):∀ s,s < k'→Zx s≠fr:=by
 intro s hs he
 obtain ⟨v,v1,v2,v3⟩:=h.vec eA
 have h1:=hN v (h.kernel nH eA v1 (fun s hs=>by rw [v2 s hs]; exact .refl _ _) (fun j _ hj hn=>v3 j hj hn)) s (by have:=h'.kn; omega)
 have e:sm w (fun c=>B' s c*v c)=sm w (fun c=>if c=fr then (fun _=>(1:Int)) c else 0):=W0 fun c hc=>by
  rcases Hb c fr with h2 | h2 | h2
  ·rw [h'.lead s c hs A0,V3,B0]
  ·subst h2
   have:=h'.unit s s hs (by have:=h'.kn; omega)
   rw [he,M0 rfl] at this
   rw [this,v1,M0 rfl]; rfl
  ·have hv:v c=0:=by
    by_cases h3:∃ t,t < k∧col t=c
    ·obtain ⟨t,ht,TD⟩:=h3
     rw [← TD,v2 t ht,h.lead t fr ht A0]; rfl
    ·exact v3 c A0 fun t ht TD=>h3 ⟨t,ht,TD⟩
   rw [hv,Q3,B0]
 rw [e,L4 (f:=fun _=>(1:Int)) nH] at h1
 have:=Cg.zero.1 h1
 rw [X4 A0 A0] at this
 omega
theorem Rre.enum (h:Rre p n w B col k w) (h':Rre p n w B' Zx k' w) (h1:∀ s,s < k→∃ t,t < k'∧Zx t=col s) (h2:∀ s,s < k'→∃ t,t < k∧col t=Zx s):∀ s,s < k→s < k'∧col s=Zx s:=by
 intro s
 induction s using Nat.strongRecOn with
 | ind s ih=>
  intro hs
  obtain ⟨t,ht,he⟩:=h1 s hs
  have CG:s≤t:=by
   refine H1 fun hc=>?_
   have h3:=(ih t A0 A0).2
   have:=h.asc t s A0 hs
   omega
  have XH:s < k':=A0
  obtain ⟨u,hu,GT⟩:=h2 s XH
  have hus:s≤u:=by
   refine H1 fun hc=>?_
   have h3:=(ih u A0 hu).2
   have:=h'.asc u s A0 XH
   omega
  refine ⟨XH,?_⟩
  have a1:col s≤col u:=by
   rcases Pa s u with h3 | h3
   ·have:=h.asc s u h3 hu; omega
   ·have:s=u:=A0
    rw [this]; exact H2 _
  have a2:Zx s≤Zx t:=by
   rcases Pa s t with h3 | h3
   ·have:=h'.asc s t h3 ht; omega
   ·have:s=t:=A0
    rw [this]; exact H2 _
  omega
theorem Rre.uniq (hp:2≤p) (h:Rre p n w B col k w) (h':Rre p n w B' Zx k' w) (hN:Rq p n w B B'):k=k'∧(∀ s,s < k→col s=Zx s)∧∀ r c,r < n→c < w→B r c=B' r c:=by
 have f1:∀ s,s < k→∃ t,t < k'∧Zx t=col s:=fun s hs=>H1 fun hc=>h'.free hp h (fun x=>(hN x).2) (h.lt s hs) (fun t ht he=>hc ⟨t,ht,he⟩) s hs rfl
 have f2:∀ s,s < k'→∃ t,t < k∧col t=Zx s:=fun s hs=>H1 fun hc=>h.free hp h' (fun x=>(hN x).1) (h'.lt s hs) (fun t ht he=>hc ⟨t,ht,he⟩) s hs rfl
 have e1:=h.enum h' f1 f2
 have e2:=h'.enum h f2 f1
 have hk:k=k':=by
  rcases Hb k k' with h3 | h3 | h3
  ·have:=(e2 k h3).1; omega
  ·exact h3
  ·have:=(e1 k' h3).1; omega
 refine ⟨hk,fun s hs=>(e1 s hs).2,fun r c hr hc=>?_⟩
 rcases Pa r k with h3 | h3
 ·by_cases Wz:∃ s,s < k∧col s=c
  ·obtain ⟨s,hs,rfl⟩:=Wz
   rw [h.unit s r hs hr,(e1 s hs).2,h'.unit s r A0 hr]
  ·have eA:∀ s,s < k→col s≠c:=fun s hs he=>Wz ⟨s,hs,he⟩
   obtain ⟨v,v1,v2,v3⟩:=h.vec eA
   have h4:=(hN v).1 (h.kernel hc eA v1 (fun s hs=>by rw [v2 s hs]; exact .refl _ _) (fun j _ hj hn=>v3 j hj hn)) r hr
   have e:sm w (fun j=>B' r j*v j)=sm w (fun j=>if j=c then (fun _=>B' r c) j else 0)+sm w (fun j=>if j=col r then (fun _=>- B r c) j else 0):=by
    rw [← G7]
    refine W0 fun j hj=>?_
    by_cases h5:j=c
    ·subst h5
     rw [M0 rfl,K0 (fun e=>eA r h3 e.symm),v1]; simp
    ·rw [K0 h5]
     by_cases h6:∃ s,s < k∧col s=j
     ·obtain ⟨s,hs,he⟩:=h6
      have hu:=h'.unit s r A0 hr
      rw [← (e1 s hs).2,he] at hu
      rw [hu]
      by_cases h7:r=s
      ·subst h7; rw [M0 rfl,M0 he.symm,← he,v2 r hs]; simp
      ·rw [K0 h7,K0 (fun e=>h7 (h.inj r s h3 hs (e.symm.trans he.symm)))]; simp
     ·rw [v3 j h5 fun s hs he=>h6 ⟨s,hs,he⟩,K0 (fun e=>h6 ⟨r,h3,e.symm⟩)]; simp
   rw [e,L4 (f:=fun _=>B' r c) hc,L4 (f:=fun _=>- B r c) (h.lt r h3)] at h4
   have h8:=h4.add (Cg.refl p (B r c))
   rw [Mh] at h8
   have e9:B' r c+ -B r c+B r c=B' r c:=A0
   rw [e9] at h8
   exact (h8.eq (h'.rng r c hr hc) (h.rng r c hr hc)).symm
 ·rw [h.zero r c h3 hr hc,h'.zero r c A0 hr hc]
end
end Dt
namespace Km
open Sx Go M Vc Dt
theorem sqd {i:Int} (h2:2≤i) (h3:i≤46342):0≤i*i∧i*i≤46342*46342:=⟨O3 A0 A0,K8 h3 h3 A0 A0⟩
theorem Et {p:Int} (hP:PP p):m_fs p=some true:=by
 have hp:=hP.two
 have hm:=hP.max
 refine Ret.eq ?_
 unfold m_fs
 rw [O0]
 refine ⟨fun h=>?_,fun _=>?_⟩
 ·simp only [H5,decide_eq_true_eq] at h; omega
 ·refine Zw (we (Post:=fun o=>o=.inl ()) (fun i=>2≤i∧i≤46342) (fun i=>(46342 - i).toNat) (by decide) (by decide) ?_) ?_
  ·rintro i ⟨h2,h3⟩
   obtain ⟨h4,h5⟩:=sqd h2 h3
   unfold m_fr
   rw [Z9 A0 A0]
   split
   ·rename_i hle
    have h6:i≤46341:=by
     refine H1 fun hc=>?_
     obtain rfl:i=46342:=A0
     omega
    rw [Vb A0 A0,obs]
    split
    ·rename_i h0
     exfalso
     have hd:i ∣ p:=km h0
     obtain ⟨P,rfl⟩:=W4 (show 0≤p by omega)
     obtain ⟨I,rfl⟩:=W4 (show 0≤i by omega)
     have HO:I ∣ P:=by exact_mod_cast hd
     have:=hP.prm.div I (by simpa using HO)
     rw [Z0] at this
     rcases this with e | e
     ·omega
     ·subst e
      have:(I:Int)*2≤(I:Int)*(I:Int):=K3 A0 A0
      omega
    ·refine ⟨_,rfl,?_⟩
     rw [U0 A0 A0]
     exact ⟨⟨A0,A0⟩,by show (46342 - (i+1)).toNat < (46342 - i).toNat; omega⟩
   ·exact ⟨_,rfl,rfl⟩
  ·rintro _ rfl
   exact ⟨_,rfl,rfl⟩
section
variable {p:Int} {n w:Nat} {T:L2} {X:Mx}
theorem Ok (hn:0 < n) (hT:Tb T n w X):m_f4 T=some (w:Int):=by
 refine Ret.eq ?_
 unfold m_f4
 rw [O0,hT.1]
 refine ⟨fun h=>absurd h A0,fun _=>?_⟩
 refine Zw (hT.get hn (Q:=fun l=>l.length=w) (fun l _ hl=>hl.1)) fun l hl=>?_
 rw [U2,hl]
theorem Mu (hP:PP p) (hn:0 < n) (jB:n≤200) (hw:w≤200) (hT:Tb T n w X):m_f9 T p=some 0:=by
 refine Ret.eq ?_
 unfold m_f9
 rw [Ok hn hT,obs,Et hP,obs,M0 rfl,J0]
 have hc:m_f8 T (w:Int)=some false:=by
  refine Ret.eq ?_
  unfold m_f8 m_f7
  rw [J0]
  refine Zw (Q0 (Post:=fun o=>o=.inl ()) n (fun k (i:Int)=>i=(k:Int)) rfl ?_ A0) ?_
  ·rintro k _ hk rfl
   unfold m_f6 m_f5
   rw [O0,hT.1]
   refine ⟨fun hlt=>?_,fun _=>⟨_,rfl,rfl⟩⟩
   rw [J0]; refine hT.get (show k < n by omega) fun l _ hl=>?_
   rw [obs,hl.1,K0 H0]
   exact ⟨_,rfl,A0,by rw [U0 A0 A0]; rfl⟩
  ·rintro _ rfl
   exact ⟨_,rfl,_,rfl,rfl⟩
 rw [xA hc,K0 H0,hT.1,K0 (by simp; omega),U2]
theorem GA (hp:0 < p) (hm:p≤2147483647) (jB:n≤1000) (hw:w≤1000) (hT:Tb T n w X):Ret (m_ge T p) (fun R=>Tb R n w (fun r c=>X r c % p)):=by
 unfold m_ge
 refine Zw (Q0 (Post:=fun R=>Tb R n w (fun r c=>X r c % p)) n (fun k (s:L2×Int)=>s.2=(k:Int)∧Tb s.1 k w (fun r c=>X r c % p)) ⟨rfl,rfl,fun r h=>absurd h A0⟩ ?_ A0) fun R h=>⟨_,rfl,h⟩
 rintro k ⟨R,_⟩ hk ⟨rfl,h⟩
 unfold m_gd
 simp only at h ⊢
 rw [O0,hT.1]
 refine ⟨fun hlt=>?_,fun _=>⟨_,rfl,by show Tb R n w _; have:k=n:=A0; exact this▸h⟩⟩
 have px:k < n:=A0
 rw [J0]; refine hT.get px fun l _ hl=>?_
 refine Zw (Q0 (Post:=fun o=>Ln o w (fun c=>X k c % p)) w (fun j (s:LI×Int)=>s.2=(j:Int)∧Ln s.1 j (fun c=>X k c % p)) ⟨rfl,rfl,fun c h=>absurd h A0⟩ ?_ A0) fun o ho=>?_
 ·rintro j ⟨o,_⟩ hj ⟨rfl,ho⟩
  unfold m_gc
  simp only at ho ⊢
  rw [O0,hl.1]
  refine ⟨fun hlt=>?_,fun _=>⟨_,rfl,by show Ln o w _; have:j=w:=A0; exact this▸ho⟩⟩
  rw [J0]; refine hl.get (show j < w by omega) ?_
  rw [nc hp hm,obs,J0,D2]
  refine ⟨by rw [ho.1]; simp only [I2,Y2]; omega,_,rfl,A0,Xw,by show (o++[_]).length=j+1; rw [Q1,ho.1]; rfl,fun c hc=>?_⟩
  show (o++[X k j % p])[c]?=_
  by_cases e:c=j
  ·subst e; rw [X5 (by rw [ho.1]; omega),ho.1,E6]; rfl
  ·rw [Q5 (by rw [ho.1]; omega),ho.2 c A0]
 ·rw [J0,D2]
  refine ⟨by rw [h.1]; simp only [I2,Y2]; omega,_,rfl,A0,Xw,by show (R++[_]).length=k+1; rw [Q1,h.1]; rfl,fun r hr=>?_⟩
  show ∃ l,(R++[o])[r]?=some l∧_
  by_cases e:r=k
  ·subst e; exact ⟨o,by rw [X5 (by rw [h.1]; omega),h.1,E6]; rfl,ho⟩
  ·obtain ⟨l,h1,h2⟩:=h.2 r A0
   exact ⟨l,by rw [Q5 (by rw [h.1]; omega)]; exact h1,h2⟩
def Rd (p:Int) (X:Mx):Mx:=fun r c=>X r c % p
theorem wu (hP:PP p) (hn:0 < n) (jB:n≤200) (hw:w≤201) (hT:Tb T n w X):∃ R o,m_ge T p=some R∧Tb R n w (Rd p X)∧m_gu R p=some o∧∃ k B col,Ech p n w (Rd p X) o k B col w:=by
 have hp:=hP.two
 obtain ⟨R,h1,h2⟩:=GA (p:=p) A0 hP.max A0 A0 hT
 obtain ⟨o,h3,h4⟩:=YD hP hn A0 A0 h2 fun r j _ _=>Q7 _ A0
 exact ⟨R,o,h1,h2,h3,h4⟩
theorem Dj (hP:PP p) (hn:0 < n) (jB:n≤200) (hw:w≤200) (hT:Tb T n w X) {R:L2} {o:L2×LI×Int} (hR:m_ge T p=some R) (hE:m_gu R p=some o):m_gv T p=some ((o.2.1.length:Int),0):=by
 unfold m_gv
 rw [Mu hP hn jB hw hT,obs,M0 rfl,hR,obs,hE,obs]
end
section
variable {p:Int} {n w:Nat}
theorem BA:m_jm=m_gj:=rfl
theorem CA {a:Int} (hP:PP p) (ha:0≤a∧a < p):m_jo a p=m_gl a p:=by
 unfold m_jo m_jn m_gl m_gk
 have:=hP.two
 rw [BA,qg,nc A0 hP.max,obs,X4 ha.1 ha.2]
theorem Vz (hp:0 < p) (hm:p≤2147483647) {T:L2} {A:Mx} (hT:Tb T n w A) {k:Nat} (hk:k < n) (hr:∀ c,c < w→0≤A k c∧A k c < p) {f:Int} (hf:0≤f∧f < p) {piv:LI} (h2:piv.length=k) (hw:w≤1000):
  Ret (loop (m_js piv f p) (T,0)) (fun T'=>Tb T' n w (up A k (fun j=>A k j*f % p))):=by
 refine Q0 w (fun m (s:L2×Int)=>s.2=(m:Int)∧Tb s.1 n w (up A k (fun j=>if j < m then A k j*f % p else A k j))) ⟨rfl,hT.congr fun r c hr hc=>?_⟩ ?_ A0
 ·by_cases e:r=k
  ·subst e; rw [C2,B0]
  ·rw [J2 e]
 ·rintro m ⟨T',_⟩ jH ⟨rfl,h⟩
  unfold m_js
  simp only at h ⊢
  rw [J0,h2]; refine h.get hk fun l0 _ PH=>?_
  rw [O0,PH.1]
  refine ⟨fun hlt=>?_,fun tx=>⟨_,rfl,?_⟩⟩
  ·have jH:m < w:=A0
   rw [J0]; refine h.get hk fun l tI Px=>?_
   rw [J0]; refine h.get hk fun l' eH iI=>?_
   obtain rfl:=N2 (tI.symm.trans eH)
   rw [J0]; refine Px.get jH ?_
   rw [C2,B0,wmr hm (hr m jH) hf,obs,J0,E4]
   refine ⟨A0,by rw [Px.1]; omega,?_⟩
   rw [J0,E4]
   refine ⟨A0,by rw [h.1]; omega,_,rfl,?_⟩
   refine ⟨A0,by show wa .i64 (m:Int) 1=_; rw [U0 A0 A0]; omega,?_⟩
   show Tb (T'.set (k:Int).toNat (l.set (m:Int).toNat _)) n w _
   rw [Z0,Z0]
   refine (h.set hk (Px.set jH _)).congr fun r c hr hc=>?_
   by_cases e:r=k
   ·subst e
    rw [C2,C2]
    by_cases e2:c=m
    ·subst e2; rw [M0 rfl,C2,C0]
    ·rw [K0 e2,C2]
     by_cases e3:c < m
     ·rw [M0 e3,C0]
     ·rw [K0 e3,B0]
   ·rw [J2 e,J2 e,J2 e]
  ·show Tb T' n w _
   refine h.congr fun r c hr hc=>?_
   by_cases e:r=k
   ·subst e; rw [C2,C2,C0]
   ·rw [J2 e,J2 e]
theorem nA (hp:0 < p) (hm:p≤2147483647) {T:L2} {A:Mx} (hT:Tb T n w A) {k i:Nat} (hk:k < n) (hi:i < n) (hr:∀ r j,r < n→j < w→0≤A r j∧A r j < p) {x:Int} (hx:0≤x∧x < p) {piv:LI} (h2:piv.length=k) (hw:w≤1000):
  Ret (loop (m_jq (i:Int) piv x p) (T,0)) (fun T'=>Tb T' n w (if i=k then A else up A i (fun j=>(A i j - x*A k j) % p))):=by
 refine Q0 w (fun m (s:L2×Int)=>s.2=(m:Int)∧Tb s.1 n w (if i=k then A else up A i (fun j=>if j < m then (A i j - x*A k j) % p else A i j))) ⟨rfl,hT.congr fun r c hr hc=>?_⟩ ?_ A0
 ·split
  ·rfl
  ·by_cases e:r=i
   ·subst e; rw [C2,B0]
   ·rw [J2 e]
 ·rintro m ⟨T',_⟩ jH ⟨rfl,h⟩
  unfold m_jq
  simp only at h ⊢
  rw [J0,h2]; refine h.get hi fun l0 _ PH=>?_
  rw [O0,PH.1]
  refine ⟨fun hc=>?_,fun hc=>⟨_,rfl,?_⟩⟩
  ·simp only [w4,decide_eq_true_eq,B7,decide_eq_false_iff_not] at hc
   have jH:m < w:=A0
   have Pz:i≠k:=A0
   rw [K0 Pz] at h
   rw [J0]; refine h.get hi fun l tI Px=>?_
   rw [J0]; refine h.get hi fun l' eH iI=>?_
   obtain rfl:=N2 (tI.symm.trans eH)
   rw [J0]; refine Px.get jH ?_
   rw [J0]; refine h.get hk fun lk _ rO=>?_
   rw [J0]; refine rO.get jH ?_
   rw [C2,B0,J2 (Ne.symm Pz),wmr hm hx (hr k m hk jH),obs]
   have h5:=Q7 (x*A k m) hp
   have h6:=hr i m hi jH
   rw [C3 A0 A0,qg,nc hp hm,obs,J0,E4]
   refine ⟨A0,by rw [Px.1]; omega,?_⟩
   rw [J0,E4]
   refine ⟨A0,by rw [h.1]; omega,_,rfl,?_⟩
   refine ⟨A0,by show wa .i64 (m:Int) 1=_; rw [U0 A0 A0]; omega,?_⟩
   show Tb (T'.set (i:Int).toNat (l.set (m:Int).toNat _)) n w _
   rw [Z0,Z0,K0 Pz]
   refine (h.set hi (Px.set jH _)).congr fun r c hr hc=>?_
   by_cases e:r=i
   ·subst e
    rw [C2,C2]
    by_cases e2:c=m
    ·subst e2; rw [M0 rfl,C2,C0,Uq]
    ·rw [K0 e2,C2]
     by_cases e3:c < m
     ·rw [M0 e3,C0]
     ·rw [K0 e3,B0]
   ·rw [J2 e,J2 e,J2 e]
  ·show Tb T' n w _
   by_cases Pz:i=k
   ·rw [M0 Pz] at h ⊢; exact h
   ·rw [K0 Pz] at h ⊢
    simp only [w4,decide_eq_true_eq,B7,decide_eq_false_iff_not,not_and,Decidable.not_not] at hc
    refine h.congr fun r c hr TD=>?_
    by_cases e:r=i
    ·subst e
     rw [C2,C2,M0]
     refine H1 fun OK=>?_
     have:=hc A0
     omega
    ·rw [J2 e,J2 e]
theorem XD (hp:0 < p) (hm:p≤2147483647) {T:L2} {A:Mx} (hT:Tb T n w A) {k c:Nat} (hk:k < n) (hc:c < w) (hr:∀ r j,r < n→j < w→0≤A r j∧A r j < p) {piv:LI} (h2:piv.length=k) (hw:w≤1000) (hn:n≤1000):
  Ret (loop (m_jr (c:Int) piv p) (T,0)) (fun T'=>Tb T' n w (Em p A k c n)):=by
 refine Q0 n (fun m (s:L2×Int)=>s.2=(m:Int)∧Tb s.1 n w (Em p A k c m)) ⟨rfl,hT.congr fun r j hr hc=>?_⟩ ?_ A0
 ·unfold Em; rw [B0]
 ·rintro m ⟨T',_⟩ jH ⟨rfl,h⟩
  unfold m_jr
  simp only at h ⊢
  rw [O0,h.1]
  refine ⟨fun hlt=>?_,fun tx=>⟨_,rfl,?_⟩⟩
  ·have qI:m < n:=A0
   have nxt:wa .i64 (m:Int) 1=((m+1:Nat):Int):=by rw [U0 A0 A0]; rfl
   have Emm:Em p A k c m m=A m:=by funext j; unfold Em; rw [B0]
   have Emk:Em p A k c m k=A k:=by funext j; unfold Em; rw [B0]
   have hE:∀ r j,r < n→j < w→0≤Em p A k c m r j∧Em p A k c m r j < p:=by
    intro r j h3 h4
    unfold Em
    split
    ·exact Q7 _ hp
    ·exact hr r j h3 h4
   rw [J0]; refine h.get qI fun l tI Px=>?_
   rw [Emm] at Px
   rw [J0]; refine Px.get hc ?_
   refine Zw (nA hp hm h hk qI hE (hr m c qI hc) h2 hw) fun T2 ML=>⟨_,rfl,A0,nxt,?_⟩
   refine ML.congr fun r j dH hj=>?_
   by_cases e:m=k
   ·rw [M0 e]; unfold Em
    by_cases e2:r≠k∧r < m
    ·rw [M0 e2,C0]
    ·rw [K0 e2,B0]
   ·rw [K0 e,Emm,Emk]
    by_cases e3:r=m
    ·subst e3; rw [C2]; unfold Em; rw [M0 ⟨e,A0⟩]
    ·rw [J2 e3]; unfold Em
     by_cases e2:r≠k∧r < m
     ·rw [M0 e2,C0]
     ·rw [K0 e2,B0]
  ·show Tb T' n w _
   refine h.congr fun r j hr hc=>?_
   unfold Em
   by_cases e:r≠k∧r < m
   ·rw [M0 e,C0]
   ·rw [K0 e,B0]
theorem AD {T:L2} {A:Mx} (hT:Tb T n w A) {c k:Nat} (hc:c < w) (hk:k≤n) (hn:n≤1000):
  Ret (loop (m_ju T (c:Int)) (k:Int)) (fun i=>∃ r:Nat,i=(r:Int)∧k≤r∧((r=n∧∀ r,k≤r→r < n→A r c=0)∨(r < n∧A r c≠0))):=by
 refine Q0 (n - k) (fun m (i:Int)=>i=((k+m:Nat):Int)∧∀ r,k≤r→r < k+m→A r c=0) ⟨rfl,fun r h1 h2=>absurd h1 A0⟩ ?_ A0
 rintro m _ hm ⟨rfl,h0⟩
 unfold m_ju
 rw [J0,O0,hT.1]
 refine ⟨fun hlt=>?_,fun tx=>?_⟩
 ·have px:k+m < n:=A0
  rw [J0]; refine hT.get px fun l _ hl=>?_
  rw [J0]; refine hl.get hc ?_
  rw [U2,O0]
  refine ⟨fun hz=>?_,fun hz=>?_⟩
  ·have hz:A (k+m) c=0:=by simpa using hz
   refine ⟨_,rfl,A0,by rw [U0 A0 A0]; omega,fun r h1 h2=>?_⟩
   by_cases e:r=k+m
   ·rw [e]; exact hz
   ·exact h0 r h1 A0
  ·exact ⟨_,rfl,k+m,rfl,A0,.inr ⟨px,by simpa using hz⟩⟩
 ·rw [U2,K0 H0]
  exact ⟨_,rfl,k+m,rfl,A0,.inl ⟨A0,fun r h1 h2=>h0 r h1 A0⟩⟩
def EchR (p:Int) (n w:Nat) (A:Mx) (o:L2×LI×Int) (k:Nat) (B:Mx) (col:Nat→Nat) (c:Nat):Prop:=
 Tb o.1 n w B∧Rre p n w B col k c∧Rq p n w A B∧Pv o.2.1 k col∧(0≤o.2.2∧o.2.2 < p)∧(k=c→Cg p (det n A) (o.2.2*det n B))
theorem zE {T:L2} {X:Mx} (hn:0 < n) (hT:Tb T n w X):m_jk T=some (w:Int):=Ok hn hT
theorem IA (hp:0 < p) (hm:p≤2147483647) (jB:n≤1000) (hw:w≤1000) {T:L2} {X:Mx} (hT:Tb T n w X):Ret (loop (m_jx T p) ([],0)) (fun R=>Tb R n w (Rd p X)):=by
 refine Q0 n (fun k (s:L2×Int)=>s.2=(k:Int)∧Tb s.1 k w (Rd p X)) ⟨rfl,rfl,fun r h=>absurd h A0⟩ ?_ A0
 rintro k ⟨R,_⟩ hk ⟨rfl,h⟩
 unfold m_jx
 simp only at h ⊢
 rw [O0,hT.1]
 refine ⟨fun hlt=>?_,fun _=>⟨_,rfl,by show Tb R n w _; have:k=n:=A0; exact this▸h⟩⟩
 have px:k < n:=A0
 refine Zw (Q0 (Post:=fun o=>Ln o w (Rd p X k)) w (fun j (s:LI×Int)=>s.2=(j:Int)∧Ln s.1 j (Rd p X k)) ⟨rfl,rfl,fun c h=>absurd h A0⟩ ?_ A0) fun o ho=>?_
 ·rintro j ⟨o,_⟩ hj ⟨rfl,ho⟩
  unfold m_jw
  simp only at ho ⊢
  rw [J0]; refine hT.get px fun l0 _ PH=>?_
  rw [O0,PH.1]
  refine ⟨fun hlt=>?_,fun _=>⟨_,rfl,by show Ln o w _; have:j=w:=A0; exact this▸ho⟩⟩
  rw [J0]; refine hT.get px fun l _ hl=>?_
  rw [J0]; refine hl.get (show j < w by omega) ?_
  rw [qg,nc hp hm,obs,J0,D2]
  refine ⟨by rw [ho.1]; simp only [I2,Y2]; omega,_,rfl,A0,Xw,by show (o++[_]).length=j+1; rw [Q1,ho.1]; rfl,fun c hc=>?_⟩
  show (o++[X k j % p])[c]?=_
  by_cases e:c=j
  ·subst e; rw [X5 (by rw [ho.1]; omega),ho.1,E6]; rfl
  ·rw [Q5 (by rw [ho.1]; omega),ho.2 c A0]
 ·rw [J0,D2]
  refine ⟨by rw [h.1]; simp only [I2,Y2]; omega,_,rfl,A0,Xw,by show (R++[_]).length=k+1; rw [Q1,h.1]; rfl,fun r hr=>?_⟩
  show ∃ l,(R++[o])[r]?=some l∧_
  by_cases e:r=k
  ·subst e; exact ⟨o,by rw [X5 (by rw [h.1]; omega),h.1,E6]; rfl,ho⟩
  ·obtain ⟨l,h1,h2⟩:=h.2 r A0
   exact ⟨l,by rw [Q5 (by rw [h.1]; omega)]; exact h1,h2⟩
end
theorem xu {p:Int} (hP:PP p) {n w:Nat} (hn:0 < n) (jB:n≤1000) (hw:w≤1000) {T:L2} {X:Mx} (hT:Tb T n w X):
  Ret (m_jy T p) (fun o=>∃ k B col,EchR p n w (Rd p X) o k B col w):=by
 have hp:=hP.two
 have hm:=hP.max
 unfold m_jy
 refine Zw (IA (p:=p) A0 hm jB hw hT) fun R hR=>?_
 have hA:∀ r j,r < n→j < w→0≤Rd p X r j∧Rd p X r j < p:=fun r j _ _=>Q7 _ A0
 generalize Rd p X=A at hR hA
 rw [Vb A0 A0,obs,X4 A0 A0]
 refine Zw (Q0 (Post:=fun s:L2×Int×LI=>∃ k B col,EchR p n w A (s.1,s.2.2,s.2.1) k B col w) w (fun c (s:L2×Int×LI×Int)=>s.2.2.2=(c:Int)∧∃ k B col,EchR p n w A (s.1,s.2.2.1,s.2.1) k B col c) ⟨rfl,0,A,fun _=>0,hR,⟨A0,A0,fun s h=>absurd h A0,fun s t h1 h2=>absurd h2 A0,fun s r h=>absurd h A0,fun r j _ _ h=>absurd h A0,hA,fun s j h=>absurd h A0⟩,Rq.refl _ _ _ _,⟨rfl,fun s h=>absurd h A0⟩,⟨by show (0:Int)≤1; omega,by show (1:Int) < p; omega⟩,fun _=>by show Cg p _ (1*_); rw [M4]; exact .refl _ _⟩ ?_ A0) ?_
 ·rintro c ⟨T',q,pv,_⟩ aA ⟨rfl,k,B,col,h1,h2,h3,h4,h5,h6⟩
  simp only at h1 h4 h5 h6
  unfold m_jv m_jp
  simp only
  have px:=h2.kn
  rw [zE hn hT,obs,O0]
  refine ⟨fun hlt=>?_,fun tx=>⟨_,rfl,k,B,col,h1,(by have e:c=w:=A0; subst e; exact h2),h3,h4,h5,(by have e:c=w:=A0; subst e; exact h6)⟩⟩
  have aA:c < w:=A0
  have nxt:wa .i64 (c:Int) 1=((c+1:Nat):Int):=by rw [U0 A0 A0]; rfl
  rw [J0,h4.1]
  refine (AD h1 aA px A0).mono fun i hi=>?_
  obtain ⟨t,rfl,LK,hi⟩:=hi
  rw [O0,h1.1]
  refine ⟨fun he=>?_,fun he=>?_⟩
  ·have hz:∀ r,k≤r→r < n→B r c=0:=by
    rcases hi with ⟨_,h⟩ | ⟨h,_⟩
    ·exact h
    ·omega
   have:=h2.kc
   exact ⟨_,rfl,A0,nxt,k,B,col,h1,h2.none aA hz,h3,h4,⟨by show (0:Int)≤0; omega,by show (0:Int) < p; omega⟩,fun h=>absurd h A0⟩
  ·obtain ⟨nI,kx⟩:t < n∧B t c≠0:=by
    rcases hi with ⟨h,_⟩ | h
    ·omega
    ·exact h
   have px:k < n:=A0
   have key:∀ (T1:L2) (q1:Int),Tb T1 n w (sw B k t)→(0≤q1∧q1 < p)→Cg p q1 (if t=k then q else -q)→
     Ret (m_jt pv (c:Int) p T1 q1) (VQ (fun t':L2×Int×LI×Int=>c < w∧t'.2.2.2=((c+1:Nat):Int)∧∃ k B col,EchR p n w A (t'.1,t'.2.2.1,t'.2.1) k B col (c+1)) (fun s:L2×Int×LI=>∃ k B col,EchR p n w A (s.1,s.2.2,s.2.1) k B col w)):=by
    intro T1 q1 pK EH cM
    have UK:∀ r' j,r' < n→j < w→0≤sw B k t r' j∧sw B k t r' j < p:=by
     intro r' j dH hj
     unfold sw
     split
     ·exact h2.rng _ _ nI hj
     ·split
      ·exact h2.rng _ _ px hj
      ·exact h2.rng _ _ dH hj
    have Wz:sw B k t k c=B t c:=by unfold sw; rw [M0 rfl]
    have hb:=UK k c px aA
    obtain ⟨f,xM,wM,vM⟩:=Ft hP (a:=sw B k t k c) ⟨by rw [Wz] at hb ⊢; omega,hb.2⟩
    have HL:Cg p (sw B k t k c*f) 1:=by
     have e1:(1:Int) % p=1:=X4 A0 A0
     exact Cg.iff.2 (by rw [vM,e1])
    unfold m_jt m_jp
    rw [h4.1,J0]; refine pK.get px fun l1 tI eH=>?_
    rw [J0]; refine eH.get aA ?_
    rw [wmr hm EH hb,obs,J0]; refine pK.get px fun l2 Px iI=>?_
    rw [J0]; refine iI.get aA ?_
    rw [CA hP hb,xM,obs]
    refine Zw (Vz A0 hm pK px (fun j hj=>UK k j px hj) wM h4.1 hw) fun T2 ML=>?_
    refine Zw (XD A0 hm ML px aA (fun r' j dH hj=>?_) h4.1 hw jB) fun T3 RO=>?_
    ·by_cases e:r'=k
     ·subst e; rw [C2]; exact Q7 _ A0
     ·rw [J2 e]; exact UK r' j dH hj
    rw [J0,D2]
    have:=h2.kc
    refine ⟨by rw [h4.1]; simp only [I2,Y2]; omega,_,rfl,aA,nxt,k+1,_,_,RO,h2.next hp aA px LK nI vM,h3.trans (Rq.sw3 px nI HL),h4.push,Q7 _ A0,fun tO=>?_⟩
    refine (det_next px nI HL (h6 A0)).trans ?_
    refine Cg.mul ?_ (Cg.refl p _)
    exact ((cM.symm.mul (Cg.refl p _))).trans (Cg.mod p _).symm
   rw [O0]
   refine ⟨fun heq=>?_,fun ZS=>?_⟩
   ·have WH:t=k:=A0
    subst WH
    refine key _ _ ?_ h5 ?_
    ·rw [pj]; exact h1
    ·rw [M0 rfl]; exact .refl _ _
   ·have WH:t≠k:=A0
    rw [J0]; refine h1.get px fun lk rO YK=>?_
    rw [J0]; refine h1.get nI fun la sO ZK=>?_
    rw [J0,E4]
    refine ⟨A0,by rw [h1.1]; omega,?_⟩
    rw [J0,E4]
    refine ⟨A0,by rw [N3,h1.1]; omega,?_⟩
    rw [qg,nc A0 hm,obs]
    refine key _ _ ?_ (Q7 _ A0) ?_
    ·rw [Z0,Z0]
     refine ((h1.set nI YK).set px ZK).congr fun r' j _ _=>?_
     unfold sw up
     by_cases e1:r'=k
     ·simp only [e1,if_true]
     ·by_cases e2:r'=t
      ·simp only [e1,if_false]
      ·simp only [e1,e2,if_false]
    ·rw [K0 WH]
     have:wneg .i64 q= -q:=IntWalk.i64_in _ ⟨A0,A0⟩
     rw [this]
     exact Cg.mod p _
 ·rintro ⟨T',q,pv⟩ h
  exact ⟨_,rfl,h⟩
section
variable {p:Int} {n:Nat} {T:L2} {X Y:Mx}
theorem Yq (hP:PP p) (hn:0 < n) (jB:n≤200) (hT:Tb T n n X):m_km T p=some 0:=by
 unfold m_km
 rw [Mu hP hn jB jB hT,obs,M0 rfl,Ok hn hT,obs,obs,hT.1,K0 H0]
end
end Km
namespace Dt
section
open Sx Go M Vc Km
variable {p:Int} {n:Nat} {T:L2} {X Y:Mx}
theorem Rre.id {B:Mx} {col:Nat→Nat} (h:Rre p n n B col n n):∀ s,s < n→col s=s:=by
 intro s hs
 have h1:=h.ge s hs
 have h2:∀ d,s+d < n→col s+d≤col (s+d):=by
  intro d
  induction d with
  | zero=>intro _; exact H2 _
  | succ d ih=>intro hd; have:=h.asc (s+d) (s+(d+1)) A0 A0; have:=ih A0; omega
 have h3:=h2 (n - 1 - s) A0
 have h4:=h.lt (n - 1) A0
 rw [show s+(n - 1 - s)=n - 1 by omega] at h3
 omega
end
end Dt
