/- The document, both matrices and the law, over what stands in the text before. -/
import Derived.Test.YthekfonboblioabGreatDoorQzC
set_option linter.unusedVariables false
set_option linter.unusedSimpArgs false
set_option maxHeartbeats 4000000
set_option maxRecDepth 100000
namespace Km
open Sx Go M Vc Dt
section
variable {p:Int} {n:Nat} {T:L2} {X Y:Mx}
theorem kE {B:Mx} {r:Nat} (hr:r < n) (hz:∀ j,j < n→B r j=0):det n B=0:=by
 have h1:=(L9 n).scale hr B 0
 rw [V3] at h1
 rw [← h1]
 refine w5 fun i j hi hj=>?_
 by_cases e:i=r
 ·subst e; rw [C2,V3,hz j hj]
 ·rw [J2 e]
theorem det_ok (hP:PP p) (hn:0 < n) (jB:n≤200) (hT:Tb T n n X):∃ d R o,m_kn T p=some (d,0)∧(0≤d∧d < p)∧Cg p (det n X) d∧m_ge T p=some R∧m_gu R p=some o∧(d≠0↔o.2.1.length=n):=by
 have hp:=hP.two
 obtain ⟨R,o,hR,NT,RN,k,B,col,e1,e2,e3,e4,e5,e6,u,hu⟩:=wu hP hn jB A0 hT
 have hX:Cg p (det n X) (det n (Rd p X)):=Cg.det fun i j _ _=>(Cg.mod p _).symm
 have px:=e2.kn
 by_cases hk:k=n
 ·subst hk
  refine ⟨o.2.2,R,o,?_,e5,?_,hR,RN,⟨fun _=>e4.1,fun _ h0=>?_⟩⟩
  ·unfold m_kn
   rw [Yq hP hn jB hT,obs,M0 rfl,hR,obs,RN,obs,e4.1,hT.1,B0]
  ·have h1:det k B=1:=by
    rw [← He k]
    refine w5 fun i j hi hj=>?_
    have:=e2.unit j i hj hi
    rw [e2.id j hj] at this
    rw [this]; rfl
   rw [h1,J6] at e6
   exact hX.trans e6
  ·rw [h0,V3] at hu
   have:=Cg.iff.1 hu
   rw [Xa,X4 A0 A0] at this
   omega
 ·refine ⟨0,R,o,?_,⟨A0,A0⟩,?_,hR,RN,⟨fun h=>absurd rfl h,fun h=>absurd (e4.1.symm.trans h) hk⟩⟩
  ·unfold m_kn
   rw [Yq hP hn jB hT,obs,M0 rfl,hR,obs,RN,obs,e4.1,hT.1,C0]
  ·have h1:det n B=0:=kE (r:=n - 1) A0 fun j hj=>e2.zero (n - 1) j A0 A0 hj
   rw [h1,Q3] at e6
   exact hX.trans e6
theorem oE (hP:PP p):m_kn [] p=some (1,0):=by
 unfold m_kn m_km m_f9
 have h1:m_f4 []=some 0:=rfl
 have h2:m_f8 [] 0=some false:=I0
 have h3:m_ge [] p=some []:=by
  refine Ret.eq ?_
  unfold m_ge
  refine Zw (Q0 (Post:=fun R=>R=[]) 0 (fun k (s:L2×Int)=>s=([],0)) rfl ?_ A0) fun R h=>⟨_,rfl,h⟩
  rintro k _ hk rfl
  exact ⟨_,rfl,rfl⟩
 have h4:m_gu [] p=some ([],[],1):=by
  refine Ret.eq ?_
  unfold m_gu
  rw [h1,obs]
  refine Zw (Q0 (Post:=fun o=>o=([],[],1)) 0 (fun k (s:L2×LI×Int×Int)=>s=([],[],1,0)) rfl ?_ A0) fun o h=>by subst h; exact ⟨_,rfl,rfl⟩
  rintro k _ hk rfl
  exact ⟨_,rfl,rfl⟩
 rw [h1,obs,Et hP,obs,M0 rfl,h2,obs,K0 H0,K0 (by decide),obs,M0 rfl,obs,obs,K0 (by decide),obs,M0 rfl,h3,obs,h4,obs]
 rfl
end
open Lm
theorem sqb {i:Int} (h2:2≤i) (h3:i≤46342):0≤i*i∧i*i≤46342*46342:=⟨O3 A0 A0,K8 h3 h3 A0 A0⟩
theorem uk (x:Int):m_fs x=some false∨(m_fs x=some true∧PP x):=by
 by_cases hx:x < 2∨2147483647 < x
 ·refine .inl ?_
  unfold m_fs
  rw [M0 (by simpa using hx)]
 ·have hx:2≤x∧x≤2147483647:=A0
  obtain ⟨P,rfl⟩:=W4 (show 0≤x by omega)
  have h:Ret (loop (m_fr (P:Int)) 2) (fun o=>o=.inl ()→∀ d,2≤d→d*d≤P→¬ d ∣ P):=by
   refine we (fun i=>(2≤i∧i≤46342)∧∀ d:Nat,2≤d→(d:Int) < i→¬ d ∣ P) (fun i=>(46342 - i).toNat) ⟨by decide,fun d h1 h2=>absurd h2 A0⟩ (by decide) ?_
   rintro i ⟨⟨h2,h3⟩,h0⟩
   obtain ⟨h4,h5⟩:=sqb h2 h3
   unfold m_fr
   rw [Z9 A0 A0]
   split
   ·rename_i hle
    have h6:i≤46341:=by
     refine H1 fun hc=>?_
     obtain rfl:i=46342:=A0
     omega
    rw [Vb A0 A0,obs]
    split
    ·exact ⟨_,rfl,fun h=>by cases h⟩
    ·rename_i kx
     refine ⟨_,rfl,?_⟩
     rw [U0 A0 A0]
     refine ⟨⟨⟨A0,A0⟩,fun d QG CM GN=>?_⟩,by show (46342 - (i+1)).toNat < (46342 - i).toNat; omega⟩
     by_cases e:(d:Int)=i
     ·apply kx
      rw [← e]
      exact XF (by exact_mod_cast GN)
     ·exact h0 d QG A0 GN
   ·rename_i NK
    refine ⟨_,rfl,fun _ d QG CM=>h0 d QG ?_⟩
    refine H1 fun hc=>?_
    have:i*i≤(d:Int)*(d:Int):=K8 A0 A0 A0 A0
    have h9:((d*d:Nat):Int)≤(P:Int):=A0
    simp at h9
    omega
  obtain ⟨o,ho,zR⟩:=h
  unfold m_fs
  rw [K0 (by simp; omega),ho,obs]
  cases o with
  | inr u=>exact .inl rfl
  | inl u=>exact .inr ⟨rfl,hx.1,hx.2,Nt.Prm.of (by rw [Z0]; omega) (by rw [Z0]; exact zR rfl)⟩
theorem xg {p:Int} (hp:PP p):m_fs p=some true:=by
 rcases uk p with h | ⟨h,_⟩
 ·exfalso
  unfold m_fs at h
  have h2:=hp.two
  have h3:=hp.max
  rw [K0 (by simp; omega)] at h
  obtain ⟨P,rfl⟩:=W4 (show 0≤p by omega)
  have key:Ret (loop (m_fr (P:Int)) 2) (fun o=>o=.inl ()):=by
   refine we (fun i=>2≤i∧i≤46342) (fun i=>(46342 - i).toNat) (by decide) (by decide) ?_
   rintro i ⟨h2,h3⟩
   obtain ⟨h4,h5⟩:=sqb h2 h3
   unfold m_fr
   rw [Z9 A0 A0]
   split
   ·rename_i hle
    have h6:i≤46341:=by
     refine H1 fun hc=>?_
     obtain rfl:i=46342:=A0
     omega
    rw [Vb A0 A0,obs]
    split
    ·rename_i h0
     exfalso
     have hd:i ∣ (P:Int):=km h0
     obtain ⟨I,rfl⟩:=W4 (show 0≤i by omega)
     have HO:I ∣ P:=by exact_mod_cast hd
     have:=hp.prm.div I (by simpa using HO)
     rw [Z0] at this
     rcases this with e | e
     ·omega
     ·subst e
      have:(I:Int)*2≤(I:Int)*(I:Int):=K3 A0 A0
      omega
    ·refine ⟨_,rfl,?_⟩
     rw [U0 A0 A0]
     exact ⟨⟨A0,A0⟩,by show (46342 - (i+1)).toNat < (46342 - i).toNat; omega⟩
   ·exact ⟨_,rfl,rfl⟩
  obtain ⟨o,ho,rfl⟩:=key
  rw [ho,obs] at h
  cases h
 ·exact h
theorem AB:PP 2147483647:=⟨by decide,by decide,Nt.wB⟩
theorem isp:m_fs 2147483647=some true:=xg AB
theorem tg (s:Bool) (l:LI):m_fz s l 2147483647=(m_fy s l 2147483647).bind fun r=>some (r,0):=by
 unfold m_fz
 rw [isp,obs,M0 rfl]
theorem jh (T:L2):m_f9 T 2147483647=(m_f4 T).bind fun r4=>(m_f8 T r4).bind fun r8=>if r8=true then some 5 else if ((decide ((200:Int) < (T.length:Int))) || (decide ((200:Int) < r4)))=true then some 6 else some 0:=by
 unfold m_f9
 rw [isp]
 cases m_f4 T with
 | none=>rfl
 | some c=>rw [obs,obs,obs,M0 rfl]
theorem wg:Ret (m_fv 2147483648 5) (fun l=>l.length≤5∧l[0]?=some 2147483647∧∀ p,p∈l→PP p):=by
 have e1:imin (ws .i64 2147483648 1) 2147483647=2147483647:=I0
 have e5:imin 5 100=5:=I0
 unfold m_fv
 rw [B0,e1]
 refine Zw (we (Post:=fun (l:LI)=>l.length≤5∧l[0]?=some 2147483647∧∀ p,p∈l→PP p) (fun (s:LI×Int)=>s.1.length≤5∧s.2≤2147483647∧(s.1=[]∧s.2=2147483647∨s.1[0]?=some 2147483647)∧∀ p,p∈s.1→PP p) (fun s=>s.2.toNat) ⟨by decide,by decide,.inl ⟨rfl,rfl⟩,fun p hp=>by cases hp⟩ (by decide) ?_) fun l h=>⟨_,rfl,h⟩
 rintro ⟨l,i⟩ ⟨h1,h2,h3,h4⟩
 simp only at h1 h2 h3 h4
 unfold m_fu
 simp only
 rw [e5,O0]
 refine ⟨fun hc=>?_,fun hc=>⟨_,rfl,h1,?_,h4⟩⟩
 ·simp only [w4,decide_eq_true_eq] at hc
  obtain ⟨rJ,HE⟩:=hc
  have ew:ws .i64 i 1=i - 1:=C3 A0 A0
  rcases uk i with hp | ⟨hp,hP⟩
  ·rw [hp,obs,K0 H0]
   refine ⟨_,rfl,⟨h1,by show ws .i64 i 1≤_; omega,?_,h4⟩,by show (ws .i64 i 1).toNat < i.toNat; omega⟩
   rcases h3 with ⟨_,rfl⟩ | h3
   ·rw [isp] at hp; cases hp
   ·exact .inr h3
  ·rw [hp,obs,M0 rfl,J0,D2]
   refine ⟨G0,_,rfl,⟨by show (l++[i]).length≤5; rw [Q1]; simp only [I2,Y2]; omega,by show ws .i64 i 1≤_; omega,?_,?_⟩,by show (ws .i64 i 1).toNat < i.toNat; omega⟩
   ·rcases h3 with ⟨rfl,rfl⟩ | h3
    ·exact .inr rfl
    ·exact .inr (by show (l++[i])[0]?=_; rw [Q5 (by have:=(Z1.1 h3).1; exact this)]; exact h3)
   ·intro p hp
    rcases H8.1 hp with hp | hp
    ·exact h4 p hp
    ·rw [Y6.1 hp]; exact hP
 ·rcases h3 with ⟨rfl,rfl⟩ | h3
  ·exfalso; apply hc; decide
  ·exact h3
def exM:List (List (Bool×LI)):=[[(false,[1]),(false,[2])],[(false,[2]),(false,[4])]]
def exK:List (List (Bool×LI)):=[[(true,[2]),(false,[1])]]
theorem ND:m_f2 exM 2147483647=some [[1,2],[2,4]]:=by
 delta m_f2 m_f1 m_f0
 simp only [tg]
 kernel_rfl
theorem ru:m_gy [[1,2],[2,4]] 2147483647=some [0]:=by
 delta m_gy m_gx m_gv
 simp only [jh]
 kernel_rfl
theorem LD:m_g1 [[1,2],[2,4]] 2=some [[1,2],[2,4]]:=I0
theorem PD:m_kq exM 1 2147483647 [0] [0] exK=some true:=by
 delta m_kq m_kp m_ko m_kn m_km
 simp only [tg,jh]
 kernel_rfl
def exV:LI:=[4607182418800017408,4611686018427387904,4611686018427387904,4616189618054758400]
theorem qu:m_dv 2 2 [0,2,4] [0,1,0,1] exV=some (exM,0,0):=I0
theorem QD:m_fq exM 2=some exK:=I0
theorem MD:m_j8 2 2 [0,2,4] [0,1,0,1] exV=some ([(true,[2]),(false,[1])],true,0):=I0
theorem Yj {σ ρ:Type} {step:σ→Option (σ⊕ρ)} {s:σ} {o:ρ} (h:step s=some (.inr o)):loop step s=some o:=
 Ret.eq (Q0 0 (fun _ t=>t=s) rfl (by rintro k _ hk rfl; rw [h]; exact ⟨_,rfl,rfl⟩) A0)
theorem OD:m_g3 2 2 [0,2,4] [0,1,0,1] exV=some (1,2147483647,[0],[0],exK,0):=by
 obtain ⟨l,h1,h2,h3,h4⟩:=wg
 have hl:0 < l.length:=(Z1.1 h3).1
 have hg:getI l 0=some 2147483647:=h3
 unfold m_g3
 rw [qu,obs]
 simp only [if_true]
 rw [QD,obs,h1,obs,Yj (o:=.inr (2147483647,[0],[0]))]
 ·rfl
 ·unfold m_g2
  rw [C0,hg,obs]
  simp only
  rw [ND,obs,ru,obs,M0 I0,LD,obs,ru,obs]
theorem SD:m_kv 2 2 [0,2,4] [0,1,0,1] exV 1 2147483647 [0] [0] exK=some true:=by
 unfold m_kv
 rw [qu,obs]
 simp only [if_true]
 rw [isp,obs,obs,K0 H0,show m_kl [0] 1 2=some true by kernel_rfl,obs,M0 rfl,obs,obs,K0 H0,PD,obs,obs,K0 H0]
 kernel_rfl
theorem ex_b:((getI [(true,[(2:Int)]),(false,[1])] 0).bind fun x39=>(m_j (-2)).bind fun r41=>(m_ke x39.1 x39.2 r41.1 r41.2).bind fun r43=>some r43)=some true:=I0
theorem bF:m_k6=some true:=by
 unfold m_k6
 rw [show m_bz 2 0=some 4611686018427387904 by kernel_rfl,obs,show m_bz 4 0=some 4616189618054758400 by kernel_rfl,obs]
 have hR:=OD
 have hS:=MD
 have hC:=SD
 unfold exV at hR hS hC
 rw [hR,obs,hS,obs]
 simp only [hC,ex_b,if_true,decide_true,obs,show exK.length=1 from rfl,I2,Y2]
 rfl
namespace Gm
theorem M6 {α:Type} {l:List α} {k:Nat} (h:k < l.length):getI l (k:Int)=some l[k]:=by show l[k]?=_; simp [h]
theorem W2 {α β:Type} {e:Option α} {f:α→Option β} {x:α} (h:e=some x):e.bind f=f x:=by rw [h,obs]
def InW (n:Int):Prop:=-9223372036854775808≤n∧n≤9223372036854775807
theorem pf {x y:Int} (h:InW (x - y)):ws .i64 x y=x - y:=IntWalk.i64_in _ h
theorem wa1 {k:Nat} (h:k < 4611686018427387904):wa .i64 (k:Int) 1=((k+1:Nat):Int):=by rw [U0 A0 A0]; rfl
theorem nt (x y:Int):m_b8 x y=some (decide (x < y)):=by
 unfold m_b8 m_b7; simp
theorem nh {l:LI} (h:l.Pairwise (· < ·)) {i j:Nat} (hj:j < l.length) (PG:i < j):l[i] < l[j]:=
 Ev.1 h i j A0 hj PG
theorem Me {l:LI} {n:Nat} (h:l.Pairwise (· < ·)) (hr:∀ x,x∈l→0≤x∧x < n):l.length≤n:=by
 have key:∀ i,∀ hi:i < l.length,(i:Int)≤l[i]:=by
  intro i
  induction i with
  | zero=>intro hi; have:=hr _ (N5 hi); omega
  | succ i ih=>
   intro hi
   have h1:=ih A0
   have h2:=nh h hi (i:=i) A0
   omega
 by_cases h0:l.length=0
 ·omega
 ·have h1:=key (l.length - 1) A0
  have h2:=hr _ (N5 (show l.length - 1 < l.length by omega))
  omega
def off (E:L2) (j:Nat):Nat:=(E.take j).flatten.length
structure Mv (R C:Nat) (E:L2) (st ix vl:LI):Prop where
 len:E.length=C
 asc:∀ l,l∈E→l.Pairwise (· < ·)
 rng:∀ l,l∈E→∀ i,i∈l→0≤i∧i < (R:Int)
 ixe:ix=E.flatten
 sl:st.length=C+1
 ste:∀ j,j≤C→st[j]?=some (off E j:Int)
 vle:vl.length=ix.length
 fin:∀ v,v∈vl→m_cg v=some false
theorem Jj {E:L2} {j:Nat} {l:LI} (h:E[j]?=some l):off E (j+1)=off E j+l.length:=by
 unfold off
 rw [tks h,Jh,Q1]
 simp
theorem Dg {E:L2} {i j:Nat} (h:i≤j):off E i≤off E j:=by
 unfold off
 have:E.take i <+: E.take j:=by
  rw [show i=min i j by omega,← Ue]
  exact List.take_prefix _ _
 obtain ⟨t,ht⟩:=this
 rw [← ht,Jh,Q1]
 omega
theorem Ag (E:L2) {j:Nat}:off E j≤E.flatten.length:=by
 have h:=Dg (E:=E) (i:=j) (j:=max j E.length) A0
 unfold off at h ⊢
 rw [Y7 (l:=E) (i:=max j E.length) A0] at h
 exact h
theorem Ns (E:L2):off E E.length=E.flatten.length:=by
 unfold off; rw [w9]
theorem sj:∀ {E:L2} {j:Nat} {l:LI},E[j]?=some l→(E.flatten.take (off E (j+1))).drop (off E j)=l
 | [],j,l,h=>by simp at h
 | x::E,0,l,h=>by
  have:x=l:=by simpa using h
  subst this
  simp [off]
 | x::E,j+1,l,h=>by
  have h1:=sj (E:=E) (j:=j) (l:=l) (by simpa using h)
  have e1:∀ j,off (x::E) (j+1)=x.length+off E j:=fun j=>by simp [off]
  rw [e1,e1,List.flatten_cons,CF,KF]
  exact h1
theorem wz {st:LI} (hl:st.length≤100000) (h:∀ k,∀ hk:k+1 < st.length,st[k]≤st[k+1]):m_ca st=some true:=by
 unfold m_ca
 cases st with
 | nil=>
  have h1:loop (m_b9 []) (ws .i64 (([]:LI).length:Int) 1)=some (.inl ()):=by
   refine Ret.eq ?_
   refine Q0 0 (fun k (t:Int)=>t= -1) (by rw [pf (by constructor<;>simp)]; rfl) ?_
   rintro k _ hk rfl
   unfold m_b9
   rw [B0,U2,D9]
  rw [W2 h1]
 | cons x r=>
  have e0:ws .i64 (((x::r).length:Nat):Int) 1=(r.length:Int):=by
   simp only [I2] at hl ⊢
   rw [pf (by constructor<;>omega)]
   omega
  have CH:r.length≤100000:=by simp at hl; omega
  have h1:loop (m_b9 (x::r)) (ws .i64 (((x::r).length:Nat):Int) 1)=some (.inl ()):=by
   refine Ret.eq ?_
   refine Q0 r.length (fun k (t:Int)=>t=((r.length - k:Nat):Int)) (by rw [e0]; simp) ?_
   rintro k _ hk rfl
   unfold m_b9
   simp only [I2] at hl
   by_cases px:k < r.length
   ·have e1:ws .i64 ((r.length - k:Nat):Int) 1=((r.length - (k+1):Nat):Int):=by
     rw [pf (by constructor<;>omega)]
     omega
    have i1:r.length - k < (x::r).length:=by simp; omega
    have i2:r.length - (k+1) < (x::r).length:=by simp; omega
    have h2:=h (r.length - (k+1)) (by simp; omega)
    have h3:¬ (x::r)[r.length - k] < (x::r)[r.length - (k+1)]:=by
     have:(x::r)[r.length - (k+1)+1]'(by simp; omega)=(x::r)[r.length - k]:=by congr 1; omega
     rw [this] at h2
     omega
    rw [C0,W2 (M6 i1),e1,W2 (M6 i2),W2 (nt _ _),K0 (by simpa using h3),U2,E9]
    exact ⟨px,rfl⟩
   ·rw [B0,U2,D9]
  rw [W2 h1]
theorem CE {l:LI} {R:Nat} (h:l.Pairwise (· < ·)) (hr:∀ x,x∈l→0≤x∧x < (R:Int)) (hl:l.length≤100000):loop (m_cb l (R:Int)) (-1,0)=some (.inl ()):=by
 refine Ret.eq ?_
 refine Q0 l.length (fun k (t:Int×Int)=>t.2=(k:Int)∧(t.1= -1∨(0 < k∧l[k - 1]?=some t.1))∧(k=0→t.1= -1)) ⟨rfl,.inl rfl,fun _=>rfl⟩ ?_
 rintro k ⟨a,b⟩ hk ⟨e1,e2,e3⟩
 simp only at e1 e2 e3
 subst e1
 unfold m_cb
 simp only
 by_cases px:k < l.length
 ·have hw:wa .i64 (k:Int) 1=((k+1:Nat):Int):=wa1 A0
  have hx:=hr _ (N5 px)
  have hlt:a < l[k]:=by
   rcases e2 with h1 | ⟨h1,h2⟩
   ·omega
   ·rw [B3 A0] at h2
    have:=nh h (i:=k - 1) (j:=k) px A0
    have:=N2 h2
    omega
  have hc:¬ ((decide (l[k]≤a)) || (decide ((R:Int)≤l[k])))=true:=by
   simp only [H5,decide_eq_true_eq]
   omega
  rw [C0,W2 (M6 px),K0 hc,hw,U2,E9]
  exact ⟨px,rfl,.inr ⟨A0,H0⟩,fun h=>A0⟩
 ·rw [B0,U2,D9]
theorem XB {vl:LI} (h:∀ v,v∈vl→m_cg v=some false) (hl:vl.length≤100000):m_cj vl=some false:=by
 have h1:loop (m_ch vl) 0=some (.inl ()):=by
  refine Ret.eq ?_
  refine Q0 vl.length (fun k (t:Int)=>t=(k:Int)) rfl ?_
  rintro k _ hk rfl
  unfold m_ch
  by_cases px:k < vl.length
  ·have hw:wa .i64 (k:Int) 1=((k+1:Nat):Int):=wa1 A0
   rw [C0,W2 (M6 px),W2 (h _ (N5 px)),K0 H0,hw,U2,E9]
   exact ⟨px,rfl⟩
  ·rw [B0,U2,D9]
 unfold m_cj m_ci
 rw [W2 h1]
 rfl
theorem rC {R C:Nat} {E:L2} {st ix vl:LI} (h:Mv R C E st ix vl) (hR:R≤200) (hC:C≤200) (BT:ix.length≤10000):m_ck (R:Int) (C:Int) st ix vl=some 0:=by
 have hlen:=h.len
 have XJ:=h.sl
 have w1:m_b6 (R:Int) 0 200=some true:=by
  unfold m_b6
  have a1:decide ((0:Int)≤(R:Int))=true:=by simp
  have a2:decide ((R:Int)≤200)=true:=by simp; omega
  rw [a1,a2]; rfl
 have w2:m_b6 (C:Int) 0 200=some true:=by
  unfold m_b6
  have a1:decide ((0:Int)≤(C:Int))=true:=by simp
  have a2:decide ((C:Int)≤200)=true:=by simp; omega
  rw [a1,a2]; rfl
 have Xy:loop (m_cc (C:Int) st ix (R:Int)) 0=some (.inl ()):=by
  refine Ret.eq ?_
  refine Q0 C (fun k (t:Int)=>t=(k:Int)) rfl ?_
  rintro k _ hk rfl
  unfold m_cc
  by_cases px:k < C
  ·have hw:wa .i64 (k:Int) 1=((k+1:Nat):Int):=wa1 A0
   have g1:getI st (k:Int)=some (off E k:Int):=h.ste k A0
   have g2:getI st ((k+1:Nat):Int)=some (off E (k+1):Int):=h.ste (k+1) A0
   have hl:E[k]?=some E[k]:=by simp [hlen,px]
   have o1:=Dg (E:=E) (i:=k) (j:=k+1) A0
   have o2:=Ag E (j:=k+1)
   have XJ:sli ix (off E k:Int) (off E (k+1):Int)=some E[k]:=by
    unfold sli subL
    rw [M0 (by rw [h.ixe]; omega),h.ixe]
    simp only [Z0]
    rw [sj hl]
   have hm:=N5 (l:=E) (n:=k) A0
   have:=Me (h.asc _ hm) (h.rng _ hm)
   rw [C0,W2 g1,hw,W2 g2,W2 XJ,W2 (CE (h.asc _ hm) (h.rng _ hm) A0),U2,E9]
   exact ⟨px,rfl⟩
  ·rw [B0,U2,D9]
 have g0:getI st 0=some 0:=by
  have:=h.ste 0 A0
  exact this
 have gC:getI st (C:Int)=some (ix.length:Int):=by
  have:=h.ste C A0
  rw [← hlen,Ns,← h.ixe] at this
  rw [← hlen]
  exact this
 have fP:m_ca st=some true:=by
  refine wz A0 fun k hk=>?_
  have a1:=h.ste k A0
  have a2:=h.ste (k+1) A0
  rw [B3 A0] at a1 a2
  have:=N2 a1
  have:=N2 a2
  have:=Dg (E:=E) (i:=k) (j:=k+1) A0
  omega
 have JR:m_cd (R:Int) (C:Int) st ix vl=some true:=by
  unfold m_cd
  have hw:wa .i64 (C:Int) 1=((C+1:Nat):Int):=wa1 A0
  rw [hw,C0,W2 g0,obs]
  simp only [decide_true,Y5]
  rw [K0 H0,W2 fP,obs]
  simp only [Y5]
  rw [K0 H0,W2 gC,obs]
  simp only [decide_true,Y5]
  rw [K0 H0,obs,h.vle]
  simp only [decide_true,Y5]
  rw [K0 H0,W2 Xy]
 unfold m_ck
 rw [W2 w1,M0 rfl,W2 w2,obs]
 have hc:¬ ((!true) || (decide ((10000:Int) < (ix.length:Int))))=true:=by
  simp only [H5,decide_eq_true_eq,Y5]
  rintro (h | h)
  ·cases h
  ·omega
 rw [K0 hc,W2 JR,M0 rfl,W2 (XB h.fin (by have:=h.vle; omega)),K0 H0]
section
variable {R C:Nat} {E:L2} {st ix vl:LI}
theorem Mv.at_ (h:Mv R C E st ix vl) {j:Nat} {l:LI} (hl:E[j]?=some l) {k:Nat} (hk:k < l.length):ix[off E j+k]?=l[k]?:=by
 have h1:=sj hl
 have h2:=Jj hl
 rw [h.ixe]
 have:l[k]?=((E.flatten.take (off E (j+1))).drop (off E j))[k]?:=by rw [h1]
 rw [this,V9,H6]
 rw [C0]
theorem Mv.start (h:Mv R C E st ix vl) {j:Nat} (hj:j≤C):getI st (j:Int)=some (off E j:Int):=h.ste j hj
end
def RF (vl:LI):Prop:=∀ v,v∈vl→m_d v=some true
theorem yD {vl:LI} (h:RF vl) (hl:vl.length≤100000):m_g5 vl=some true:=by
 have h1:loop (m_g4 vl) 0=some (.inl ()):=by
  refine Ret.eq ?_
  refine Q0 vl.length (fun k (t:Int)=>t=(k:Int)) rfl ?_
  rintro k _ hk rfl
  unfold m_g4
  by_cases px:k < vl.length
  ·have hw:wa .i64 (k:Int) 1=((k+1:Nat):Int):=wa1 A0
   rw [C0,W2 (M6 px),W2 (h _ (N5 px)),M0 rfl,hw,U2,E9]
   exact ⟨px,rfl⟩
  ·rw [B0,U2,D9]
 unfold m_g5
 rw [W2 h1]
section
variable {R C:Nat} {E:L2} {st ix vl:LI}
theorem JD (h:Mv R C E st ix vl) (hR:R≤100000) (hx:ix.length≤100000) (hC:C≤100000) {j:Nat} (hj:j < C):loop (m_g6 st (j:Int) ix (R:Int)) (off E j:Int)=some (.inl ()):=by
 have hl:E[j]?=some (E[j]'(by rw [h.len]; exact hj)):=B3 (by rw [h.len]; exact hj)
 generalize E[j]'(by rw [h.len]; exact hj)=l at hl
 have FR:=Jj hl
 have ER:=Ag E (j:=j+1)
 have UL:off E (j+1)≤100000:=by rw [← h.ixe] at ER; omega
 have iL:=h.asc l (S8 hl)
 have XK:=h.rng l (S8 hl)
 refine Ret.eq ?_
 refine Q0 l.length (fun k (t:Int)=>t=((off E j+k:Nat):Int)) rfl ?_
 rintro k _ hk rfl
 unfold m_g6
 have iR:wa .i64 (j:Int) 1=((j+1:Nat):Int):=wa1 A0
 rw [iR,W2 (h.start A0)]
 by_cases Kx:k < l.length
 ·have hw:wa .i64 ((off E j+k:Nat):Int) 1=((off E j+(k+1):Nat):Int):=by rw [wa1 A0]; omega
  have hg:getI ix ((off E j+k:Nat):Int)=some l[k]:=(h.at_ hl Kx).trans (B3 Kx)
  have hr:=XK _ (N5 Kx)
  rw [C0,W2 hg,B0,W2 hg,obs,decide_eq_false A0,K0 H0,W2 (h.start A0)]
  by_cases pJ:k=0
  ·subst pJ
   rw [B0,obs,obs,K0 H0,hw,U2,E9]
   exact ⟨Kx,rfl⟩
  ·have zJ:ws .i64 ((off E j+k:Nat):Int) 1=((off E j+(k - 1):Nat):Int):=by rw [pf (by constructor<;>omega)]; omega
   have CO:getI ix ((off E j+(k - 1):Nat):Int)=some (l[k - 1]'(A0)):=(h.at_ hl A0).trans (B3 A0)
   have hlt:=nh iL (i:=k - 1) (j:=k) Kx A0
   rw [C0,W2 hg,zJ,W2 CO,obs,decide_eq_false A0,obs,K0 H0,hw,U2,E9]
   exact ⟨Kx,rfl⟩
 ·rw [B0,U2,D9]
theorem ID (h:Mv R C E st ix vl) (hR:R≤200) (hC:C≤200) (hx:ix.length≤10000) (hf:RF vl):m_g9 (R:Int) (C:Int) st ix vl=some 0:=by
 have XJ:=h.sl
 have dB:=h.vle
 have g0:getI st 0=some 0:=h.ste 0 A0
 have gC:getI st (C:Int)=some (ix.length:Int):=by
  have:=h.ste C A0
  rw [← h.len,Ns,← h.ixe] at this
  rw [← h.len]
  exact this
 have hw:wa .i64 (C:Int) 1=((C+1:Nat):Int):=wa1 A0
 have l1:loop (m_g8 (C:Int) st) 0=some (.inl ()):=by
  refine Ret.eq ?_
  refine Q0 C (fun k (t:Int)=>t=(k:Int)) rfl ?_
  rintro k _ hk rfl
  unfold m_g8
  by_cases px:k < C
  ·have UH:wa .i64 (k:Int) 1=((k+1:Nat):Int):=wa1 A0
   have o1:=Dg (E:=E) (i:=k) (j:=k+1) A0
   rw [C0,W2 (h.start A0),UH,W2 (h.start A0),B0,U2,E9]
   exact ⟨px,rfl⟩
  ·rw [B0,U2,D9]
 have l2:loop (m_g7 (C:Int) st ix (R:Int)) 0=some (.inl ()):=by
  refine Ret.eq ?_
  refine Q0 C (fun k (t:Int)=>t=(k:Int)) rfl ?_
  rintro k _ hk rfl
  unfold m_g7
  by_cases px:k < C
  ·have UH:wa .i64 (k:Int) 1=((k+1:Nat):Int):=wa1 A0
   rw [C0,W2 (h.start A0),W2 (JD h A0 A0 A0 px),UH,U2,E9]
   exact ⟨px,rfl⟩
  ·rw [B0,U2,D9]
 unfold m_g9
 rw [K0 (by simp only [H5,decide_eq_true_eq]; omega),hw,K0 (by simp only [H5,B7,decide_eq_false_iff_not]; omega),W2 g0,obs]
 simp only [decide_true,Y5]
 rw [K0 H0,W2 gC,obs]
 simp only [decide_true,Y5]
 rw [K0 H0,W2 l1]
 simp only
 rw [W2 l2]
 simp only
 rw [W2 (yD hf A0),M0 rfl]
end
end Gm
open Gm
theorem Ha (x:Int) {n:Nat} (h0:0 < n) (h1:n < 9223372036854775808):∃ z:Nat,m_a x (n:Int)=some (z:Int)∧z < n:=by
 unfold m_a
 rw [Z2 (x:=(n:Int)) ⟨A0,A0⟩,ji]
 have h2:=P3 x (show (18446744073709551616:Int)≠0 by omega)
 generalize x % 18446744073709551616=y at*
 unfold wr
 rw [B0,obs,Td h2]
 have h3:=P3 y (show (n:Int)≠0 by omega)
 have h4:=W3 y (show (0:Int) < n by omega)
 exact ⟨(y % n).toNat,by rw [Ga ⟨A0,A0⟩]; congr 1; omega,A0⟩
def U64 (x:Int):Prop:=0≤x∧x < 18446744073709551616
theorem ky (x y:Int):U64 (wxor .u64 x y):=by
 unfold wxor U64
 rw [IntKind.wrap_u64]
 omega
theorem uy (l:LI) (k:Int) (hl:l.length < 9223372036854775808):Ret (m_c l k) U64:=by
 have hj:∀ x,Ret (m_b x) U64:=fun x=>⟨_,rfl,ky _ _⟩
 unfold m_c
 rw [O0]
 refine ⟨fun h0=>?_,fun _=>hj _⟩
 obtain ⟨z,h1,h2⟩:=Ha k (n:=l.length) A0 hl
 rw [h1,obs,W2 (M6 h2)]
 exact hj _
theorem Gf.mono {a b a' b':Nat} {f:Int} (h:Gf a b f) (h1:a'≤a) (h2:b≤b'):Gf a' b' f:=by
 rcases h with h | ⟨s,e,m,hs,h3,h4,hm,hf⟩
 ·exact .inl h
 ·exact .inr ⟨s,e,m,hs,A0,A0,hm,hf⟩
theorem Gf.fin {a b:Nat} {f:Int} (h:Gf a b f) (ha:0 < a) (hb:b < 2047):m_cg f=some false∧m_d f=some true:=by
 rcases h with rfl | ⟨s,e,m,hs,h1,h2,hm,rfl⟩
 ·exact ⟨I0,I0⟩
 ·unfold m_cg m_cf m_ce m_d
  rw [obs,obs,Dk hs A0 hm,Ga ⟨A0,A0⟩]
  simp only
  rw [decide_eq_false A0]
  exact ⟨rfl,rfl⟩
def gfB (f:Int):Bool:=decide (0≤f∧f < 18446744073709551616) && (decide (f=0) || decide (980≤f / 4503599627370496 % 2048∧f / 4503599627370496 % 2048≤1066))
theorem nD {f:Int} (h:gfB f=true):Gf 980 1066 f:=by
 unfold gfB at h
 simp only [w4,H5,decide_eq_true_eq] at h
 obtain ⟨⟨h0,h1⟩,h2 | h2⟩:=h
 ·exact .inl h2
 ·obtain ⟨s,e,m,hs,he,hm,rfl⟩:=ku h0 h1
  refine .inr ⟨s,e,m,hs,?_,?_,hm,rfl⟩<;>(unfold Fl Fn_ at h2; omega)
theorem xz:(List.range 19).all (fun n=>match m_bz ((n:Int) - 9) 0 with | some f=>gfB f | none=>false)=true:=I0
theorem yz {x:Int} (hx:U64 x):Ret (m_b0 x) (Gf 980 1066):=by
 unfold U64 at hx
 have e1:wrc x 19=x % 19:=Td hx.1
 have h2:=P3 x (show (19:Int)≠0 by omega)
 have h3:=W3 x (show (0:Int) < 19 by omega)
 have h4:=w7.1 xz (x % 19).toNat (Z6.2 A0)
 rw [Yl h2] at h4
 unfold m_b0
 rw [e1,Ga ⟨A0,A0⟩,C3 A0 A0]
 split at h4
 ·rename_i f hf
  rw [hf,obs]
  exact ⟨f,rfl,nD h4⟩
 ·cases h4
theorem RB {x:Int} (hx:U64 x) {st:Nat} (cx:st < 3):Ret (m_b1 x (st:Int)) (Gf 980 1066):=by
 obtain ⟨z,h1,h2⟩:=Ha (st:Int) (n:=4) A0 A0
 have hz:(z:Int)=(st:Int):=by
  have:m_a (st:Int) ((4:Nat):Int)=some (st:Int):=by
   rcases (show st=0∨st=1∨st=2 by omega) with rfl | rfl | rfl<;>kernel_rfl
  rw [this] at h1
  exact (N2 h1).symm
 rw [hz] at h1
 unfold U64 at hx
 obtain ⟨s,e,m,hs,he,hm,rfl⟩:=ku hx.1 hx.2
 unfold m_b1
 rw [show (4:Int)=((4:Nat):Int) from rfl,h1,obs]
 rcases (show st=0∨st=1∨st=2 by omega) with rfl | rfl | rfl
 ·rw [B0,B0,B0,J0]
  exact (yz hx).mono fun f hf=>⟨f,rfl,hf⟩
 ·rw [C0]
  have e1:wand .u64 (wsrc .u64 (Fl s e m) 52) 7=(((2048*s+e) % 8:Nat):Int):=by
   rw [fu hs he hm,show (7:Int)=((7:Nat):Int) from rfl,ee (x:=2048*s+e) (y:=7) A0 A0]
   exact C1 _ (Pd (2048*s+e) 3)
  have e2:wslc .u64 (wa .u64 1019 (((2048*s+e) % 8:Nat):Int)) 52=((4503599627370496*(1019+(2048*s+e) % 8):Nat):Int):=by
   rw [V6 ⟨A0,A0⟩]
   unfold wslc
   show IntKind.u64.wrap (_*2 ^ 52)=_
   rw [IntWalk.u64_in _ A0]
   omega
  have e3:=gu hs he hm (q:=0) A0 (e':=1019+(2048*s+e) % 8) A0 (y:=9227875636482146303) (by decide) (by decide)
  rw [e1,e2]
  exact ⟨_,rfl,.inr ⟨s,1019+(2048*s+e) % 8,m / 1 ,hs,A0,A0,A0,by rw [show (9227875636482146303:Int)=((9227875636482146303:Nat):Int) from rfl,e3]; congr 1; omega⟩⟩
 ·rw [B0,C0]
  have e0:wsrc .u64 (Fl s e m) 8=((Fn_ s e m / 256:Nat):Int):=by
   unfold wsrc Fl
   show Int.fdiv _ (2 ^ 8)=_
   rw [Wd _ A0]
   rfl
  have e1:wrc (wsrc .u64 (Fl s e m) 8) 81=((Fn_ s e m / 256 % 81:Nat):Int):=by
   rw [e0]
   show Int.tmod _ 81=_
   rw [Td A0]
   rfl
  generalize hr:Fn_ s e m / 256 % 81=r at e1
  have NG:r < 81:=A0
  have e2:wslc .u64 (wa .u64 983 (r:Int)) 52=((4503599627370496*(983+r):Nat):Int):=by
   rw [V6 ⟨A0,A0⟩]
   unfold wslc
   show IntKind.u64.wrap (_*2 ^ 52)=_
   rw [IntWalk.u64_in _ A0]
   omega
  have e3:=gu hs he hm (q:=51) A0 (e':=983+r) A0 (y:=9225623836668461056) (by decide) (by decide)
  rw [e1,e2]
  exact ⟨_,rfl,.inr ⟨s,983+r,2 ^ 51*(m / 2 ^ 51),hs,A0,A0,A0,by rw [show (9225623836668461056:Int)=((9225623836668461056:Nat):Int) from rfl,e3]⟩⟩
structure Pm (a b R C:Nat) (E:L2) (st ix vl:LI):Prop where
 mv:Mv R C E st ix vl
 gf:∀ v,v∈vl→Gf a b v
 le:ix.length≤R*C
theorem Pm.zero (a b R:Nat):Pm a b R 0 [] [0] [] []:=⟨⟨rfl,(by intro l h; cases h),(by intro l h; cases h),rfl,rfl,(by
 intro j hj
 obtain rfl:j=0:=A0
 rfl),rfl,(by intro l h; cases h)⟩,(by intro l h; cases h),P9 _⟩
theorem Pm.snoc {a b R C:Nat} {E:L2} {st ix vl l u:LI} (h:Pm a b R C E st ix vl) (ha:0 < a) (hb:b < 2047) (hs:l.Pairwise (· < ·)) (hr:∀ x,x∈l→0≤x∧x < (R:Int)) (hu:u.length=l.length) (hg:∀ v,v∈u→Gf a b v):Pm a b R (C+1) (E++[l]) (st++[((ix++l).length:Int)]) (ix++l) (vl++u):=by
 have hl:=Me hs hr
 refine ⟨⟨by rw [Q1,h.mv.len]; rfl,?_,?_,by rw [Jh,← h.mv.ixe]; simp,by rw [Q1,h.mv.sl]; rfl,?_,by rw [Q1,Q1,h.mv.vle,hu],?_⟩,?_,?_⟩
 ·intro m hm
  rcases H8.1 hm with hm | hm
  ·exact h.mv.asc m hm
  ·rw [Y6.1 hm]; exact hs
 ·intro m hm
  rcases H8.1 hm with hm | hm
  ·exact h.mv.rng m hm
  ·rw [Y6.1 hm]; exact hr
 ·intro j hj
  have pP:∀ j,j≤C→off (E++[l]) j=off E j:=by
   intro j hj
   unfold off
   rw [DF (by rw [h.mv.len]; exact hj)]
  by_cases QH:j≤C
  ·rw [Q5 (by rw [h.mv.sl]; omega),h.mv.ste j QH,pP j QH]
  ·obtain rfl:j=C+1:=A0
   rw [X5 (by rw [h.mv.sl]; omega),h.mv.sl,E6]
   have e1:off (E++[l]) (C+1)=(ix++l).length:=by
    unfold off
    rw [Y7 (by rw [Q1,h.mv.len]; exact H2 _),Jh,← h.mv.ixe]
    simp
   rw [e1]; rfl
 ·intro v hv
  rcases H8.1 hv with hv | hv
  ·exact h.mv.fin v hv
  ·exact ((hg v hv).fin ha hb).1
 ·intro v hv
  rcases H8.1 hv with hv | hv
  ·exact h.gf v hv
  ·exact hg v hv
 ·rw [Q1,Nat.mul_add,Te]
  have:=h.le
  omega
theorem oD (l:LI) (hl:l.length < 9223372036854775808) {r c st:Nat} (hr:r≤20) (hc:c≤20) (cx:st < 3):Ret (m_b5 l (r:Int) (c:Int) (st:Int)) (fun o=>o.1=(r:Int)∧o.2.1=(c:Int)∧∃ E,Pm 980 1066 r c E o.2.2.1 o.2.2.2.1 o.2.2.2.2):=by
 unfold m_b5
 refine Zw (Q0 (Post:=fun o:LI×LI×LI=>∃ E,Pm 980 1066 r c E o.1 o.2.1 o.2.2) c (fun k (t:LI×LI×LI×Int)=>t.2.2.2=(k:Int)∧∃ E,Pm 980 1066 r k E t.1 t.2.1 t.2.2.1) ⟨rfl,[],Pm.zero ..⟩ ?_ A0) ?_
 ·rintro k ⟨sl,ix,vl,_⟩ hk ⟨rfl,E,hE⟩
  simp only at hE
  unfold m_b4
  simp only
  rw [O0]
  refine ⟨fun hlt=>?_,fun tx=>⟨_,rfl,by obtain rfl:k=c:=A0; exact ⟨E,hE⟩⟩⟩
  have RG:r*k≤400:=Ca (S9 hr (by omega:k≤20)) A0
  have hle:=hE.le
  have dB:=hE.mv.vle
  have XJ:=hE.mv.sl
  refine Zw (Q0 (Post:=fun o:LI×LI=>∃ u v:LI,o=(ix++u,vl++v)∧u.Pairwise (· < ·)∧(∀ x,x∈u→0≤x∧x < (r:Int))∧v.length=u.length∧∀ f,f∈v→Gf 980 1066 f) r (fun i (t:LI×LI×Int)=>t.2.2=(i:Int)∧∃ u v:LI,t.1=ix++u∧t.2.1=vl++v∧u.Pairwise (· < ·)∧(∀ x,x∈u→0≤x∧x < (i:Int))∧v.length=u.length∧∀ f,f∈v→Gf 980 1066 f) ⟨rfl,[],[],H0,H0,List.Pairwise.nil,(by intro x h; cases h),rfl,(by intro x h; cases h)⟩ ?_ A0) ?_
  ·rintro i ⟨_,_,_⟩ hi ⟨rfl,u,v,rfl,rfl,h1,h2,h3,h4⟩
   unfold m_b3
   simp only
   rw [O0]
   refine ⟨fun hlt=>?_,fun tx=>⟨_,rfl,u,v,rfl,h1,fun x hx=>by have:=h2 x hx; omega,h3,h4⟩⟩
   have YL:=Me h1 h2
   refine Zw (uy l _ hl) fun x hx=>?_
   have BG:wa .i64 (i:Int) 1=((i+1:Nat):Int):=wa1 A0
   rw [O0]
   refine ⟨fun hp=>?_,fun hp=>?_⟩
   ·rw [J0,D2]
    refine ⟨by rw [Q1]; simp only [I2,Y2]; omega,?_⟩
    refine Zw (RB hx cx) fun f hf=>?_
    rw [J0,D2]
    refine ⟨by rw [Q1]; simp only [I2,Y2]; omega,_,rfl,A0,BG,u++[(i:Int)],v++[f],H0,H0,?_,?_,by simp [h3],?_⟩
    ·rw [Eh]
     exact ⟨h1,Ol ..,fun x hx y hy=>by rw [Y6.1 hy]; exact (h2 x hx).2⟩
    ·intro y hy
     rcases H8.1 hy with hy | hy
     ·have:=h2 y hy; omega
     ·rw [Y6.1 hy]; omega
    ·intro y hy
     rcases H8.1 hy with hy | hy
     ·exact h4 y hy
     ·rw [Y6.1 hy]; exact hf
   ·exact ⟨_,rfl,A0,BG,u,v,rfl,rfl,h1,fun x hx=>by have:=h2 x hx; omega,h3,h4⟩
  ·rintro _ ⟨u,v,rfl,h1,h2,h3,h4⟩
   simp only
   have YL:=Me h1 h2
   rw [J0,D2]
   refine ⟨G0,_,rfl,A0,wa1 A0,E++[u],hE.snoc A0 A0 h1 h2 h3 h4⟩
 ·rintro ⟨sl,ix,vl⟩ ⟨E,hE⟩
  exact ⟨_,rfl,rfl,rfl,E,hE⟩
section
variable {a b R C:Nat} {E:L2} {st ix vl:LI}
theorem Pm.rf (h:Pm a b R C E st ix vl) (ha:0 < a) (hb:b < 2047):RF vl:=fun v hv=>((h.gf v hv).fin ha hb).2
theorem Pm.chk (h:Pm a b R C E st ix vl) (hR:R≤20) (hC:C≤20):m_ck (R:Int) (C:Int) st ix vl=some 0:=
 rC h.mv A0 A0 (by have:=h.le; have:=S9 hR hC; omega)
theorem Pm.rchk (h:Pm a b R C E st ix vl) (ha:0 < a) (hb:b < 2047) (hR:R≤20) (hC:C≤20):m_g9 (R:Int) (C:Int) st ix vl=some 0:=
 ID h.mv A0 A0 (by have:=h.le; have:=S9 hR hC; omega) (h.rf ha hb)
end
def ex (f:Int):Option Int:=(m_hc f).bind fun d=>(m_hd d.1 d.2.1 d.2.2.1 d.2.2.2).bind fun g=>if g=0 then none else some d.2.2.2
def nm (sh f:Int):Int:=((ex f).bind fun e=>(m_hc f).bind fun d=>some (sv d.2.1 d.2.2.1*2 ^ (e - sh).toNat)).getD 0
theorem Gf.ex {f:Int} (h:Gf 977 1069 f):∃ d g,m_dl f=some d∧m_hc f=some d∧m_dm d.1 d.2.1 d.2.2.1 d.2.2.2=some g∧m_hd d.1 d.2.1 d.2.2.1 d.2.2.2=some g∧((g=0∧Km.ex f=none)∨(g≠0∧Km.ex f=some d.2.2.2∧∃ (k:Nat) (u:Int),d.2.2.2= -98+k∧k≤300∧Bg u d.2.1 d.2.2.1∧(-9007199254740992 < u∧u < 9007199254740992)∧-(2 ^ 145) < u*2 ^ k∧u*2 ^ k < 2 ^ 145)):=by
 obtain ⟨v,d,hF⟩:=h.dy A0 A0 A0
 obtain ⟨g,g1,g2,g3⟩:=hF.sign A0
 have e1:Km.ex f=if g=0 then none else some d.2.2.2:=by
  unfold Km.ex
  rw [hF.r,obs,g2,obs]
 refine ⟨d,g,hF.p,hF.r,g1,g2,?_⟩
 by_cases h0:g=0
 ·exact .inl ⟨h0,by rw [e1,M0 h0]⟩
 ·refine .inr ⟨h0,by rw [e1,K0 h0],?_⟩
  obtain ⟨k,u,b1,b2,b3,b4,b5,b6⟩:=hF.bg fun hv=>h0 (g3.2 hv)
  rw [b4] at b6
  exact ⟨k,u,by rw [b1]; rfl,b2,b3,b5,b6⟩
def st (a:Int×Bool) (f:Int):Int×Bool:=match ex f with
 | none=>a
 | some e=>if a.2=true∨e < a.1 then (e,false) else a
def shf (l:LI):Int:=(l.foldl st (0,true)).1
theorem se {l:LI} {k:Nat} {f:Int} (h:l[k]?=some f):(l.take (k+1)).foldl st (0,true)=st ((l.take k).foldl st (0,true)) f:=by
 rw [tks h,List.foldl_append]; rfl
def Sp (l:LI) (a:Int×Bool):Prop:=(a.2=true→a.1=0∧∀ f,f∈l→ex f=none)∧(a.2=false→-98≤a.1∧∀ f e,f∈l→ex f=some e→a.1≤e)
theorem pz {l:LI} (hg:∀ f,f∈l→Gf 977 1069 f):∀ k,k≤l.length→Sp (l.take k) ((l.take k).foldl st (0,true)):=by
 intro k
 induction k with
 | zero=>exact fun _=>⟨fun _=>⟨rfl,by intro f hf; simp at hf⟩,fun h=>by simp at h⟩
 | succ k ih=>
  intro hk
  obtain ⟨f,hf⟩:∃ f,l[k]?=some f:=⟨_,B3 A0⟩
  have hi:=ih A0
  rw [se hf]
  generalize (l.take k).foldl st (0,true)=a at hi
  obtain ⟨h1,h2⟩:=hi
  obtain ⟨d,g,_,_,_,_,hd⟩:=(hg f (S8 hf)).ex
  unfold st
  rcases hd with ⟨_,he⟩ | ⟨_,he,k',u,OG,_⟩
  ·rw [he]
   refine ⟨fun h=>⟨(h1 h).1,fun x hx=>?_⟩,fun h=>⟨(h2 h).1,fun x e hx BH=>?_⟩⟩
   ·rcases (mts hf).1 hx with hx | hx
    ·exact (h1 h).2 x hx
    ·rw [hx]; exact he
   ·rcases (mts hf).1 hx with hx | hx
    ·exact (h2 h).2 x e hx BH
    ·rw [hx,he] at BH; cases BH
  ·rw [he]
   simp only
   split
   ·rename_i hc
    refine ⟨fun h=>by simp at h,fun _=>⟨by show -98≤d.2.2.2; omega,fun x e hx BH=>?_⟩⟩
    show d.2.2.2≤e
    rcases (mts hf).1 hx with hx | hx
    ·rcases hc with hc | hc
     ·rw [(h1 hc).2 x hx] at BH; cases BH
     ·cases ha:a.2
      ·have:=(h2 ha).2 x e hx BH; omega
      ·rw [(h1 ha).2 x hx] at BH; cases BH
    ·rw [hx,he] at BH; cases BH; exact ef _
   ·rename_i hc
    rw [not_or] at hc
    have ha:a.2=false:=by cases h:a.2 with | true=>exact absurd h hc.1 | false=>rfl
    refine ⟨fun h=>(by rw [ha] at h; cases h),fun _=>⟨(h2 ha).1,fun x e hx BH=>?_⟩⟩
    rcases (mts hf).1 hx with hx | hx
    ·exact (h2 ha).2 x e hx BH
    ·rw [hx,he] at BH; cases BH; omega
theorem tj {l:LI} (hg:∀ f,f∈l→Gf 977 1069 f): -98≤shf l∧∀ f e,f∈l→ex f=some e→shf l≤e:=by
 have h:=pz hg l.length (H2 _)
 rw [w9] at h
 unfold shf
 generalize l.foldl st (0,true)=a at h
 cases ha:a.2
 ·exact h.2 ha
 ·have:=h.1 ha
  exact ⟨A0,fun f e hf he=>by rw [this.2 f hf] at he; cases he⟩
theorem Oz {l:LI} (hl:l.length≤100000) (hg:∀ f,f∈l→Gf 977 1069 f):loop (m_du l) (0,true,0)=some (shf l):=by
 refine Ret.eq (Q0 l.length (fun k (t:Int×Bool×Int)=>t.2.2=(k:Int)∧(t.1,t.2.1)=(l.take k).foldl st (0,true)) ⟨rfl,rfl⟩ ?_ A0)
 rintro k ⟨s,b,_⟩ hk ⟨rfl,h1⟩
 simp only at h1
 unfold m_du
 simp only
 rw [O0]
 refine ⟨fun hlt=>?_,fun tx=>⟨_,rfl,?_⟩⟩
 ·have Kx:k < l.length:=A0
  have hf:l[k]?=some l[k]:=B3 Kx
  obtain ⟨d,g,d1,_,d3,_,hd⟩:=(hg _ (N5 Kx)).ex
  rw [W2 (M6 Kx),d1,obs,d3,obs]
  unfold m_dt
  have hw:wa .i64 (k:Int) 1=((k+1:Nat):Int):=wa1 A0
  rw [O0]
  refine ⟨fun hc=>⟨_,rfl,Kx,hw,?_⟩,fun hc=>⟨_,rfl,Kx,hw,?_⟩⟩
  ·simp only [w4,H5,B7,decide_eq_false_iff_not,decide_eq_true_eq] at hc
   rw [se hf,← h1]
   unfold st
   rcases hd with ⟨h0,_⟩ | ⟨_,he,_⟩
   ·exact absurd h0 hc.1
   ·rw [he]; simp only; rw [M0 hc.2]
  ·simp only [w4,H5,B7,decide_eq_false_iff_not,decide_eq_true_eq] at hc
   rw [se hf,← h1]
   unfold st
   rcases hd with ⟨_,he⟩ | ⟨h0,he,_⟩
   ·rw [he]
   ·rw [he]; simp only; rw [K0 (fun h=>hc ⟨h0,h⟩)]
 ·rw [Y7 A0] at h1
  exact C1 (·.1) h1
theorem Nz {l:LI} (hl:l.length≤100000) (hg:∀ f,f∈l→Gf 977 1069 f):loop (m_ho l) (0,false,0)=some (shf l):=by
 refine Ret.eq (Q0 l.length (fun k (t:Int×Bool×Int)=>t.2.2=(k:Int)∧(t.1,!t.2.1)=(l.take k).foldl st (0,true)) ⟨rfl,rfl⟩ ?_ A0)
 rintro k ⟨s,b,_⟩ hk ⟨rfl,h1⟩
 simp only at h1
 unfold m_ho
 simp only
 rw [O0]
 refine ⟨fun hlt=>?_,fun tx=>⟨_,rfl,?_⟩⟩
 ·have Kx:k < l.length:=A0
  have hf:l[k]?=some l[k]:=B3 Kx
  obtain ⟨d,g,_,d1,_,d3,hd⟩:=(hg _ (N5 Kx)).ex
  rw [W2 (M6 Kx),d1,obs,d3,obs]
  unfold m_hn
  have hw:wa .i64 (k:Int) 1=((k+1:Nat):Int):=wa1 A0
  rw [O0]
  refine ⟨fun hc=>⟨_,rfl,Kx,hw,?_⟩,fun hc=>⟨_,rfl,Kx,hw,?_⟩⟩
  ·simp only [w4,H5,B7,decide_eq_false_iff_not,decide_eq_true_eq] at hc
   rw [se hf,← h1]
   unfold st
   rcases hd with ⟨h0,_⟩ | ⟨_,he,_⟩
   ·exact absurd h0 hc.1
   ·rw [he]; simp only; rw [M0 (by rw [B7]; exact hc.2)]; rfl
  ·simp only [w4,H5,B7,decide_eq_false_iff_not,decide_eq_true_eq] at hc
   rw [se hf,← h1]
   unfold st
   rcases hd with ⟨_,he⟩ | ⟨h0,he,_⟩
   ·rw [he]
   ·rw [he]; simp only; rw [K0 (fun h=>hc ⟨h0,by rw [B7] at h; exact h⟩)]
 ·rw [Y7 A0] at h1
  exact C1 (·.1) h1
def look (l:List (Int×Int×Int)) (i j:Int):Int:=match l.find? (fun e=>decide (e.1=i∧e.2.1=j)) with | some e=>e.2.2 | none=>0
structure Ent (R C:Nat) (vl:LI) (l:List (Int×Int×Int)):Prop where
 rng:∀ e,e∈l→(0≤e.1∧e.1 < (R:Int))∧(0≤e.2.1∧e.2.1 < (C:Int))∧e.2.2∈vl
 dis:l.Pairwise fun a b=>¬ (a.1=b.1∧a.2.1=b.2.1)
theorem jt {R C:Nat} {vl:LI} {l:List (Int×Int×Int)} (h:Ent R C vl l) {k:Nat} {e:Int×Int×Int} (he:l[k]?=some e):look (l.take k) e.1 e.2.1=0∧∀ i j,look (l.take (k+1)) i j=if i=e.1∧j=e.2.1 then e.2.2 else look (l.take k) i j:=by
 have hd:∀ x,x∈l.take k→¬ (x.1=e.1∧x.2.1=e.2.1):=by
  intro x hx
  have h1:(l.take (k+1)).Pairwise fun a b=>¬ (a.1=b.1∧a.2.1=b.2.1):=h.dis.sublist (List.take_sublist _ _)
  rw [tks he,Eh] at h1
  exact h1.2.2 x hx e H0
 have hn:(l.take k).find? (fun x=>decide (x.1=e.1∧x.2.1=e.2.1))=none:=by
  rw [List.find?_eq_none]
  intro x hx
  simpa using hd x hx
 refine ⟨by unfold look; rw [hn],fun i j=>?_⟩
 unfold look
 rw [tks he,List.find?_append]
 by_cases PG:i=e.1∧j=e.2.1
 ·rw [M0 PG,PG.1,PG.2,hn]
  simp
 ·rw [K0 PG]
  have:[e].find? (fun x=>decide (x.1=i∧x.2.1=j))=none:=by
   rw [List.find?_eq_none]
   intro x hx
   rw [Y6.1 hx]
   simp only [decide_eq_true_eq]
   exact fun h=>PG ⟨h.1.symm,h.2.symm⟩
  rw [this,Option.or_none]
section
variable {R C:Nat} {E:L2} {st ix vl:LI}
theorem UD (h:Pm 977 1069 R C E st ix vl) (hR:R≤20) (hC:C≤20):∃ l,loop (m_do (C:Int) st ix vl) ([],0)=some l∧Ent R C vl l∧l.length≤400:=by
 have hle:ix.length≤400:=Ca h.le (S9 hR hC)
 have dB:=h.mv.vle
 refine (Q0 (Post:=fun l=>Ent R C vl l∧l.length≤400) C (fun k (t:List (Int×Int×Int)×Int)=>t.2=(k:Int)∧Ent R k vl t.1∧t.1.length=off E k) ⟨rfl,⟨(by intro e he; cases he),List.Pairwise.nil⟩,by simp [off]⟩ ?_ A0).mono fun l h=>h
 rintro k ⟨L,_⟩ hk ⟨rfl,h1,h2⟩
 simp only at h1 h2
 have o3:=Ag E (j:=k)
 rw [← h.mv.ixe] at o3
 unfold m_do
 simp only
 rw [O0]
 refine ⟨fun hlt=>?_,fun tx=>⟨_,rfl,by obtain rfl:k=C:=A0; exact ⟨h1,A0⟩⟩⟩
 have CN:k < C:=A0
 have hl:E[k]?=some (E[k]'(by rw [h.mv.len]; exact CN)):=B3 (by rw [h.mv.len]; exact CN)
 generalize E[k]'(by rw [h.mv.len]; exact CN)=c at hl
 have FR:=Jj hl
 have o2:=Ag E (j:=k+1)
 rw [← h.mv.ixe] at o2
 have iL:=h.mv.asc c (S8 hl)
 have XK:=h.mv.rng c (S8 hl)
 rw [W2 (h.mv.start A0)]
 refine Zw (Q0 (Post:=fun l=>Ent R (k+1) vl l∧l.length=off E (k+1)) c.length (fun i (t:List (Int×Int×Int)×Int)=>t.2=((off E k+i:Nat):Int)∧Ent R (k+1) vl t.1∧t.1.length=off E k+i∧∀ e,e∈t.1→e.2.1 < (k:Int)∨∃ i',i' < i∧c[i']?=some e.1) ⟨rfl,⟨fun e he=>by have:=h1.rng e he; exact ⟨this.1,A0,this.2.2⟩,h1.dis⟩,by show L.length=_; omega,fun e he=>.inl (h1.rng e he).2.1.2⟩ ?_ A0) ?_
 ·rintro i ⟨M,_⟩ hi ⟨rfl,g1,g2,g3⟩
  simp only at g1 g2 g3
  unfold m_dn
  simp only
  rw [wa1 A0,W2 (h.mv.start A0),O0]
  refine ⟨fun hlt=>?_,fun tx=>⟨_,rfl,g1,A0⟩⟩
  have FL:i < c.length:=A0
  have hg:getI ix ((off E k+i:Nat):Int)=some c[i]:=(h.mv.at_ hl FL).trans (B3 FL)
  rw [W2 hg,W2 (M6 A0),J0,D2]
  refine ⟨by rw [g2]; simp only [I2,Y2]; omega,_,rfl,FL,by rw [wa1 A0]; rfl,⟨?_,?_⟩,by rw [Q1,g2]; rfl,?_⟩
  ·intro e he
   rcases H8.1 he with he | he
   ·exact g1.rng e he
   ·rw [Y6.1 he]
    exact ⟨XK _ (N5 FL),⟨by show (0:Int)≤k; omega,by show (k:Int) < _; omega⟩,N5 _⟩
  ·rw [Eh]
   refine ⟨g1.dis,Ol ..,fun e he y hy=>?_⟩
   rw [Y6.1 hy]
   rintro ⟨q1,q2⟩
   rcases g3 e he with g | ⟨i',RA,hc⟩
   ·have:e.2.1=(k:Int):=q2
    omega
   ·have:=nh iL FL RA
    rw [B3 A0] at hc
    have h9:=N2 hc
    have:e.1=c[i]:=q1
    omega
  ·intro e he
   rcases H8.1 he with he | he
   ·rcases g3 e he with g | ⟨i',RA,hc⟩
    ·exact .inl g
    ·exact .inr ⟨i',A0,hc⟩
   ·rw [Y6.1 he]
    exact .inr ⟨i,A0,B3 FL⟩
 ·rintro M ⟨g1,g2⟩
  exact ⟨_,rfl,CN,wa1 A0,g1,g2⟩
theorem zA (h:Pm 977 1069 R C E st ix vl) (hR:R≤20) (hC:C≤20) {l:List (Int×Int×Int)} (hl:loop (m_do (C:Int) st ix vl) ([],0)=some l):m_hg (R:Int) (C:Int) st ix vl=some l:=by
 have e1:m_hf=m_do:=rfl
 unfold m_hg
 rw [h.rchk A0 A0 hR hC,obs,M0 rfl,e1,hl,obs]
end
theorem Mj {sh f:Int} (h:Gf 977 1069 f) (h1: -98≤sh) (h2:∀ e,ex f=some e→sh≤e):∃ d g,m_dl f=some d∧m_hc f=some d∧m_dm d.1 d.2.1 d.2.2.1 d.2.2.2=some g∧m_hd d.1 d.2.1 d.2.2.1 d.2.2.2=some g∧Bd (pw 5) (nm sh f)∧((g=0∧nm sh f=0)∨(g≠0∧Ret (m_de d.2.1 d.2.2.1 (ws .i64 d.2.2.2 sh)) (fun r=>Bg (nm sh f) r.1 r.2.1)∧Ret (m_9 d.2.1 d.2.2.1 (ws .i64 d.2.2.2 sh)) (fun r=>Bg (nm sh f) r.1 r.2))):=by
 obtain ⟨d,g,a1,a2,a3,a4,hd⟩:=h.ex
 refine ⟨d,g,a1,a2,a3,a4,?_⟩
 rcases hd with ⟨h0,he⟩ | ⟨h0,he,k,u,b1,b2,b3,⟨b4,b5⟩,b6,b7⟩
 ·have e0:nm sh f=0:=by unfold nm; rw [he]; rfl
  exact ⟨by rw [e0]; have:=M1 5; exact ⟨A0,A0⟩,.inl ⟨h0,e0⟩⟩
 ·have hs:=h2 _ he
  have hn:nm sh f=u*2 ^ (d.2.2.2 - sh).toNat:=by unfold nm; rw [he,obs,a2,obs,b3.sv]; rfl
  have hl:=b3.len2 b4 b5
  have hw:ws .i64 d.2.2.2 sh=(((d.2.2.2 - sh).toNat:Nat):Int):=by rw [C3 A0 A0]; omega
  have s1:=nr (s:=d.2.1) b3.1 A0 (N:=(d.2.2.2 - sh).toNat) A0
  have s2:=mr (s:=d.2.1) b3.1 A0 (N:=(d.2.2.2 - sh).toNat) A0
  rw [b3.sv,← hn,← hw] at s1 s2
  refine ⟨?_,.inr ⟨h0,s1.mono fun r hr=>hr.1,s2⟩⟩
  rw [hn]
  have hp:=ka (N:=(d.2.2.2 - sh).toNat) (M:=k) A0
  have vN:(0:Int) < 2 ^ (d.2.2.2 - sh).toNat:=S5 A0
  have h5:(2:Int) ^ 145≤pw 5:=by rw [L6]; exact ka A0
  generalize (2:Int) ^ 145=P at*
  generalize (2:Int) ^ (d.2.2.2 - sh).toNat=Q at*
  generalize (2:Int) ^ k=S at*
  by_cases hu:0≤u
  ·have c1:u*Q≤u*S:=K3 hp hu
   have c2:0≤u*Q:=O3 hu A0
   exact ⟨A0,A0⟩
  ·have c1:u*S≤u*Q:=Int.mul_le_mul_of_nonpos_left A0 hp
   have c2:u*Q≤0:=MF A0 A0
   exact ⟨A0,A0⟩
theorem Lj (sh:Int):nm sh 0=0:=by
 unfold nm ex
 rw [Eg.2,obs,dh.2,obs,M0 rfl]
 rfl
theorem Lg.ext {l m:List Nb} {w:Nat} {f:Nat→Int} (h:Lg l w f) (h':Lg m w f):l=m:=by
 refine Da fun c=>?_
 by_cases hc:c < w
 ·obtain ⟨z,h1,h2⟩:=h.2 c hc
  obtain ⟨y,h3,h4⟩:=h'.2 c hc
  have:=h2.uniq h4
  rw [h1,h3,show z=y from Prod.ext this.1 this.2]
 ·rw [K7 (by rw [h.1]; omega),K7 (by rw [h'.1]; omega)]
theorem Tg.ext {T U:List (List Nb)} {n w:Nat} {A:Mx} (h:Tg T n w A) (h':Tg U n w A):T=U:=by
 refine Da fun r=>?_
 by_cases hr:r < n
 ·obtain ⟨l,h1,h2⟩:=h.2 r hr
  obtain ⟨m,h3,h4⟩:=h'.2 r hr
  rw [h1,h3,h2.ext h4]
 ·rw [K7 (by rw [h.1]; omega),K7 (by rw [h'.1]; omega)]
section
variable {R C:Nat} {E:L2} {st ix vl:LI}
def im (vl:LI) (l:List (Int×Int×Int)):Mx:=fun i j=>nm (shf vl) (look l i j)
theorem Zj {vl:LI} {l:List (Int×Int×Int)} (h:Ent R C vl l) (i j:Int):look l i j=0∨look l i j∈vl:=by
 unfold look
 split
 ·rename_i e he
  exact .inr (h.rng e (FF he)).2.2
 ·exact .inl rfl
theorem GB (h:Pm 977 1069 R C E st ix vl) (hR:R≤16) (hC:C≤16) {l:List (Int×Int×Int)} (hl:loop (m_do (C:Int) st ix vl) ([],0)=some l) (hE:Ent R C vl l) (FD:l.length≤400):∃ T,m_dv (R:Int) (C:Int) st ix vl=some (T,shf vl,0)∧Tg T R C (im vl l):=by
 have hle:ix.length≤400:=Ca h.le (S9 (by omega:R≤20) (by omega:C≤20))
 have dB:=h.mv.vle
 obtain ⟨s1,s2⟩:=tj h.gf
 have TK:Ret (loop (m_ds (List.replicate R ([]:List Nb)) (C:Int)) (List.replicate R ([]:List Nb),0)) (fun T=>Tg T R C (fun _ _=>0)):=by
  refine Q0 R (fun k (t:List (List Nb)×Int)=>t.2=(k:Int)∧t.1.length=R∧∀ i,i < k→t.1[i]?=some (List.replicate C ((false,[]):Nb))) ⟨rfl,U4 ..,by intro i hi; omega⟩ ?_ A0
  rintro k ⟨T,_⟩ hk ⟨rfl,g1,g2⟩
  simp only at g1 g2
  unfold m_ds
  simp only
  rw [U4,O0]
  refine ⟨fun hlt=>?_,fun tx=>⟨_,rfl,g1,fun r hr=>⟨_,g2 r A0,Lg.zeros' C⟩⟩⟩
  rw [J0,J5]
  refine ⟨A0,A0,?_⟩
  rw [Z0,J0,E4,Z0]
  refine ⟨A0,A0,_,rfl,A0,wa1 A0,by show (T.set k _).length=R; rw [N3,g1],fun i hi=>?_⟩
  show (T.set k _)[i]?=_
  by_cases e:i=k
  ·subst e; rw [D5 A0]
  ·rw [A6 A0]; exact g2 i A0
 have hT:∀ T0,Tg T0 R C (fun _ _=>0)→Ret (loop (m_dr l (shf vl)) (T0,0)) (fun T=>Tg T R C (im vl l)):=by
  intro T0 TK
  refine Q0 l.length (fun k (t:List (List Nb)×Int)=>t.2=(k:Int)∧Tg t.1 R C (im vl (l.take k))) ⟨rfl,TK.congr fun r c _ _=>(Lj _).symm⟩ ?_ A0
  rintro k ⟨T,_⟩ hk ⟨rfl,g1⟩
  simp only at g1
  unfold m_dr
  simp only
  rw [O0]
  refine ⟨fun hlt=>?_,fun tx=>⟨_,rfl,by rw [Y7 A0] at g1; exact g1⟩⟩
  have Kx:k < l.length:=A0
  have he:l[k]?=some l[k]:=B3 Kx
  rw [W2 (M6 Kx)]
  have hr:=hE.rng _ (N5 Kx)
  obtain ⟨n1,n2⟩:=jt hE he
  generalize l[k]=e at*
  obtain ⟨d,g,a1,a2,a3,a4,_,hd⟩:=Mj (sh:=shf vl) (h.gf _ hr.2.2) s1 (fun x hx=>s2 _ x hr.2.2 hx)
  unfold m_dq
  have hw:wa .i64 (k:Int) 1=((k+1:Nat):Int):=wa1 A0
  rw [a1,obs,a3,obs,O0]
  have key:∀ i j:Nat,im vl (l.take (k+1)) i j=if (i:Int)=e.1∧(j:Int)=e.2.1 then nm (shf vl) e.2.2 else im vl (l.take k) i j:=by
   intro i j
   unfold im
   rw [n2]
   split<;>rfl
  obtain ⟨I,hI⟩:=W4 hr.1.1
  obtain ⟨J,hJ⟩:=W4 hr.2.1.1
  rcases hd with ⟨h0,hz⟩ | ⟨h0,hs,_⟩
  ·refine ⟨fun _=>⟨_,rfl,Kx,hw,g1.congr fun i j _ _=>?_⟩,fun hc=>absurd h0 hc⟩
   rw [key]
   split
   ·rename_i PG
    rw [hz]
    unfold im
    rw [PG.1,PG.2,n1,Lj]
   ·rfl
  ·refine ⟨fun hc=>absurd hc h0,fun _=>?_⟩
   obtain ⟨row,r1,r2⟩:=g1.at (r:=I) A0 hI
   rw [r1,obs,J0]
   refine hs.mono fun q hq=>?_
   have CH:=r2.1
   have oH:=g1.1
   rw [P4 (l:=row) (k:=J) A0 hJ,obs,P4 (l:=T) (k:=I) A0 hI,obs]
   refine ⟨_,rfl,Kx,hw,(g1.set (k:=I) A0 (r2.set (c:=J) (z:=(q.1,q.2.1)) A0 hq)).congr fun i j _ _=>?_⟩
   rw [key]
   unfold up
   by_cases e1:i=I
   ·subst e1
    rw [M0 rfl]
    simp only
    by_cases e2:j=J
    ·subst e2; rw [M0 rfl,M0 ⟨hI.symm,hJ.symm⟩]
    ·rw [K0 e2,K0 (fun h=>e2 (by have:=h.2; omega))]
   ·rw [K0 e1,K0 (fun h=>e1 (by have:=h.1; omega))]
 obtain ⟨T0,t1,t2⟩:=TK
 obtain ⟨T,t3,t4⟩:=hT T0 t2
 refine ⟨T,?_,t4⟩
 unfold m_dv
 rw [h.chk A0 A0,obs,M0 rfl,K0 (by simp only [H5,decide_eq_true_eq]; omega),Oz A0 h.gf,obs]
 have qO:mkL ([]:List Nb) (R:Int)=some (List.replicate R []):=Ret.eq (by rw [J5]; exact ⟨A0,A0,by rw [Z0]⟩)
 have FP:m_dp (R:Int) (C:Int) st ix vl=some l:=by unfold m_dp; rw [hl,obs]
 rw [qO,obs,t1,obs,FP,obs,t3,obs]
def Di (D:L2) (R C:Nat) (F:Nat→Nat→Int):Prop:=D.length=R∧∀ i,i < R→∃ row,D[i]?=some row∧row.length=C∧∀ j,j < C→row[j]?=some (F i j)
theorem NA (h:Pm 977 1069 R C E st ix vl) (hR:R≤16) (hC:C≤16) {l:List (Int×Int×Int)} (hl:loop (m_do (C:Int) st ix vl) ([],0)=some l) (hE:Ent R C vl l) (FD:l.length≤400):∃ D,m_hj (R:Int) (C:Int) st ix vl=some (D,0)∧Di D R C (fun i j=>look l i j):=by
 have TK:Ret (loop (m_hi (R:Int) (C:Int)) ([],0)) (fun D=>Di D R C (fun _ _=>0)):=by
  refine Q0 R (fun k (t:L2×Int)=>t.2=(k:Int)∧t.1=List.replicate k (List.replicate C 0)) ⟨rfl,rfl⟩ ?_ A0
  rintro k ⟨T,_⟩ hk ⟨rfl,g1⟩
  simp only at g1
  subst g1
  unfold m_hi
  simp only
  rw [O0]
  refine ⟨fun hlt=>?_,fun tx=>⟨_,rfl,by rw [U4]; omega,fun i hi=>⟨List.replicate C 0,by rw [Kb,C0],U4 ..,fun j hj=>by rw [Kb,M0 hj]⟩⟩⟩
  rw [J0,J5]
  refine ⟨A0,A0,?_⟩
  rw [Z0,J0,D2]
  refine ⟨by rw [U4]; simp only [I2,Y2]; omega,_,rfl,A0,wa1 A0,?_⟩
  show List.replicate k (List.replicate C (0:Int))++[List.replicate C 0]=_
  exact Bv.symm
 have hT:∀ T0,Di T0 R C (fun _ _=>0)→Ret (loop (m_hh l) (T0,0)) (fun T=>Di T R C (fun i j=>look l i j)):=by
  intro T0 TK
  refine Q0 l.length (fun k (t:L2×Int)=>t.2=(k:Int)∧Di t.1 R C (fun i j=>look (l.take k) i j)) ⟨rfl,TK⟩ ?_ A0
  rintro k ⟨T,_⟩ hk ⟨rfl,g1,g2⟩
  simp only at g1 g2
  unfold m_hh
  simp only
  rw [O0]
  refine ⟨fun hlt=>?_,fun tx=>⟨_,rfl,by rw [Y7 A0] at g2; exact ⟨g1,g2⟩⟩⟩
  have Kx:k < l.length:=A0
  have he:l[k]?=some l[k]:=B3 Kx
  have hg:getI l (k:Int)=some l[k]:=M6 Kx
  have hr:=hE.rng _ (N5 Kx)
  obtain ⟨n1,n2⟩:=jt hE he
  generalize l[k]=e at*
  obtain ⟨I,hI⟩:=W4 hr.1.1
  obtain ⟨J,hJ⟩:=W4 hr.2.1.1
  obtain ⟨row,r1,r2,r3⟩:=g2 I A0
  rw [hg,obs,X2 r1 hI,obs,obs,obs,P4 (l:=row) (k:=J) A0 hJ,obs,P4 (l:=T) (k:=I) A0 hI,obs]
  refine ⟨_,rfl,Kx,wa1 A0,by show (T.set I _).length=R; rw [N3,g1],fun i hi=>?_⟩
  show ∃ row',(T.set I (row.set J e.2.2))[i]?=some row'∧_
  by_cases e1:i=I
  ·subst e1
   refine ⟨_,by rw [D5 A0],by rw [N3]; exact r2,fun j hj=>?_⟩
   show _=some (look (l.take (k+1)) i j)
   rw [n2]
   by_cases e2:j=J
   ·subst e2; rw [D5 A0,M0 ⟨hI.symm,hJ.symm⟩]
   ·rw [A6 A0,K0 (fun h=>e2 (by have:=h.2; omega))]; exact r3 j hj
  ·obtain ⟨row',q1,q2,q3⟩:=g2 i hi
   refine ⟨row',by rw [A6 A0]; exact q1,q2,fun j hj=>?_⟩
   show _=some (look (l.take (k+1)) i j)
   rw [n2,K0 (fun h=>e1 (by have:=h.1; omega))]
   exact q3 j hj
 obtain ⟨T0,t1,t2⟩:=TK
 obtain ⟨T,t3,t4⟩:=hT T0 t2
 refine ⟨T,?_,t4⟩
 unfold m_hj
 rw [h.rchk A0 A0 A0 A0,obs,M0 rfl,t1,obs,zA h A0 A0 hl,obs,t3,obs]
theorem qA (h:Pm 977 1069 R C E st ix vl) (hR:R≤16) (hC:C≤16) {l:List (Int×Int×Int)} (hl:loop (m_do (C:Int) st ix vl) ([],0)=some l) (hE:Ent R C vl l) (FD:l.length≤400):∃ T,m_hp (R:Int) (C:Int) st ix vl=some (T,shf vl,0)∧Tg T R C (im vl l):=by
 have hle:ix.length≤400:=Ca h.le (S9 (by omega:R≤20) (by omega:C≤20))
 have dB:=h.mv.vle
 obtain ⟨s1,s2⟩:=tj h.gf
 obtain ⟨D,d1,d2,d3⟩:=NA h hR hC hl hE FD
 have TA:∀ i,i < R→Ret (loop (m_hl (C:Int) (D,0) (i:Int) (shf vl)) ([],0)) (fun r=>Lg r C (im vl l i)):=by
  intro i hi
  obtain ⟨row,q1,q2,q3⟩:=d3 i hi
  refine Q0 C (fun k (t:List Nb×Int)=>t.2=(k:Int)∧Lg t.1 k (im vl l i)) ⟨rfl,rfl,by intro c hc; omega⟩ ?_ A0
  rintro k ⟨T,_⟩ hk ⟨rfl,g1⟩
  simp only at g1
  unfold m_hl
  simp only
  rw [O0]
  refine ⟨fun hlt=>?_,fun tx=>⟨_,rfl,by obtain rfl:k=C:=A0; exact g1⟩⟩
  have GL:Gf 977 1069 (look l i k):=by
   rcases Zj hE (i:Int) (k:Int) with h0 | h0
   ·exact .inl h0
   ·exact h.gf _ h0
  have FI:∀ e,ex (look l i k)=some e→shf vl≤e:=by
   intro e he
   rcases Zj hE (i:Int) (k:Int) with h0 | h0
   ·exfalso
    rw [h0] at he
    unfold ex at he
    rw [Eg.2,obs,dh.2,obs,M0 rfl] at he
    cases he
   ·exact s2 _ e h0 he
  obtain ⟨d,g,_,a2,_,a4,_,hd⟩:=Mj (sh:=shf vl) GL s1 FI
  have hw:wa .i64 (k:Int) 1=((k+1:Nat):Int):=wa1 A0
  have oH:=g1.1
  rw [X2 q1 rfl,obs,X2 (q3 k A0) rfl,obs,a2,obs,a4,obs,O0]
  unfold m_hk
  rcases hd with ⟨h0,hz⟩ | ⟨h0,_,hs⟩
  ·refine ⟨fun _=>?_,fun hc=>absurd h0 hc⟩
   rw [J0,D2]
   exact ⟨by rw [oH]; simp only [I2,Y2]; omega,_,rfl,A0,hw,g1.snoc (z:=(false,[])) (Ac.cast hz.symm)⟩
  ·refine ⟨fun hc=>absurd hc h0,fun _=>?_⟩
   rw [J0]
   refine hs.mono fun q hq=>?_
   rw [J0,D2]
   exact ⟨by rw [oH]; simp only [I2,Y2]; omega,_,rfl,A0,hw,g1.snoc (z:=(q.1,q.2)) hq⟩
 have hT:Ret (loop (m_hm (R:Int) (C:Int) (D,0) (shf vl)) ([],0)) (fun T=>Tg T R C (im vl l)):=by
  refine Q0 R (fun k (t:List (List Nb)×Int)=>t.2=(k:Int)∧Tg t.1 k C (im vl l)) ⟨rfl,rfl,by intro c hc; omega⟩ ?_ A0
  rintro k ⟨T,_⟩ hk ⟨rfl,g1⟩
  simp only at g1
  unfold m_hm
  simp only
  rw [O0]
  refine ⟨fun hlt=>?_,fun tx=>⟨_,rfl,by obtain rfl:k=R:=A0; exact g1⟩⟩
  have oH:=g1.1
  refine Zw (TA k A0) fun r hr=>?_
  rw [J0,D2]
  exact ⟨by rw [oH]; simp only [I2,Y2]; omega,_,rfl,A0,wa1 A0,g1.snoc hr⟩
 obtain ⟨T,t3,t4⟩:=hT
 refine ⟨T,?_,t4⟩
 unfold m_hp
 rw [h.rchk A0 A0 A0 A0,obs,M0 rfl,K0 (by simp only [H5,decide_eq_true_eq]; omega),Nz A0 h.gf,obs,d1,obs,t3,obs]
theorem SC (h:Pm 977 1069 R C E st ix vl) (hR:R≤16) (hC:C≤16):∃ T sh A,m_dv (R:Int) (C:Int) st ix vl=some (T,sh,0)∧m_hp (R:Int) (C:Int) st ix vl=some (T,sh,0)∧Tg T R C A∧∀ i j,i < R→j < C→Bd (pw 5) (A i j):=by
 obtain ⟨l,l1,l2,l3⟩:=UD h A0 A0
 obtain ⟨T,t1,t2⟩:=GB h hR hC l1 l2 l3
 obtain ⟨U,u1,u2⟩:=qA h hR hC l1 l2 l3
 have e:=t2.ext u2
 subst e
 refine ⟨T,_,_,t1,u1,t2,fun i j _ _=>?_⟩
 obtain ⟨s1,s2⟩:=tj h.gf
 unfold im
 rcases Zj l2 (i:Int) (j:Int) with h0 | h0
 ·rw [h0,Lj]
  have:=M1 5
  exact ⟨A0,A0⟩
 ·obtain ⟨_,_,_,_,_,_,hb,_⟩:=Mj (sh:=shf vl) (h.gf _ h0) s1 (fun e he=>s2 _ e h0 he)
  exact hb
end
def MB:Int:=2*(4*pw 5) ^ 6
theorem sd:MB < pw 60:=by
 have e1:4*pw 5=2 ^ 162:=by
  rw [L6,show 162=2+32*5 from rfl,E5]; rfl
 have e2:MB=2 ^ 973:=by
  unfold MB
  rw [e1,← Oh,show 973=1+162*6 from rfl,E5]; rfl
 rw [e2,L6]
 have h1:=ka (N:=974) (M:=32*60) A0
 have h2:(2:Int) ^ 974=2 ^ 973*2:=by rw [show 974=973+1 from rfl,w8]
 have h3:(0:Int) < 2 ^ 973:=S5 A0
 omega
theorem Wj:MB < pw 190:=Int.lt_of_lt_of_le sd (y6 A0)
theorem kd {n w:Nat} {A:Mx} (hn:n≤4) (hA:∀ i j,i < n→j < w→Bd (pw 5) (A i j)):Okb n w A MB:=by
 have h:=zg (K:=4) (M:=pw 5) (by have:=M1 5; omega) A0 hn hA
 have hp:2*(((4:Nat):Int)*pw 5) ^ (n+2)≤MB:=by
  have:=Ae (X:=((4:Nat):Int)*pw 5) (by have:=M1 5; omega) (m:=n+2) (n:=6) A0
  unfold MB
  show 2*(4*pw 5) ^ (n+2)≤_
  have h2:(((4:Nat):Int)*pw 5) ^ (n+2)=(4*pw 5) ^ (n+2):=rfl
  have h3:(((4:Nat):Int)*pw 5) ^ 6=(4*pw 5) ^ 6:=rfl
  omega
 exact fun A' cl q i j h1 h2 h3 h4 h5=>⟨(h A' cl q i j h1 h2 h3 h4 h5).1.mono hp,(h A' cl q i j h1 h2 h3 h4 h5).2.mono hp⟩
theorem xe:pw 5 < pw 6:=by
 show pw 5 < B*pw 5
 have:=M1 5
 unfold B; omega
theorem Tg.tr6 {T:List (List Nb)} {n w:Nat} {A:Mx} (h:Tg T n w A) (hA:∀ i j,i < n→j < w→Bd (pw 5) (A i j)):Tr 6 T n w A:=h.tr hA xe
section
variable {n w:Nat} {A:Mx} {T:List (List Nb)}
theorem ns {A:Mx} {w:Nat}:pvs 0 0 A w=[]:=by
 refine JF.2 fun j hj=>?_
 exact (O7.1 hj).2 ⟨fun _=>1,(by rw [I8]; show ¬ (1:Int)=0; omega),fun r hr=>absurd hr A0⟩
theorem Cn:m_e8 []=some (0,0):=I0
theorem iy (hn:n≤4) (hw:w≤4) (hT:Tg T n w A) (hA:∀ i j,i < n→j < w→Bd (pw 5) (A i j)):m_e8 T=some (((pvs 0 n A w).length:Int),0):=by
 by_cases h0:n=0
 ·subst h0
  rw [ns,S6 hT.1,Cn]; rfl
 ·obtain ⟨k,h1,A',col,sn,h2⟩:=Mm Wj (hT.tr6 hA) A0 (kd hn hA) A0 A0 (.inl A0)
  rw [h1,h2.rn.len P5]
theorem yE (hT:Tg T n w A) (hn:n≤1000) {c:Nat} (hc:c≤w):Ret (m_dx T (c:Int)) (fun U=>Tg U n c A):=by
 have oH:=hT.1
 unfold m_dx
 refine Zw (Q0 (Post:=fun U=>Tg U n c A) n (fun k (t:List (List Nb)×Int)=>t.2=(k:Int)∧Tg t.1 k c A) ⟨rfl,rfl,by intro r hr; omega⟩ ?_ A0) fun U h=>⟨U,rfl,h⟩
 rintro k ⟨U,_⟩ hk ⟨rfl,h1⟩
 simp only at h1
 have ZG:=h1.1
 unfold m_dw
 simp only
 rw [O0]
 refine ⟨fun hlt=>?_,fun tx=>⟨_,rfl,by obtain rfl:k=n:=A0; exact h1⟩⟩
 obtain ⟨l,l1,l2⟩:=hT.at (r:=k) A0 rfl
 have FD:=l2.1
 rw [l1,obs,J0,ic]
 refine ⟨A0,A0,A0,?_⟩
 rw [Z0,show (0:Int).toNat=0 from rfl,W9,J0,D2]
 refine ⟨by rw [ZG]; simp only [I2,Y2]; omega,_,rfl,A0,by rw [U0 A0 A0]; rfl,h1.snoc ?_⟩
 exact ⟨by rw [B4]; omega,fun j hj=>by rw [H6,M0 hj]; exact l2.2 j A0⟩
theorem vD (hn:n≤4) (hw:w≤4) (hT:Tg T n w A) (hA:∀ i j,i < n→j < w→Bd (pw 5) (A i j)):Ret (m_fa T (w:Int)) (fun F=>F.length=w∧∀ j,j < w→∃ b,F[j]?=some b∧(b=true↔Dt.Fr 0 n A j)):=by
 unfold m_fa
 rw [J0,J5]
 refine ⟨A0,A0,?_⟩
 rw [Z0]
 refine Zw (Q0 (Post:=fun F:BL=>F.length=w∧∀ j,j < w→∃ b,F[j]?=some b∧(b=true↔Dt.Fr 0 n A j)) w (fun k (t:BL×Int×Int)=>t.2.2=(k:Int)∧t.2.1=((pvs 0 n A k).length:Int)∧t.1.length=w∧∀ j,j < k→∃ b,t.1[j]?=some b∧(b=true↔Dt.Fr 0 n A j)) ⟨rfl,by rw [ye]; rfl,U4 ..,by intro j hj; omega⟩ ?_ A0) fun U h=>⟨U,rfl,h⟩
 rintro k ⟨F,_,_⟩ hk ⟨rfl,rfl,h1,h2⟩
 simp only at h1 h2
 unfold m_e9
 simp only
 rw [O0]
 refine ⟨fun hlt=>?_,fun tx=>⟨_,rfl,h1,by obtain rfl:k=w:=A0; exact h2⟩⟩
 have hw1:wa .i64 (k:Int) 1=((k+1:Nat):Int):=by rw [U0 A0 A0]; rfl
 rw [hw1]
 refine Zw (yE hT A0 (c:=k+1) A0) fun U hU=>?_
 rw [iy hn A0 hU (fun i j hi hj=>hA i j hi A0),obs,J0,E4,Z0]
 refine ⟨A0,A0,_,rfl,A0,rfl,rfl,by show (F.set k _).length=w; rw [N3,h1],fun j hj=>?_⟩
 show ∃ b,(F.set k _)[j]?=some b∧_
 by_cases e:j=k
 ·subst e
  refine ⟨_,by rw [D5 A0],?_⟩
  rw [decide_eq_true_eq]
  constructor
  ·intro h
   refine H1 fun hc=>?_
   rw [ma hc,Q1] at h
   simp at h
   omega
  ·intro h
   rw [I9 h]
 ·obtain ⟨b,b1,b2⟩:=h2 j A0
  exact ⟨b,by rw [A6 (fun h=>e h.symm)]; exact b1,b2⟩
def KV (n w:Nat) (A:Mx) (f:Nat) (l:List Nb):Prop:=∃ u:Nat→Int,Lg l w u∧(∀ j,j < w→Bd MB (u j))∧(∀ r,r < n→sm w (fun j=>A r j*u j)=0)∧(∀ d:Int,(∀ j,j < w→d ∣ u j)→d ∣ 1)∧0 < u f∧∀ j,j < w→j≠f→j∉pvs 0 n A f→u j=0
open Classical in
noncomputable def frs (n:Nat) (A:Mx) (w:Nat):List Nat:=(List.range w).filter fun j=>decide (Dt.Fr 0 n A j)
theorem De {j:Nat} (h:Dt.Fr 0 n A j):frs n A (j+1)=frs n A j++[j]:=by
 unfold frs
 rw [Fc,Vl]
 simp [h]
theorem Ee {j:Nat} (h:¬ Dt.Fr 0 n A j):frs n A (j+1)=frs n A j:=by
 unfold frs
 rw [Fc,Vl]
 simp [h]
theorem Ab:∀ w,(frs n A w).length+(pvs 0 n A w).length=w:=by
 intro w
 induction w with
 | zero=>rfl
 | succ w ih=>
  by_cases h:Dt.Fr 0 n A w
  ·rw [De h,I9 h,Q1]; simp; omega
  ·rw [Ee h,ma h,Q1]; simp; omega
theorem Xg {j:Nat}:j∈frs n A w↔j < w∧Dt.Fr 0 n A j:=by unfold frs; simp
def ints (l:List Nat):LI:=l.map fun (x:Nat)=>(x:Int)
theorem Sg {l:List Nat} {i:Nat} (h:i < l.length):getI (ints l) (i:Int)=some ((l.getD i 0:Nat):Int):=by
 refine X2 ?_ rfl
 unfold ints
 rw [y9,B3 h,I6,B3 h]
 rfl
theorem H4 (l:List Nat):(ints l).length=l.length:=Sa ..
def Cs_ (w:Nat) (C:List Nat):Prop:=C.Pairwise (· < ·)∧∀ x,x∈C→x < w
theorem Cs_.lt {C:List Nat} (h:Cs_ w C) {s:Nat} (hs:s < C.length):C.getD s 0 < w:=by
 rw [I6,B3 hs]
 exact h.2 _ (N5 hs)
theorem Cs_.inj {C:List Nat} (h:Cs_ w C) {s t:Nat} (cx:s < t) (ht:t < C.length):C.getD s 0 < C.getD t 0:=by
 rw [I6,B3 A0,I6,B3 ht]
 exact Ev.1 h.1 s t A0 ht cx
theorem Ed (n:Nat) (A:Mx) {f:Nat} (hf:f < w):Cs_ w (pvs 0 n A f++[f]):=by
 refine ⟨?_,fun x hx=>?_⟩
 ·rw [Eh]
  exact ⟨mc,Ol ..,fun x hx y hy=>by rw [Y6.1 hy]; exact (O7.1 hx).1⟩
 ·rcases H8.1 hx with hx | hx
  ·have:=(O7.1 hx).1; omega
  ·rw [Y6.1 hx]; exact hf
theorem IB {C:List Nat} (hC:Cs_ w C) (hw:w≤1000) (hn:n≤1000) (VN:C.length≤1000) (hT:Tg T n w A):Ret (loop (m_fo T (ints C)) ([],0)) (fun U=>Tg U n C.length (sub A C)):=by
 have oH:=hT.1
 refine Q0 n (fun k (t:List (List Nb)×Int)=>t.2=(k:Int)∧Tg t.1 k C.length (sub A C)) ⟨rfl,rfl,by intro r hr; omega⟩ ?_ A0
 rintro k ⟨U,_⟩ hk ⟨rfl,h1⟩
 simp only at h1
 have ZG:=h1.1
 unfold m_fo
 simp only
 rw [O0]
 refine ⟨fun hlt=>?_,fun tx=>⟨_,rfl,by obtain rfl:k=n:=A0; exact h1⟩⟩
 obtain ⟨l,l1,l2⟩:=hT.at (r:=k) A0 rfl
 have FD:=l2.1
 have TA:Ret (loop (m_fn (ints C) l) ([],0)) (fun o=>Lg o C.length (sub A C k)):=by
  refine Q0 C.length (fun i (t:List Nb×Int)=>t.2=(i:Int)∧Lg t.1 i (sub A C k)) ⟨rfl,rfl,by intro r hr; omega⟩ ?_ A0
  rintro i ⟨o,_⟩ hi ⟨rfl,g1⟩
  simp only at g1
  have fM:=g1.1
  unfold m_fn
  simp only
  rw [H4,O0]
  refine ⟨fun hlt=>?_,fun tx=>⟨_,rfl,by obtain rfl:i=C.length:=A0; exact g1⟩⟩
  have lH:i < C.length:=A0
  obtain ⟨z,z1,z2⟩:=l2.at (c:=C.getD i 0) (hC.lt lH) rfl
  rw [Sg lH,obs,z1,obs,J0,D2]
  exact ⟨by rw [fM]; simp only [I2,Y2]; omega,_,rfl,lH,by rw [U0 A0 A0]; rfl,g1.snoc (z:=(z.1,z.2)) z2⟩
 rw [l1,obs,J0]
 refine TA.mono fun o ho=>?_
 rw [J0,D2]
 exact ⟨by rw [ZG]; simp only [I2,Y2]; omega,_,rfl,A0,by rw [U0 A0 A0]; rfl,h1.snoc ho⟩
def spr (C:List Nat) (u:Nat→Int) (k:Nat):Nat→Int:=fun c=>sm k fun s=>if c=C.getD s 0 then u s else 0
theorem Tc {C:List Nat} (hC:Cs_ w C) (u:Nat→Int):∀ k,k≤C.length→∀ s,s < k→spr C u k (C.getD s 0)=u s:=by
 intro k hk s hs
 unfold spr
 rw [W0 (g:=fun t=>if t=s then u t else 0) fun t ht=>?_,L4 (f:=u) hs]
 by_cases e:t=s
 ·subst e; rw [M0 rfl,M0 rfl]
 ·rw [K0 e,K0]
  intro he
  rcases Hb s t with h | h | h
  ·have:=hC.inj h A0; omega
  ·omega
  ·have:=hC.inj h A0; omega
theorem Yf {C:List Nat} {u:Nat→Int} {k c:Nat} (h:∀ s,s < k→c≠C.getD s 0):spr C u k c=0:=C5 fun s hs=>K0 (h s hs)
theorem rz {C:List Nat} (hC:Cs_ w C) (hw:w≤1000) (VN:C.length≤1000) {l:List Nb} {e:Int} {u:Nat→Int} (hl:Lg l C.length u):Ret (loop (m_fm (ints C) (l,e)) (List.replicate w ((false,[]):Nb),0)) (fun v=>Lg v w (spr C u C.length)):=by
 refine Q0 C.length (fun i (t:List Nb×Int)=>t.2=(i:Int)∧Lg t.1 w (spr C u i)) ⟨rfl,Lg.zeros' w⟩ ?_ A0
 rintro i ⟨v,_⟩ hi ⟨rfl,g1⟩
 simp only at g1
 have dB:=g1.1
 unfold m_fm
 simp only
 rw [H4,O0]
 refine ⟨fun hlt=>?_,fun tx=>⟨_,rfl,by obtain rfl:i=C.length:=A0; exact g1⟩⟩
 have lH:i < C.length:=A0
 obtain ⟨z,z1,z2⟩:=hl.at (c:=i) lH rfl
 have hlt:=hC.lt lH
 rw [Sg lH,obs,z1,obs,P4 (l:=v) (k:=C.getD i 0) A0 rfl,obs]
 refine ⟨_,rfl,lH,by rw [U0 A0 A0]; rfl,(g1.set (c:=C.getD i 0) (z:=(z.1,z.2)) hlt z2).congr fun c hc=>?_⟩
 by_cases e:c=C.getD i 0
 ·rw [M0 e,e,Tc hC u (i+1) A0 i A0]
 ·rw [K0 e]
  show _=sm i (fun s=>if c=C.getD s 0 then u s else 0)+(if c=C.getD i 0 then u i else 0)
  rw [K0 e,L8]
  rfl
theorem GE {l:LI} (h:l.length≤100000):m_fb l=some l:=by
 unfold m_fb
 exact Ret.eq (by rw [J0,D2]; exact ⟨by simp; omega,_,rfl,rfl⟩)
theorem Jz (hn:n≤4) (zF:0 < n) (hw:w≤4) (hA:∀ i j,i < n→j < w→Bd (pw 5) (A i j)) {f:Nat} (hf:f < w) (hF:Dt.Fr 0 n A f) {U:List (List Nb)} (hU:Tg U n (pvs 0 n A f++[f]).length (sub A (pvs 0 n A f++[f]))):∃ l,m_fj U=some (l,0)∧KU n (pvs 0 n A f++[f]).length (sub A (pvs 0 n A f++[f])) MB (pvs 0 n A f).length l:=by
 have hC:=Ed n A hf
 have hB:∀ i j,i < n→j < (pvs 0 n A f++[f]).length→Bd (pw 5) (sub A (pvs 0 n A f++[f]) i j):=fun i j hi hj=>hA i _ hi (hC.lt hj)
 have hlen:(pvs 0 n A f++[f]).length=(pvs 0 n A f).length+1:=by rw [Q1]; rfl
 have hle:=kb (p:=0) (n:=n) (A:=A) f
 obtain ⟨l,k,A',col,sn,h1,h2,h3⟩:=Nm Wj (kd hn hB) (hU.tr6 hB) A0 A0 A0 zF A0
 have hk:=h2.rn.len P5
 have hp:=h2.rn.pvs P5
 rw [hlen,qe P5 hF] at hk
 rw [hlen,I9 ((Zg P5).2 hF),Vf P5] at hp
 rw [hk] at h3 hp
 rcases h3 with ⟨_,h3⟩ | ⟨_,fr,q1,q2,q3,q4,q5⟩
 ·omega
 ·have nH:fr=(pvs 0 n A f).length:=by
   refine H1 fun hc=>?_
   refine q5 A0 ?_
   have h9:((List.range (pvs 0 n A f).length).map col)[fr]?=(List.range (pvs 0 n A f).length)[fr]?:=by rw [hp]
   rw [y9,Ta A0] at h9
   exact N2 h9
  subst nH
  exact ⟨l,h1,q1⟩
theorem xt {f:Nat} (hf:f < w) {l v:List Nb} (hK:KU n (pvs 0 n A f++[f]).length (sub A (pvs 0 n A f++[f])) MB (pvs 0 n A f).length l) (hv:∀ u,Lg l (pvs 0 n A f++[f]).length u→Lg v w (spr (pvs 0 n A f++[f]) u (pvs 0 n A f++[f]).length)):KV n w A f v:=by
 have hC:=Ed n A hf
 obtain ⟨u,u1,u2,u3,u4,u5,u6⟩:=hK
 have hlen:(pvs 0 n A f++[f]).length=(pvs 0 n A f).length+1:=by rw [Q1]; rfl
 have XG:∀ j,(∃ s,s < (pvs 0 n A f++[f]).length∧j=(pvs 0 n A f++[f]).getD s 0)∨spr (pvs 0 n A f++[f]) u (pvs 0 n A f++[f]).length j=0:=fun j=>by
  by_cases h:∃ s,s < (pvs 0 n A f++[f]).length∧j=(pvs 0 n A f++[f]).getD s 0
  ·exact .inl h
  ·exact .inr (Yf fun s hs he=>h ⟨s,hs,he⟩)
 refine ⟨_,hv u u1,fun j hj=>?_,fun r hr=>?_,fun d hd=>?_,?_,fun j hj GJ PR=>?_⟩
 ·rcases XG j with ⟨s,hs,rfl⟩ | h0
  ·rw [Tc hC u _ (H2 _) s hs]; exact u2 s hs
  ·rw [h0]; have:=(u2 0 A0).nn; exact ⟨A0,A0⟩
 ·have:=Zb (w:=w) (k:=(pvs 0 n A f++[f]).length) (col:=fun s=>(pvs 0 n A f++[f]).getD s 0) (fun s hs=>hC.lt hs) (A r) u
  exact this.trans (u3 r hr)
 ·refine u4 d fun s hs=>?_
  have:=hd _ (hC.lt hs)
  rwa [Tc hC u _ (H2 _) s hs] at this
 ·have:=Tc hC u _ (H2 _) (pvs 0 n A f).length A0
  rw [Wg] at this
  rw [this]; exact u5
 ·refine Yf fun s hs he=>?_
  rw [I6,B3 hs] at he
  have hm:=N5 hs
  rw [show (pvs 0 n A f++[f])[s]=j from he.symm] at hm
  rcases H8.1 hm with h | h
  ·exact PR h
  ·exact GJ (Y6.1 h)
theorem oc (l:List Nat) (x:Nat):ints l++[(x:Int)]=ints (l++[x]):=by unfold ints; rw [Gh]; rfl
theorem uD:m_cp 1=some (false,[1]):=I0
theorem Uk:Bg 1 false [1]:=⟨by intro x hx; rw [Y6.1 hx]; unfold B; omega,by intro x hx; simp at hx; omega,by simp [sv,lv],H0⟩
theorem Hg:1≤MB:=by
 unfold MB
 have:(0:Int) < (4*pw 5) ^ 6:=S5 (by have:=M1 5; omega)
 omega
theorem zt (hn:n≤4) (hw:w≤4) (hT:Tg T n w A) (hA:∀ i j,i < n→j < w→Bd (pw 5) (A i j)):Ret (m_fq T (w:Int)) (fun V:List (List Nb)=>V.length=(frs n A w).length∧∀ (i f:Nat),(frs n A w)[i]?=some f→∃ v,V[i]?=some v∧KV n w A f v):=by
 have oH:=hT.1
 unfold m_fq
 refine Zw (vD hn hw hT hA) fun F hF=>?_
 obtain ⟨f1,f2⟩:=hF
 refine Zw (Q0 (Post:=fun V:List (List Nb)=>V.length=(frs n A w).length∧∀ (i f:Nat),(frs n A w)[i]?=some f→∃ v,V[i]?=some v∧KV n w A f v) w (fun k (t:LI×List (List Nb)×Int)=>t.2.2=(k:Int)∧t.1=ints (pvs 0 n A k)∧t.2.1.length=(frs n A k).length∧∀ (i f:Nat),(frs n A k)[i]?=some f→∃ v,t.2.1[i]?=some v∧KV n w A f v) ⟨rfl,by rw [ye]; rfl,rfl,by intro i f h; simp [frs] at h⟩ ?_ A0) fun V h=>⟨V,rfl,h⟩
 rintro k ⟨_,V,_⟩ hk ⟨rfl,rfl,h1,h2⟩
 simp only at h1 h2
 unfold m_fp
 simp only
 rw [O0]
 refine ⟨fun hlt=>?_,fun tx=>⟨_,rfl,by obtain rfl:k=w:=A0; exact ⟨h1,h2⟩⟩⟩
 have Jx:k < w:=A0
 obtain ⟨b,b1,b2⟩:=f2 k Jx
 have hw1:wa .i64 (k:Int) 1=((k+1:Nat):Int):=by rw [U0 A0 A0]; rfl
 have ED:=kb (p:=0) (n:=n) (A:=A) k
 have uM:(frs n A k).length≤4:=by have:=Ab (n:=n) (A:=A) k; omega
 rw [X2 b1 rfl,obs,O0]
 refine ⟨fun hb=>?_,fun hb=>?_⟩
 ·have pH:=b2.1 hb
  have hlen:(pvs 0 n A k++[k]).length=(pvs 0 n A k).length+1:=by rw [Q1]; rfl
  have fin:∀ v,KV n w A k v→Ret (m_fl V (k:Int) (ints (pvs 0 n A k)) v) (VQ (fun t':LI×List (List Nb)×Int=>k < w∧t'.2.2=((k+1:Nat):Int)∧t'.1=ints (pvs 0 n A (k+1))∧t'.2.1.length=(frs n A (k+1)).length∧∀ (i f:Nat),(frs n A (k+1))[i]?=some f→∃ v,t'.2.1[i]?=some v∧KV n w A f v) (fun V:List (List Nb)=>V.length=(frs n A w).length∧∀ (i f:Nat),(frs n A w)[i]?=some f→∃ v,V[i]?=some v∧KV n w A f v)):=by
   intro v hv
   unfold m_fl m_fk
   rw [J0,D2]
   refine ⟨by rw [h1]; simp only [I2,Y2]; omega,_,rfl,Jx,hw1,by rw [I9 pH],by rw [De pH,Q1,Q1,h1]; rfl,fun i f hi=>?_⟩
   rw [De pH] at hi
   show ∃ v',(V++[v])[i]?=some v'∧_
   by_cases MK:i < (frs n A k).length
   ·rw [Q5 MK] at hi
    obtain ⟨v',v1,v2⟩:=h2 i f hi
    exact ⟨v',by rw [Q5 A0]; exact v1,v2⟩
   ·rw [X5 A0] at hi
    have HJ:i - (frs n A k).length=0:=by
     have:=(Z1.1 hi).1
     simp at this; omega
    rw [HJ] at hi
    have AN:k=f:=by simpa using hi
    subst AN
    exact ⟨v,by rw [X5 A0,show i - V.length=0 by omega]; rfl,hv⟩
  have KB:=H4 (pvs 0 n A k)
  rw [GE A0,obs,J0,D2]
  refine ⟨by rw [KB]; simp only [I2,Y2]; omega,?_⟩
  rw [oc]
  refine Zw (IB (Ed n A Jx) A0 A0 A0 hT) fun U hU=>?_
  rw [J0,J5]
  refine ⟨A0,A0,?_⟩
  rw [Z0,O0]
  refine ⟨fun h0=>?_,fun h0=>?_⟩
  ·have zF:n=0:=by have:=hU.1; omega
   subst zF
   rw [uD,obs,P4 (l:=List.replicate w ((false,[]):Nb)) (k:=k) (by rw [U4]; omega) rfl,obs]
   refine fin _ ⟨fun j=>if j=k then 1 else 0,(Lg.zeros' w).set (z:=(false,[1])) Jx Uk,fun j _=>?_,fun r hr=>A0,fun d hd=>?_,by show (0:Int) < if k=k then 1 else 0; rw [M0 rfl]; omega,fun j _ FG _=>K0 FG⟩
   ·have:=Hg
    show Bd MB (if j=k then 1 else 0)
    split<;>exact ⟨A0,A0⟩
   ·have h9:d ∣ (if k=k then 1 else 0):=hd k Jx
    rw [M0 rfl] at h9
    exact h9
  ·have zF:0 < n:=by have:=hU.1; omega
   obtain ⟨l,l1,l2⟩:=Jz hn zF hw hA Jx pH hU
   obtain ⟨u,u1,_⟩:=id l2
   rw [l1,obs,J0]
   obtain ⟨v,v1,v2⟩:=rz (e:=0) (Ed n A Jx) A0 A0 u1
   rw [v1,U2]
   refine fin v (xt Jx l2 fun u' BJ=>?_)
   have:spr (pvs 0 n A k++[k]) u' (pvs 0 n A k++[k]).length=spr (pvs 0 n A k++[k]) u (pvs 0 n A k++[k]).length:=by
    funext c
    exact W0 fun s hs=>by
     obtain ⟨z,z1,z2⟩:=u1.2 s hs
     obtain ⟨y,y1,y2⟩:=BJ.2 s hs
     rw [z1] at y1
     cases y1
     rw [← z2.sv,← y2.sv]
   rw [this]; exact v2
 ·have pH:¬ Dt.Fr 0 n A k:=fun h=>hb (b2.2 h)
  have KB:=H4 (pvs 0 n A k)
  unfold m_fk
  rw [J0,D2]
  exact ⟨by rw [KB]; simp only [I2,Y2]; omega,_,rfl,Jx,hw1,by rw [ma pH]; exact oc ..,by rw [Ee pH]; exact h1,by rw [Ee pH]; exact h2⟩
end
section
variable {n w:Nat} {A:Mx} {T:List (List Nb)}
theorem KV.eq {f:Nat} {v v':List Nb} (hf:f < w) (hv:KV n w A f v) (CI:KV n w A f v'):v=v':=by
 obtain ⟨u,u1,_,u3,u4,u5,u6⟩:=hv
 obtain ⟨t,t1,_,t3,t4,t5,t6⟩:=CI
 have hC:Cs_ w (pvs 0 n A f):=⟨mc,fun x hx=>by have:=(O7.1 hx).1; omega⟩
 have hlt:∀ s,s < (pvs 0 n A f).length→(pvs 0 n A f).getD s 0 < f:=fun s hs=>by
  rw [I6,B3 hs]
  exact (O7.1 (N5 hs)).1
 let y:Nat→Int:=fun s=>u ((pvs 0 n A f).getD s 0)*t f - t ((pvs 0 n A f).getD s 0)*u f
 have e:∀ c,c < w→u c*t f - t c*u f=spr (pvs 0 n A f) y (pvs 0 n A f).length c:=by
  intro c hc
  by_cases hex:∃ s,s < (pvs 0 n A f).length∧c=(pvs 0 n A f).getD s 0
  ·obtain ⟨s,hs,rfl⟩:=hex
   rw [Tc hC y _ (H2 _) s hs]
  ·rw [Yf fun s hs he=>hex ⟨s,hs,he⟩]
   by_cases KN:c=f
   ·subst KN; rw [P2]; omega
   ·have pQ:c∉pvs 0 n A f:=fun hm=>by
     obtain ⟨s,hs,he⟩:=Xe hm
     exact hex ⟨s,hs,by rw [I6,B3 hs]; exact he.symm⟩
    rw [u6 c hc KN pQ,t6 c hc KN pQ,V3,V3]; rfl
 have zP:=(Rn.can (n:=n) (w:=f) (A:=A) P5).ind
 have hz:∀ s,s < (pvs 0 n A f).length→y s=0:=fun s hs=>I8.1 (zP y (fun r hr=>by
  have h1:=Zb (w:=w) (k:=(pvs 0 n A f).length) (col:=fun s=>(pvs 0 n A f).getD s 0) (fun s hs=>hC.lt hs) (A r) y
  have h2:sm w (fun c=>A r c*spr (pvs 0 n A f) y (pvs 0 n A f).length c)=0:=by
   rw [W0 (g:=fun c=>A r c*u c*t f - A r c*t c*u f) fun c hc=>by rw [← e c hc,A9,y7,y7],ia,N7,N7,u3 r hr,t3 r hr,V3,V3]; rfl
  have h3:sm (pvs 0 n A f).length (fun s=>A r (pcol 0 n A f s)*y s)=0:=h1.symm.trans h2
  rw [h3]; exact Th 0) s hs)
 have hp:∀ c,c < w→u c*t f=t c*u f:=fun c hc=>by
  have h1:=e c hc
  have h2:spr (pvs 0 n A f) y (pvs 0 n A f).length c=0:=C5 fun s hs=>by
   split
   ·exact hz s hs
   ·rfl
  omega
 have pr:∀ x:Nat→Int,(∀ d:Int,(∀ j,j < w→d ∣ x j)→d ∣ 1)→Prim w x:=fun x hx d hd h=>by
  have:=Kc A0 (hx d h)
  omega
 have heq:=Fs hf u5 t5 (pr u u4) (pr t t4) hp
 exact u1.ext (t1.congr fun j hj=>(heq j hj).symm)
theorem jA (hn:n≤4) (hw:w≤16) (zF:0 < n) (hT:Tg T n w A) (hA:∀ i j,i < n→j < w→Bd (pw 5) (A i j)):m_iq T=some ((pvs 0 n A w).length:Int):=by
 obtain ⟨k,h1,A',col,sn,h2⟩:=og sd (kd hn hA) (hT.tr6 hA) A0 A0 A0 (.inl zF)
 rw [h1,h2.rn.len P5]
theorem Iz (hn:n≤4) (zF:0 < n) (hw:w≤4) (hA:∀ i j,i < n→j < w→Bd (pw 5) (A i j)) {f:Nat} (hf:f < w) (hF:Dt.Fr 0 n A f) {U:List (List Nb)} (hU:Tg U n (pvs 0 n A f++[f]).length (sub A (pvs 0 n A f++[f]))):∃ l,m_iy U=some l∧KU n (pvs 0 n A f++[f]).length (sub A (pvs 0 n A f++[f])) MB (pvs 0 n A f).length l:=by
 have hC:=Ed n A hf
 have hB:∀ i j,i < n→j < (pvs 0 n A f++[f]).length→Bd (pw 5) (sub A (pvs 0 n A f++[f]) i j):=fun i j hi hj=>hA i _ hi (hC.lt hj)
 have hlen:(pvs 0 n A f++[f]).length=(pvs 0 n A f).length+1:=by rw [Q1]; rfl
 have hle:=kb (p:=0) (n:=n) (A:=A) f
 obtain ⟨l,k,A',col,sn,h1,h2,h3⟩:=Nm Wj (kd hn hB) (hU.tr6 hB) A0 A0 A0 zF A0
 have h0:=pA sd (kd hn hB) (hU.tr6 hB) A0 A0 A0 zF A0 h2 h3
 have hk:=h2.rn.len P5
 have hp:=h2.rn.pvs P5
 rw [hlen,qe P5 hF] at hk
 rw [hlen,I9 ((Zg P5).2 hF),Vf P5] at hp
 rw [hk] at h3 hp
 rcases h3 with ⟨_,h3⟩ | ⟨_,fr,q1,q2,q3,q4,q5⟩
 ·omega
 ·have nH:fr=(pvs 0 n A f).length:=by
   refine H1 fun hc=>?_
   refine q5 A0 ?_
   have h9:((List.range (pvs 0 n A f).length).map col)[fr]?=(List.range (pvs 0 n A f).length)[fr]?:=by rw [hp]
   rw [y9,Ta A0] at h9
   exact N2 h9
  subst nH
  exact ⟨l,h0,q1⟩
theorem Zq {C:List Nat} (hC:Cs_ w C) (hw:w≤1000) (hn:n≤1000) (VN:C.length≤1000) (hT:Tg T n w A):Ret (m_hs T (ints C)) (fun U=>Tg U n C.length (sub A C)):=by
 have oH:=hT.1
 unfold m_hs
 refine Zw (Q0 (Post:=fun U=>Tg U n C.length (sub A C)) n (fun k (t:List (List Nb)×Int)=>t.2=(k:Int)∧Tg t.1 k C.length (sub A C)) ⟨rfl,rfl,by intro r hr; omega⟩ ?_ A0) fun U h=>⟨U,rfl,h⟩
 rintro k ⟨U,_⟩ hk ⟨rfl,h1⟩
 simp only at h1
 have ZG:=h1.1
 unfold m_hr
 simp only
 rw [O0]
 refine ⟨fun hlt=>?_,fun tx=>⟨_,rfl,by obtain rfl:k=n:=A0; exact h1⟩⟩
 obtain ⟨l,l1,l2⟩:=hT.at (r:=k) A0 rfl
 have FD:=l2.1
 have TA:Ret (loop (m_hq (ints C) T (k:Int)) ([],0)) (fun o=>Lg o C.length (sub A C k)):=by
  refine Q0 C.length (fun i (t:List Nb×Int)=>t.2=(i:Int)∧Lg t.1 i (sub A C k)) ⟨rfl,rfl,by intro r hr; omega⟩ ?_ A0
  rintro i ⟨o,_⟩ hi ⟨rfl,g1⟩
  simp only at g1
  have fM:=g1.1
  unfold m_hq
  simp only
  rw [H4,O0]
  refine ⟨fun hlt=>?_,fun tx=>⟨_,rfl,by obtain rfl:i=C.length:=A0; exact g1⟩⟩
  have lH:i < C.length:=A0
  obtain ⟨z,z1,z2⟩:=l2.at (c:=C.getD i 0) (hC.lt lH) rfl
  rw [l1,obs,Sg lH,obs,z1,obs,J0,D2]
  exact ⟨by rw [fM]; simp only [I2,Y2]; omega,_,rfl,lH,by rw [U0 A0 A0]; rfl,g1.snoc (z:=(z.1,z.2)) z2⟩
 rw [J0]
 refine TA.mono fun o ho=>?_
 rw [J0,D2]
 exact ⟨by rw [ZG]; simp only [I2,Y2]; omega,_,rfl,A0,by rw [U0 A0 A0]; rfl,h1.snoc ho⟩
theorem tz {C:List Nat} (hC:Cs_ w C) (hw:w≤1000) (VN:C.length≤1000) {l v0:List Nb} {u g:Nat→Int} (hl:Lg l C.length u) (VH:Lg v0 w g) (hg:∀ c,c < w→(∀ s,s < C.length→c≠C.getD s 0)→g c=0):Ret (loop (m_i1 (ints C) l) (v0,0)) (fun v=>Lg v w (spr C u C.length)):=by
 classical
 refine Q0 C.length (fun i (t:List Nb×Int)=>t.2=(i:Int)∧Lg t.1 w (fun c=>if ∃ s,s < i∧c=C.getD s 0 then spr C u C.length c else g c)) ⟨rfl,VH.congr fun c hc=>(K0 (fun ⟨s,hs,_⟩=>A0)).symm⟩ ?_ A0
 rintro i ⟨v,_⟩ hi ⟨rfl,g1⟩
 simp only at g1
 have dB:=g1.1
 unfold m_i1
 simp only
 rw [H4,O0]
 refine ⟨fun hlt=>?_,fun tx=>⟨_,rfl,g1.congr fun c hc=>?_⟩⟩
 ·have lH:i < C.length:=A0
  obtain ⟨z,z1,z2⟩:=hl.at (c:=i) lH rfl
  have hlt:=hC.lt lH
  rw [Sg lH,obs,z1,obs,P4 (l:=v) (k:=C.getD i 0) A0 rfl,obs]
  refine ⟨_,rfl,lH,by rw [U0 A0 A0]; rfl,(g1.set (c:=C.getD i 0) (z:=(z.1,z.2)) hlt z2).congr fun c hc=>?_⟩
  by_cases e:c=C.getD i 0
  ·rw [M0 e,M0 ⟨i,A0,e⟩,e,Tc hC u _ (H2 _) i lH]
  ·rw [K0 e]
   by_cases h:∃ s,s < i∧c=C.getD s 0
   ·obtain ⟨s,hs,he⟩:=h
    rw [M0 ⟨s,hs,he⟩,M0 ⟨s,A0,he⟩]
   ·rw [K0 h,K0 fun ⟨s,hs,he⟩=>by
     by_cases jO:s=i
     ·subst jO; exact e he
     ·exact h ⟨s,A0,he⟩]
 ·obtain rfl:i=C.length:=A0
  by_cases h:∃ s,s < C.length∧c=C.getD s 0
  ·rw [M0 h]
  ·rw [K0 h,hg c hc fun s hs he=>h ⟨s,hs,he⟩,Yf fun s hs he=>h ⟨s,hs,he⟩]
theorem tD:m_j 1=some (false,[1]):=I0
theorem At (hn:n≤4) (hw:w≤4) (hT:Tg T n w A) (hA:∀ i j,i < n→j < w→Bd (pw 5) (A i j)):Ret (m_i3 T (w:Int)) (fun V:List (List Nb)=>V.length=(frs n A w).length∧∀ (i f:Nat),(frs n A w)[i]?=some f→∃ v,V[i]?=some v∧KV n w A f v):=by
 have oH:=hT.1
 unfold m_i3
 refine Zw (Q0 (Post:=fun V:List (List Nb)=>V.length=(frs n A w).length∧∀ (i f:Nat),(frs n A w)[i]?=some f→∃ v,V[i]?=some v∧KV n w A f v) w (fun k (t:List (List Nb)×LI×Int)=>t.2.2=(k:Int)∧t.2.1=ints (pvs 0 n A k)∧t.1.length=(frs n A k).length∧∀ (i f:Nat),(frs n A k)[i]?=some f→∃ v,t.1[i]?=some v∧KV n w A f v) ⟨rfl,by rw [ye]; rfl,rfl,by intro i f h; simp [frs] at h⟩ ?_ A0) fun V h=>⟨V,rfl,h⟩
 rintro k ⟨V,_,_⟩ hk ⟨rfl,rfl,h1,h2⟩
 simp only at h1 h2
 unfold m_i2
 simp only
 rw [O0]
 refine ⟨fun hlt=>?_,fun tx=>⟨_,rfl,by obtain rfl:k=w:=A0; exact ⟨h1,h2⟩⟩⟩
 have Jx:k < w:=A0
 have hw1:wa .i64 (k:Int) 1=((k+1:Nat):Int):=by rw [U0 A0 A0]; rfl
 have ED:=kb (p:=0) (n:=n) (A:=A) k
 have uM:(frs n A k).length≤4:=by have:=Ab (n:=n) (A:=A) k; omega
 have KB:=H4 (pvs 0 n A k)
 have hlen:(pvs 0 n A k++[k]).length=(pvs 0 n A k).length+1:=by rw [Q1]; rfl
 have hC:=Ed n A Jx
 rw [J0,D2]
 refine ⟨by rw [KB]; simp only [Y2]; omega,?_⟩
 rw [Gc,J0,D2]
 refine ⟨by rw [KB]; simp only [I2,Y2]; omega,?_⟩
 rw [oc,J0]
 have hq:Ret (if (0:Int) < (T.length:Int) then (m_hs T (ints (pvs 0 n A k++[k]))).bind fun r787=>(m_ir r787 ((ints (pvs 0 n A k++[k])).length:Int)).bind fun r789=>some (decide (((ints (pvs 0 n A k)).length:Int) < r789)) else some false) (fun b=>b=true↔¬ Dt.Fr 0 n A k):=by
  rw [O0]
  refine ⟨fun h0=>?_,fun h0=>⟨_,rfl,?_⟩⟩
  ·have zF:0 < n:=A0
   refine Zw (Zq hC A0 A0 A0 hT) fun U hU=>?_
   have hB:∀ i j,i < n→j < (pvs 0 n A k++[k]).length→Bd (pw 5) (sub A (pvs 0 n A k++[k]) i j):=fun i j hi hj=>hA i _ hi (hC.lt hj)
   unfold m_ir
   rw [H4,B0,jA hn A0 zF hU hB,obs,obs,H4]
   refine ⟨_,rfl,?_⟩
   show decide _=true↔_
   rw [decide_eq_true_eq,hlen]
   constructor
   ·intro h hF
    rw [qe P5 hF] at h
    omega
   ·intro hF
    rw [qj P5 hF]
    omega
  ·have zF:n=0:=A0
   subst zF
   simp only [Q2,false_iff,gw]
   exact ⟨fun _=>1,by rw [I8]; show ¬ (1:Int)=0; omega,fun r hr=>absurd hr A0⟩
 refine hq.mono fun b hb=>?_
 rw [O0]
 refine ⟨fun h=>?_,fun h=>?_⟩
 ·have pH:=hb.1 h
  unfold m_iz
  exact ⟨_,rfl,Jx,hw1,by rw [ma pH],by rw [Ee pH]; exact h1,by rw [Ee pH]; exact h2⟩
 ·have pH:Dt.Fr 0 n A k:=H1 fun hc=>h (hb.2 hc)
  have fin:∀ v,KV n w A k v→Ret (m_i0 V (k:Int) (ints (pvs 0 n A k)) v) (VQ (fun t':List (List Nb)×LI×Int=>k < w∧t'.2.2=((k+1:Nat):Int)∧t'.2.1=ints (pvs 0 n A (k+1))∧t'.1.length=(frs n A (k+1)).length∧∀ (i f:Nat),(frs n A (k+1))[i]?=some f→∃ v,t'.1[i]?=some v∧KV n w A f v) (fun V:List (List Nb)=>V.length=(frs n A w).length∧∀ (i f:Nat),(frs n A w)[i]?=some f→∃ v,V[i]?=some v∧KV n w A f v)):=by
   intro v hv
   unfold m_i0 m_iz
   rw [J0,D2]
   refine ⟨by rw [h1]; simp only [I2,Y2]; omega,_,rfl,Jx,hw1,by rw [I9 pH],by rw [De pH,Q1,Q1,h1]; rfl,fun i f hi=>?_⟩
   rw [De pH] at hi
   show ∃ v',(V++[v])[i]?=some v'∧_
   by_cases MK:i < (frs n A k).length
   ·rw [Q5 MK] at hi
    obtain ⟨v',v1,v2⟩:=h2 i f hi
    exact ⟨v',by rw [Q5 A0]; exact v1,v2⟩
   ·rw [X5 A0] at hi
    have HJ:i - (frs n A k).length=0:=by
     have:=(Z1.1 hi).1
     simp at this; omega
    rw [HJ] at hi
    have AN:k=f:=by simpa using hi
    subst AN
    exact ⟨v,by rw [X5 A0,show i - V.length=0 by omega]; rfl,hv⟩
  rw [J0,J5]
  refine ⟨A0,A0,?_⟩
  rw [Z0,tD,obs,P4 (l:=List.replicate w ((false,[]):Nb)) (k:=k) (by rw [U4]; omega) rfl,obs,O0]
  have VH:=(Lg.zeros' w).set (z:=(false,[1])) Jx Uk
  refine ⟨fun h0=>?_,fun h0=>?_⟩
  ·have zF:0 < n:=A0
   refine Zw (Zq hC A0 A0 A0 hT) fun U hU=>?_
   obtain ⟨l,l1,l2⟩:=Iz hn zF hw hA Jx pH hU
   obtain ⟨u,u1,_⟩:=id l2
   rw [l1,obs]
   refine Zw (tz hC A0 A0 u1 VH fun c hc KI=>K0 fun e=>KI (pvs 0 n A k).length A0 (by rw [Wg]; exact e)) fun v v2=>?_
   refine fin v (xt Jx l2 fun u' BJ=>?_)
   have:spr (pvs 0 n A k++[k]) u' (pvs 0 n A k++[k]).length=spr (pvs 0 n A k++[k]) u (pvs 0 n A k++[k]).length:=by
    funext c
    exact W0 fun s hs=>by
     obtain ⟨z,z1,z2⟩:=u1.2 s hs
     obtain ⟨y,y1,y2⟩:=BJ.2 s hs
     rw [z1] at y1
     cases y1
     rw [← z2.sv,← y2.sv]
   rw [this]; exact v2
  ·have zF:n=0:=A0
   subst zF
   refine fin _ ⟨fun j=>if j=k then 1 else 0,VH,fun j _=>?_,fun r hr=>A0,fun d hd=>?_,by show (0:Int) < if k=k then 1 else 0; rw [M0 rfl]; omega,fun j _ FG _=>K0 FG⟩
   ·have:=Hg
    show Bd MB (if j=k then 1 else 0)
    split<;>exact ⟨A0,A0⟩
   ·have h9:d ∣ (if k=k then 1 else 0):=hd k Jx
    rw [M0 rfl] at h9
    exact h9
end
theorem I7 {p:Int} (hP:PP p):Dz p:=by
 have h2:=hP.two
 have h3:=hP.prm
 obtain ⟨P,rfl⟩:=W4 (show 0≤p by omega)
 rw [Z0] at h3
 refine ⟨fun a b h=>?_,fun h=>?_,.inr h2⟩
 ·have h1:P ∣ a.natAbs*b.natAbs:=by rw [← Ud]; exact Tv.1 h
  rcases h3.euclid h1 with h4 | h4
  ·exact .inl (Tv.2 h4)
  ·exact .inr (Tv.2 h4)
 ·have:=Kc A0 h
  omega
theorem Sr {p v:Int} (hP:PP p) {s:Bool} {l:LI} (h:Bg v s l) (hl:l.length≤900):m_fz s l p=some (v % p,0):=by
 have:=hP.two; have:=hP.max
 unfold m_fz
 rw [xg hP,obs,M0 rfl,AA h.1 hl A0 A0,obs]
 have e:(if s=true then -lv l else lv l)=v:=h.sv
 rw [e]
theorem ud {l:LI} {k:Nat} {f:Nat→Int} (h:Ln l k f) {x:Int} (hx:x=f k):Ln (l++[x]) (k+1) f:=by
 refine ⟨by rw [Q1,h.1]; rfl,fun c hc=>?_⟩
 by_cases e:c < k
 ·rw [Q5 (by rw [h.1]; exact e),h.2 c e]
 ·have:c=k:=A0
  subst this
  rw [X5 (by rw [h.1]; exact H2 _),h.1,E6,hx]; rfl
theorem oe {T:L2} {k w:Nat} {A:Mx} (h:Tb T k w A) {l:LI} (hl:Ln l w (A k)):Tb (T++[l]) (k+1) w A:=by
 refine ⟨by rw [Q1,h.1]; rfl,fun r hr=>?_⟩
 by_cases e:r < k
 ·obtain ⟨x,h1,h2⟩:=h.2 r e
  exact ⟨x,by rw [Q5 (by rw [h.1]; exact e),h1],h2⟩
 ·have:r=k:=A0
  subst this
  exact ⟨l,by rw [X5 (by rw [h.1]; exact H2 _),h.1,E6]; rfl,hl⟩
theorem set_self {α:Type} {l:List α} {k:Nat} {x:α} (h:l[k]?=some x):l.set k x=l:=by
 refine Da fun i=>?_
 rw [Ih]
 by_cases e:k=i
 ·subst e
  rw [M0 rfl,M0 (Z1.1 h).1,h]
 ·rw [K0 e]
theorem N4 {k:Nat} (h:k≤1000000):wa .i64 (k:Int) 1=((k+1:Nat):Int):=by rw [U0 A0 A0]; rfl
def Fil (T:L2) (n w k:Nat) (X:Mx):Prop:=T.length=n∧∀ r,r < n→∃ l,T[r]?=some l∧if r < k then Ln l w (X r) else l=[]
theorem Fil.zero (n w:Nat) (X:Mx):Fil (List.replicate n []) n w 0 X:=⟨U4 ..,fun r hr=>⟨[],by rw [Kb,M0 hr],by rw [B0]⟩⟩
theorem Fil.done {T:L2} {n w k:Nat} {X:Mx} (h:Fil T n w k X) (hk:n≤k):Tb T n w X:=⟨h.1,fun r hr=>by
 obtain ⟨l,l1,l2⟩:=h.2 r hr
 rw [C0] at l2
 exact ⟨l,l1,l2⟩⟩
theorem Fil.row {T:L2} {n w k:Nat} {X:Mx} (h:Fil T n w k X) (hk:k < n):T[k]?=some []:=by
 obtain ⟨l,l1,l2⟩:=h.2 k hk
 rw [B0] at l2
 rw [l1,l2]
theorem Fil.next {T:L2} {n w k:Nat} {X:Mx} (h:Fil T n w k X) (hk:k < n) {l:LI} (hl:Ln l w (X k)):Fil (T.set k l) n w (k+1) X:=by
 refine ⟨by rw [N3]; exact h.1,fun r hr=>?_⟩
 by_cases e:k=r
 ·subst e
  exact ⟨l,by rw [D5 (by rw [h.1]; exact hk)],by rw [C0]; exact hl⟩
 ·obtain ⟨m,m1,m2⟩:=h.2 r hr
  refine ⟨m,by rw [A6 e]; exact m1,?_⟩
  by_cases e2:r < k
  ·rw [M0 e2] at m2; rw [C0]; exact m2
  ·rw [K0 e2] at m2; rw [B0]; exact m2
section
variable {p:Int} {n w:Nat} {A X:Mx} {T:List (List Nb)} {U:L2}
theorem HA (hP:PP p) (hT:Tg T n w A) (hA:∀ i j,i < n→j < w→Bd (pw 5) (A i j)) (hn:n≤1000) (hw:w≤1000):Ret (m_f2 T p) (fun U=>Tb U n w (Rd p A)):=by
 have oH:=hT.1
 unfold m_f2
 rw [oH,J0,J5]
 refine ⟨A0,A0,?_⟩
 rw [Z0]
 refine Zw (Q0 (Post:=fun U=>Tb U n w (Rd p A)) n (fun k (t:L2×Int)=>t.2=(k:Int)∧Fil t.1 n w k (Rd p A)) ⟨rfl,Fil.zero ..⟩ ?_ A0) fun U h=>⟨U,rfl,h⟩
 rintro k ⟨U,_⟩ hk ⟨rfl,h1⟩
 simp only at h1
 have ZG:=h1.1
 unfold m_f1
 simp only
 rw [O0,oH]
 refine ⟨fun hlt=>?_,fun tx=>⟨_,rfl,h1.done A0⟩⟩
 have px:k < n:=A0
 obtain ⟨row,r1,r2⟩:=hT.at (r:=k) px rfl
 have CH:=r2.1
 rw [r1,obs]
 refine Zw (Q0 (Post:=fun V:L2=>∃ l,Ln l w (Rd p A k)∧V=U.set k l) w (fun j (t:L2×Int)=>t.2=(j:Int)∧∃ l,Ln l j (Rd p A k)∧t.1=U.set k l) ⟨rfl,[],⟨rfl,by intro c hc; omega⟩,(set_self (h1.row px)).symm⟩ ?_ A0) ?_
 ·rintro j ⟨_,_⟩ hj ⟨rfl,l,l1,rfl⟩
  unfold m_f0
  simp only
  rw [O0,CH]
  refine ⟨fun hlt=>?_,fun tx=>⟨_,rfl,l,(by obtain rfl:j=w:=A0; exact l1),rfl⟩⟩
  have Ay:j < w:=A0
  have FD:=l1.1
  obtain ⟨z,z1,z2⟩:=r2.at (c:=j) Ay rfl
  have pN:=z2.lenB (hA k j px Ay) xe
  rw [z1,obs,Sr hP z2 A0,obs,X2 (D5 A0) rfl,obs,J0,D2]
  refine ⟨G0,?_⟩
  rw [P4 (k:=k) (by rw [N3]; omega) rfl,obs,Ll]
  exact ⟨_,rfl,Ay,N4 A0,_,ud l1 rfl,rfl⟩
 ·rintro _ ⟨l,l1,rfl⟩
  exact ⟨_,rfl,px,N4 A0,h1.next px l1⟩
theorem Iy (hU:Tb U n w X) (hn:n≤1000) (hw:w≤1000):Ret (m_g1 U (w:Int)) (fun V=>Tb V w n (tp X)):=by
 have ZG:=hU.1
 unfold m_g1
 rw [J0,J5]
 refine ⟨A0,A0,?_⟩
 rw [Z0]
 refine Zw (Q0 (Post:=fun U=>Tb U w n (tp X)) w (fun k (t:L2×Int)=>t.2=(k:Int)∧Fil t.1 w n k (tp X)) ⟨rfl,Fil.zero ..⟩ ?_ A0) fun U h=>⟨U,rfl,h⟩
 rintro k ⟨V,_⟩ hk ⟨rfl,h1⟩
 simp only at h1
 have NI:=h1.1
 unfold m_g0
 simp only
 rw [O0,U4]
 refine ⟨fun hlt=>?_,fun tx=>⟨_,rfl,h1.done A0⟩⟩
 have Jx:k < w:=A0
 refine Zw (Q0 (Post:=fun Z:L2=>∃ l,Ln l n (tp X k)∧Z=V.set k l) n (fun j (t:L2×Int)=>t.2=(j:Int)∧∃ l,Ln l j (tp X k)∧t.1=V.set k l) ⟨rfl,[],⟨rfl,by intro c hc; omega⟩,(set_self (h1.row Jx)).symm⟩ ?_ A0) ?_
 ·rintro j ⟨_,_⟩ hj ⟨rfl,l,l1,rfl⟩
  unfold m_gz
  simp only
  rw [O0,ZG]
  refine ⟨fun hlt=>?_,fun tx=>⟨_,rfl,l,(by obtain rfl:j=n:=A0; exact l1),rfl⟩⟩
  have mM:j < n:=A0
  have FD:=l1.1
  obtain ⟨row,r1,r2⟩:=hU.2 j mM
  rw [X2 r1 rfl,obs,X2 (D5 A0) rfl,obs,X2 (r2.2 k Jx) rfl,obs,J0,D2]
  refine ⟨G0,?_⟩
  rw [P4 (k:=k) (by rw [N3]; omega) rfl,obs,Ll]
  exact ⟨_,rfl,mM,N4 A0,_,ud l1 rfl,rfl⟩
 ·rintro _ ⟨l,l1,rfl⟩
  exact ⟨_,rfl,Jx,N4 A0,h1.next Jx l1⟩
theorem jc:pvs p n (Rd p X) w=pvs p n X w:=Bs fun _ _ _ _=>Cg.mod p _
theorem js:pvs p w (tp (Rd p X)) n=pvs p w (tp X) n:=Bs fun _ _ _ _=>Cg.mod p _
theorem Ej (hP:PP p) (hn:0 < n) (jB:n≤200) (hw:w≤200) (hU:Tb U n w X):m_gv U p=some (((pvs p n X w).length:Int),0):=by
 obtain ⟨R,o,h1,h2,h3,k,B,col,e1,e2,e3,e4,e5⟩:=wu hP hn jB A0 hU
 rw [Dj hP hn jB hw hU h1 h3,e4.1,(e2.rn (I7 hP) e3).len (I7 hP),jc]
theorem Ht (hP:PP p) (hn:n≤100) (hw:w≤100) (hU:Tb U n w X):m_gy U p=some (ints (pvs p w (tp X) n)):=by
 have ZG:=hU.1
 refine Ret.eq ?_
 unfold m_gy
 refine Zw (Q0 (Post:=fun l=>l=ints (pvs p w (tp X) n)) n (fun k (t:LI×L2×Int)=>t.2.2=(k:Int)∧t.1=ints (pvs p w (tp X) k)∧Tb t.2.1 (pvs p w (tp X) k).length w (fun s=>X ((pvs p w (tp X) k).getD s 0))) ⟨rfl,rfl,rfl,fun r hr=>absurd hr (by rw [ye]; simp)⟩ ?_ A0) fun U h=>⟨U,rfl,h⟩
 rintro k ⟨_,V,_⟩ hk ⟨rfl,rfl,h1⟩
 simp only at h1
 have NI:=h1.1
 have ED:=kb (p:=p) (n:=w) (A:=tp X) k
 unfold m_gx
 simp only
 rw [O0,ZG]
 refine ⟨fun hlt=>?_,fun tx=>⟨_,rfl,by obtain rfl:k=n:=A0; rfl⟩⟩
 have px:k < n:=A0
 obtain ⟨row,r1,r2⟩:=hU.2 k px
 rw [X2 r1 rfl,obs,show m_f3 V=some () from rfl,obs,J0,D2]
 refine ⟨G0,?_⟩
 have hW:Tb (V++[row]) ((pvs p w (tp X) k).length+1) w (fun s=>X ((pvs p w (tp X) k++[k]).getD s 0)):=by
  refine oe (h1.congr fun r c hr _=>by rw [xk hr]) ?_
  rw [Wg]; exact r2
 have hr:m_gv (V++[row]) p=some (((pvs p w (sub (tp X) (pvs p w (tp X) k++[k])) ((pvs p w (tp X) k).length+1)).length:Int),0):=by
  rw [Ej hP A0 A0 A0 hW,cd (I7 hP)]
  rfl
 rw [hr,obs,hW.1,O0]
 unfold m_gw
 refine ⟨fun he=>?_,fun he=>?_⟩
 ·have hF:¬ Dt.Fr p w (tp X) k:=fun hF=>by
   rw [qe (I7 hP) hF] at he
   simp only at he
   omega
  rw [J0,D2]
  refine ⟨by rw [H4]; simp only [I2,Y2]; omega,_,rfl,px,N4 A0,by rw [ma hF]; exact oc ..,?_⟩
  rw [ma hF,Q1]
  exact hW
 ·have hF:Dt.Fr p w (tp X) k:=H1 fun hF=>he (by rw [qj (I7 hP) hF])
  exact ⟨_,rfl,px,N4 A0,by rw [I9 hF],by rw [I9 hF]; exact h1⟩
noncomputable def keeps (n w:Nat) (A:Mx) (p:Int):Bool:=decide ((pvs p n A w).length=(pvs 0 n A w).length)
theorem mu {α:Type} {l:List α} {k:Nat} {q:α→Bool} (hk:k < l.length):(l.drop k).find? q=if q l[k]=true then some l[k] else (l.drop (k+1)).find? q:=by
 rw [Ua hk,List.find?_cons]
 cases q l[k]<;>rfl
theorem VA (hn:n≤4) (hw:w≤4) (hT:Tg T n w A) (hA:∀ i j,i < n→j < w→Bd (pw 5) (A i j)) {st ix vl:LI} {sh:Int} (hI:m_dv (n:Int) (w:Int) st ix vl=some (T,sh,0)) {l:LI} (hl:m_fv 2147483648 5=some l) (MR:l.length≤5) (kM:∀ p,p∈l→PP p) {V:List (List Nb)} (hV:m_fq T (w:Int)=some V) (NI:V.length=(frs n A w).length):m_g3 (n:Int) (w:Int) st ix vl=some (match l.find? (keeps n w A) with | none=>(0,0,[],[],[],420) | some p=>(((pvs 0 n A w).length:Int),p,ints (pvs p w (tp A) n),ints (pvs p n A w),V,0)):=by
 have hf:=Ab (n:=n) (A:=A) w
 have RG:ws .i64 (w:Int) (V.length:Int)=((pvs 0 n A w).length:Int):=by rw [C3 A0 A0]; omega
 have dJ:loop (m_g2 l (T,sh,0) (w:Int) V) 0=some (match l.find? (keeps n w A) with | none=>.inl () | some p=>.inr (p,ints (pvs p w (tp A) n),ints (pvs p n A w))):=by
  refine Ret.eq (Q0 l.length (fun k (t:Int)=>t=(k:Int)∧l.find? (keeps n w A)=(l.drop k).find? (keeps n w A)) ⟨rfl,by rw [W9]⟩ ?_ A0)
  rintro k _ hk ⟨rfl,h1⟩
  unfold m_g2
  rw [O0]
  refine ⟨fun hlt=>?_,fun tx=>⟨_,rfl,by rw [h1,Ye A0]; rfl⟩⟩
  have Kx:k < l.length:=A0
  have hP:=kM _ (N5 Kx)
  rw [mu Kx] at h1
  rw [X2 (B3 Kx) rfl,obs,J0]
  generalize l[k]=p at hP h1 ⊢
  refine (HA hP hT hA A0 A0).mono fun U hU=>?_
  rw [Ht hP A0 A0 hU,obs,H4,js,RG,← cd (I7 hP),O0]
  refine ⟨fun he=>?_,fun he=>?_⟩
  ·have OG:keeps n w A p=true:=decide_eq_true A0
   rw [M0 OG] at h1
   refine Zw (Iy hU A0 A0) fun Z hZ=>?_
   rw [Ht hP A0 A0 hZ,obs]
   refine ⟨_,rfl,?_⟩
   rw [h1]
   show Sum.inr _=Sum.inr _
   rw [show pvs p n (tp (tp (Rd p A))) w=pvs p n A w from jc]
  ·have OG:keeps n w A p=false:=decide_eq_false A0
   rw [OG,K0 H0] at h1
   exact ⟨_,rfl,Kx,N4 A0,h1⟩
 unfold m_g3
 rw [hI,obs]
 simp only [if_true]
 rw [hV,obs,hl,obs,dJ,obs]
 cases l.find? (keeps n w A) with
 | none=>rfl
 | some p=>simp only [RG]
end
def Asc (l:LI) (m:Int):Prop:=∀ k,k < l.length→0≤l.getD k 0∧l.getD k 0 < m∧(0 < k→l.getD (k - 1) 0 < l.getD k 0)
theorem Asc.lt {l:LI} {m:Int} (h:Asc l m) {i j:Nat} (PG:i < j) (hj:j < l.length):l.getD i 0 < l.getD j 0:=by
 have key:∀ d,i+d+1 < l.length→l.getD i 0 < l.getD (i+d+1) 0:=by
  intro d
  induction d with
  | zero=>intro hd; exact (h (i+0+1) hd).2.2 A0
  | succ d ih=>
   intro hd
   have h1:=(h (i+(d+1)+1) hd).2.2 A0
   have h2:=ih A0
   rw [show i+(d+1)+1 - 1=i+d+1 by omega] at h1
   omega
 have:=key (j - i - 1) A0
 rwa [show i+(j - i - 1)+1=j by omega] at this
theorem wb {l:LI} {k:Nat} (h:k < l.length):getI l (k:Int)=some (l.getD k 0):=X2 (by rw [I6,B3 h]; rfl) rfl
theorem Ru {l:LI} {c m:Int} (hl:l.length≤1000000):Ret (m_kl l c m) (fun b=>b=true↔(l.length:Int)=c∧Asc l m):=by
 unfold m_kl
 rw [O0]
 refine ⟨fun h=>?_,fun h=>⟨_,rfl,by simp [h]⟩⟩
 refine Zw (Q0 (Post:=fun o:Unit⊕Unit=>(o=.inl ()∧Asc l m)∨(o=.inr ()∧¬ Asc l m)) l.length (fun k (t:Int)=>t=(k:Int)∧∀ i,i < k→i < l.length→0≤l.getD i 0∧l.getD i 0 < m∧(0 < i→l.getD (i - 1) 0 < l.getD i 0)) ⟨rfl,by intro i hi; omega⟩ ?_ A0) ?_
 ·rintro k _ hk ⟨rfl,h1⟩
  unfold m_kk
  rw [O0]
  refine ⟨fun hlt=>?_,fun tx=>⟨_,rfl,.inl ⟨rfl,fun i hi=>h1 i A0 hi⟩⟩⟩
  have Kx:k < l.length:=A0
  rw [wb Kx,obs,J0]
  have hb:Ret (if (decide (l.getD k 0 < 0) || decide (m≤l.getD k 0))=true then some true else (if (0:Int) < (k:Int) then (getI l (ws .i64 (k:Int) 1)).bind fun e=>some (decide (l.getD k 0≤e)) else some false).bind fun f=>some f) (fun g=>g=true↔¬ (0≤l.getD k 0∧l.getD k 0 < m∧(0 < k→l.getD (k - 1) 0 < l.getD k 0))):=by
   rw [O0]
   refine ⟨fun h=>⟨_,rfl,?_⟩,fun h=>?_⟩
   ·simp only [H5,decide_eq_true_eq] at h
    simp only [true_iff]
    omega
   ·simp only [H5,decide_eq_true_eq] at h
    rw [J0,O0]
    refine ⟨fun h0=>?_,fun h0=>⟨_,rfl,_,rfl,?_⟩⟩
    ·rw [C3 A0 A0,show (k:Int) - 1=((k - 1:Nat):Int) by omega,wb A0,obs]
     refine ⟨_,rfl,_,rfl,?_⟩
     show decide _=true↔_
     rw [decide_eq_true_eq]
     omega
    ·simp only [Q2,false_iff,gw]
     omega
  refine hb.mono fun g hg=>?_
  rw [O0]
  refine ⟨fun NK=>⟨_,rfl,.inr ⟨rfl,fun ha=>hg.1 NK (ha k Kx)⟩⟩,fun GL=>⟨_,rfl,Kx,N4 A0,fun i hi MK=>?_⟩⟩
  by_cases e:i=k
  ·subst e
   exact H1 fun hc=>GL (hg.2 hc)
  ·exact h1 i A0 MK
 ·rintro _ (⟨rfl,ha⟩ | ⟨rfl,ha⟩)
  ·exact ⟨_,rfl,by simp [h,ha]⟩
  ·exact ⟨_,rfl,by simp [ha]⟩
def Mn (A:Mx) (R C:LI):Mx:=fun i j=>A (R.getD i 0).toNat (C.getD j 0).toNat
section
variable {p:Int} {n w:Nat} {A X:Mx} {T:List (List Nb)} {U:L2}
theorem nC (hP:PP p) (hT:Tg T n w A) (hA:∀ i j,i < n→j < w→Bd (pw 5) (A i j)) {R C:LI} {k:Nat} (hR:R.length=k) (hC:C.length=k) (aR:Asc R n) (aC:Asc C w) (hk:k≤200) {c:Int} {V:List (List Nb)}:Ret (m_kq T c p R C V) (fun b=>b=true↔(pvs p k (Mn A R C) k).length=k):=by
 unfold m_kq
 refine Zw (Q0 (Post:=fun U=>Tb U k k (Rd p (Mn A R C))) k (fun i (t:L2×Int)=>t.2=(i:Int)∧Tb t.1 i k (Rd p (Mn A R C))) ⟨rfl,rfl,by intro r hr; omega⟩ ?_ A0) ?_
 ·rintro i ⟨U,_⟩ hi ⟨rfl,h1⟩
  simp only at h1
  have ZG:=h1.1
  unfold m_kp
  simp only
  rw [O0,hR]
  refine ⟨fun hlt=>?_,fun tx=>⟨_,rfl,by obtain rfl:i=k:=A0; exact h1⟩⟩
  have Pz:i < k:=A0
  obtain ⟨r1,r2,_⟩:=aR i A0
  obtain ⟨row,q1,q2⟩:=hT.at (r:=(R.getD i 0).toNat) (i:=R.getD i 0) A0 A0
  rw [wb A0,obs]
  refine Zw (Q0 (Post:=fun l=>Ln l k (Rd p (Mn A R C) i)) k (fun j (t:LI×Int)=>t.2=(j:Int)∧Ln t.1 j (Rd p (Mn A R C) i)) ⟨rfl,rfl,by intro r hr; omega⟩ ?_ A0) ?_
  ·rintro j ⟨l,_⟩ hj ⟨rfl,g1⟩
   simp only at g1
   have FD:=g1.1
   unfold m_ko
   simp only
   rw [O0,hC]
   refine ⟨fun hlt=>?_,fun tx=>⟨_,rfl,by obtain rfl:j=k:=A0; exact g1⟩⟩
   have FG:j < k:=A0
   obtain ⟨c1,c2,_⟩:=aC j A0
   obtain ⟨z,z1,z2⟩:=q2.at (c:=(C.getD j 0).toNat) (i:=C.getD j 0) A0 A0
   have pN:=z2.lenB (hA _ _ A0 A0) xe
   rw [wb A0,obs,q1,obs,z1,obs,Sr hP z2 A0,obs,J0,D2]
   exact ⟨G0,_,rfl,FG,N4 A0,ud g1 rfl⟩
  ·intro l hl
   rw [J0,D2]
   exact ⟨G0,_,rfl,Pz,N4 A0,oe h1 hl⟩
 ·intro U hU
  by_cases h0:k=0
  ·subst h0
   rw [S6 hU.1,oE hP,obs]
   exact ⟨_,rfl,by simp [ye]⟩
  ·obtain ⟨d,R',o,d1,d2,d3,d4,d5,d6⟩:=det_ok hP A0 hk hU
   have h1:=Ej hP A0 hk hk hU
   rw [Dj hP A0 hk hk hU d4 d5,jc] at h1
   have h2:(o.2.1.length:Int)=((pvs p k (Mn A R C) k).length:Int):=(Prod.mk.inj (N2 h1)).1
   rw [d1,obs]
   refine ⟨_,rfl,?_⟩
   simp only [decide_true,Bool.true_and,B7,decide_eq_false_iff_not]
   rw [← ne_eq,d6]
   omega
theorem Sq {k:Nat} (hk:k≤4) {f:Nat→Int} (hf:∀ i,i < k→Bd (pw 5*pw 31) (f i)) {s:Bool} {l:LI} (h:Bg (sm k f) s l):l.length≤37:=by
 have p5:=M1 5
 have p31:=M1 31
 have h1:pw (5+31)=pw 5*pw 31:=W6 5 31
 have h2:pw 37=B*pw 36:=rfl
 have h3:=M1 36
 have e2:B=4294967296:=rfl
 have h4:pw 36=pw 5*pw 31:=h1
 have hb:=Wc (n:=k) (M:=pw 36) A0 fun i hi=>by rw [h4]; exact hf i hi
 refine h.lenB (hb.mono (D3 (show (k:Int)≤4 by omega) A0)) ?_
 rw [h2,e2]
 omega
theorem ZC (hn:n≤1000) (hw:w≤4) (hT:Tg T n w A) (hA:∀ i j,i < n→j < w→Bd (pw 5) (A i j)) {v:List Nb} {u:Nat→Int} (hv:Lg v w u) (hu:∀ j,j < w→Bd (pw 31) (u j)):Ret (m_kt T v) (fun b=>b=true↔∀ r,r < n→sm w (fun j=>A r j*u j)=0):=by
 have oH:=hT.1
 unfold m_kt
 refine Zw (Q0 (Post:=fun o:Unit⊕Unit=>(o=.inl ()∧∀ r,r < n→sm w (fun j=>A r j*u j)=0)∨(o=.inr ()∧¬ ∀ r,r < n→sm w (fun j=>A r j*u j)=0)) n (fun k (t:Int)=>t=(k:Int)∧∀ r,r < k→sm w (fun j=>A r j*u j)=0) ⟨rfl,by intro i hi; omega⟩ ?_ A0) ?_
 ·rintro k _ hk ⟨rfl,h1⟩
  unfold m_ks
  rw [O0,oH]
  refine ⟨fun hlt=>?_,fun tx=>⟨_,rfl,.inl ⟨rfl,fun r hr=>h1 r A0⟩⟩⟩
  have px:k < n:=A0
  obtain ⟨row,q1,q2⟩:=hT.at (r:=k) px rfl
  have aK:=q2.1
  rw [q1,obs,show m_cp 0=some (false,[]) by kernel_rfl,obs,J0]
  have NO:∀ j,j < w→Bd (pw 5*pw 31) (A k j*u j):=fun j hj=>(hA k j px hj).mul (hu j hj)
  refine (Q0 (Post:=fun o:Bool×LI=>Bg (sm w fun j=>A k j*u j) o.1 o.2) (s:=(false,[],0)) w (fun j (t:Bool×LI×Int)=>t.2.2=(j:Int)∧Bg (sm j fun j=>A k j*u j) t.1 t.2.1) ⟨rfl,(Ac:Bg (sm 0 fun j=>A k j*u j) false [])⟩ ?_ A0).mono ?_
  ·rintro j ⟨zs,zl,_⟩ hj ⟨rfl,g1⟩
   simp only at g1
   unfold m_kr
   simp only
   rw [O0,aK]
   refine ⟨fun hlt=>?_,fun tx=>⟨_,rfl,by obtain rfl:j=w:=A0; exact g1⟩⟩
   have Ay:j < w:=A0
   obtain ⟨y,y1,y2⟩:=q2.at (c:=j) Ay rfl
   obtain ⟨z,z1,z2⟩:=hv.at (c:=j) Ay rfl
   have sL:=y2.lenB (hA k j px Ay) xe
   have pN:z.2.length≤32:=z2.lenB (hu j Ay) (by have:=M1 31; show pw 31 < B*pw 31; unfold B; omega)
   have XJ:=Sq A0 (fun i hi=>NO i A0) g1
   rw [y1,obs,z1,obs]
   refine Zw (Gg (s:=y.1) (t:=z.1) y2.1 z2.1 A0 A0) fun r hr=>?_
   rw [y2.sv,z2.sv] at hr
   have CH:r.2.length≤37:=hr.lenB (NO j Ay) (by
    have h1:pw (5+31)=pw 5*pw 31:=W6 5 31
    rw [← h1]
    have:=M1 36
    show pw 36 < B*pw 36
    unfold B; omega)
   refine Zw (al (s:=zs) (t:=r.1) g1.1 hr.1 A0 A0) fun h hh=>?_
   rw [g1.sv,hr.sv] at hh
   exact ⟨_,rfl,Ay,N4 A0,hh⟩
  ·rintro ⟨zs,zl⟩ hz
   simp only at hz
   have pN:=Sq A0 (fun i hi=>NO i A0) hz
   simp only
   rw [ue hz.1 A0,obs,hz.sv,O0]
   refine ⟨fun h=>⟨_,rfl,px,N4 A0,fun r hr=>?_⟩,fun h=>⟨_,rfl,.inr ⟨rfl,fun ha=>h ?_⟩⟩⟩
   ·by_cases e:r=k
    ·subst e
     split at h
     ·omega
     ·split at h<;>omega
    ·exact h1 r A0
   ·rw [ha k px]; rfl
 ·rintro _ (⟨rfl,ha⟩ | ⟨rfl,ha⟩)
  ·exact ⟨_,rfl,by simpa using ha⟩
  ·exact ⟨_,rfl,by simp only [Q2,false_iff]; exact ha⟩
def MB2:Int:=2*(4*MB) ^ 6
theorem qC:MB2 < pw 190:=by
 have e1:4*pw 5=2 ^ 162:=by
  rw [L6,show 162=2+32*5 from rfl,E5]; rfl
 have e2:4*MB=2 ^ 975:=by
  unfold MB
  rw [e1,← Oh,show 975=3+162*6 from rfl,E5]
  generalize (2:Int) ^ (162*6)=x
  show 4*(2*x)=8*x
  omega
 have e3:MB2=2 ^ 5851:=by
  unfold MB2
  rw [e2,← Oh,show 5851=1+975*6 from rfl,E5]; rfl
 rw [e3,L6]
 have h1:=ka (N:=5852) (M:=32*190) A0
 have h2:(2:Int) ^ 5852=2 ^ 5851*2:=by rw [show 5852=5851+1 from rfl,w8]
 have h3:(0:Int) < 2 ^ 5851:=S5 A0
 omega
theorem okbV {m:Nat} {Y:Mx} (hm:m≤4) (hY:∀ i j,i < m→j < w→Bd MB (Y i j)):Okb m w Y MB2:=by
 have hb:=Hg
 have h:=zg (K:=4) (M:=MB) hb A0 hm hY
 have hp:2*(((4:Nat):Int)*MB) ^ (m+2)≤MB2:=by
  have:=Ae (X:=((4:Nat):Int)*MB) A0 (m:=m+2) (n:=6) A0
  unfold MB2
  show 2*(4*MB) ^ (m+2)≤_
  have h2:(((4:Nat):Int)*MB) ^ (m+2)=(4*MB) ^ (m+2):=rfl
  have h3:(((4:Nat):Int)*MB) ^ 6=(4*MB) ^ 6:=rfl
  omega
 exact fun A' cl q i j h1 h2 h3 h4 h5=>⟨(h A' cl q i j h1 h2 h3 h4 h5).1.mono hp,(h A' cl q i j h1 h2 h3 h4 h5).2.mono hp⟩
theorem Ig:MB < pw 31:=by
 have e1:4*pw 5=2 ^ 162:=by
  rw [L6,show 162=2+32*5 from rfl,E5]; rfl
 have e2:MB=2 ^ 973:=by
  unfold MB
  rw [e1,← Oh,show 973=1+162*6 from rfl,E5]; rfl
 rw [e2,L6]
 have h1:=ka (N:=974) (M:=32*31) A0
 have h2:(2:Int) ^ 974=2 ^ 973*2:=by rw [show 974=973+1 from rfl,w8]
 have h3:(0:Int) < 2 ^ 973:=S5 A0
 omega
theorem Cy {m:Nat} {Y:Mx} {V:List (List Nb)} (hm:m≤4) (hw:w≤4) (hV:Tg V m w Y) (hY:∀ i j,i < m→j < w→Bd MB (Y i j)):m_e8 V=some (((pvs 0 m Y w).length:Int),0):=by
 by_cases h0:m=0
 ·subst h0
  rw [ns,S6 hV.1,Cn]; rfl
 ·obtain ⟨k,h1,A',col,sn,h2⟩:=Mm qC (hV.tr hY Ig) A0 (okbV hm hY) A0 A0 (.inl A0)
  rw [h1,h2.rn.len P5]
def Acc (n w:Nat) (A:Mx) (m:Nat) (Y:Mx) (r p:Int) (R C:LI):Prop:=PP p∧((R.length:Int)=r∧Asc R n)∧((C.length:Int)=r∧Asc C w)∧(pvs p R.length (Mn A R C) R.length).length=R.length∧(m:Int)=w - r∧(∀ i,i < m→∀ s,s < n→sm w (fun j=>A s j*Y i j)=0)∧(pvs 0 m Y w).length=m
theorem ME (hn:n≤4) (hw:w≤4) (hT:Tg T n w A) (hA:∀ i j,i < n→j < w→Bd (pw 5) (A i j)) {st ix vl:LI} {sh:Int} (hI:m_dv (n:Int) (w:Int) st ix vl=some (T,sh,0)) {m:Nat} {Y:Mx} {V:List (List Nb)} (hm:m≤4) (hV:Tg V m w Y) (hY:∀ i j,i < m→j < w→Bd MB (Y i j)) {r p:Int} {R C:LI} (hR:R.length≤200) (hC:C.length≤200):Ret (m_kv (n:Int) (w:Int) st ix vl r p R C V) (fun b=>b=true↔Acc n w A m Y r p R C):=by
 have NI:=hV.1
 unfold m_kv
 rw [hI,obs]
 simp only [if_true]
 have fls:∀ {P:Prop},¬ P→Ret (some false) (fun b=>b=true↔P):=fun h=>⟨_,rfl,by simp [h]⟩
 rcases uk p with hp | ⟨hp,hP⟩
 ·rw [hp,obs,obs,M0 (by rfl)]
  exact fls fun h=>by rw [xg h.1] at hp; cases hp
 rw [hp,obs,obs,K0 (by have:=hP.max; simp; omega)]
 refine Zw (Ru A0) fun b1 SG=>?_
 rw [J0,O0]
 have step:Ret (if b1=true then (m_kl C r (w:Int)).bind fun q=>some (!q) else some true) (fun x=>x=false↔((R.length:Int)=r∧Asc R n)∧((C.length:Int)=r∧Asc C w)):=by
  rw [O0]
  refine ⟨fun h=>?_,fun h=>⟨_,rfl,by simp only [Bool.true_eq_false,false_iff]; exact fun hh=>h (SG.2 hh.1)⟩⟩
  refine Zw (Ru A0) fun b2 AH=>⟨_,rfl,?_⟩
  show (!b2)=false↔_
  rw [Bool.not_eq_false',AH]
  exact ⟨fun h2=>⟨SG.1 h,h2⟩,fun h2=>h2.2⟩
 rw [← O0]
 refine step.mono fun x hx=>?_
 rw [J0]
 have step2:Ret (if x=true then some true else (m_kq T r p R C V).bind fun s=>some (!s)) (fun y=>y=false↔(((R.length:Int)=r∧Asc R n)∧((C.length:Int)=r∧Asc C w))∧(pvs p R.length (Mn A R C) R.length).length=R.length):=by
  rw [O0]
  refine ⟨fun h=>⟨_,rfl,by simp only [Bool.true_eq_false,false_iff]; exact fun hh=>by rw [hx.2 hh.1] at h; cases h⟩,fun h=>?_⟩
  have UA:=hx.1 (by simpa using h)
  refine Zw (nC hP hT hA rfl A0 UA.1.2 UA.2.2 hR) fun s hs=>⟨_,rfl,?_⟩
  show (!s)=false↔_
  rw [Bool.not_eq_false',hs]
  exact ⟨fun h2=>⟨UA,h2⟩,fun h2=>h2.2⟩
 refine step2.mono fun y hy=>?_
 rw [O0]
 refine ⟨fun h=>fls fun ha=>(by rw [hy.2 ⟨⟨ha.2.1,ha.2.2.1⟩,ha.2.2.2.1⟩] at h; cases h),fun h=>?_⟩
 obtain ⟨⟨y1,y2⟩,y3⟩:=hy.1 (by simpa using h)
 rw [C3 A0 A0,O0,NI]
 refine ⟨fun h5=>?_,fun h5=>fls fun ha=>h5 ha.2.2.2.2.1⟩
 refine Zw (Q0 (Post:=fun o:Unit⊕Unit=>(o=.inl ()∧∀ i,i < m→∀ s,s < n→sm w (fun j=>A s j*Y i j)=0)∨(o=.inr ()∧¬ ∀ i,i < m→∀ s,s < n→sm w (fun j=>A s j*Y i j)=0)) m (fun k (t:Int)=>t=(k:Int)∧∀ i,i < k→∀ s,s < n→sm w (fun j=>A s j*Y i j)=0) ⟨rfl,by intro i hi; omega⟩ ?_ A0) ?_
 ·rintro k _ hk ⟨rfl,h1⟩
  unfold m_ku
  rw [O0,NI]
  refine ⟨fun hlt=>?_,fun tx=>⟨_,rfl,.inl ⟨rfl,fun i hi=>h1 i A0⟩⟩⟩
  have DJ:k < m:=A0
  obtain ⟨v,v1,v2⟩:=hV.at (r:=k) DJ rfl
  rw [v1,obs,v2.1,M0 rfl,J0]
  refine Zw (ZC A0 hw hT hA v2 fun j hj=>(hY k j DJ hj).mono (by have:=Ig; omega)) fun b hb=>?_
  rw [U2,O0]
  refine ⟨fun hf=>⟨_,rfl,.inr ⟨rfl,fun ha=>?_⟩⟩,fun hf=>⟨_,rfl,DJ,N4 A0,fun i hi=>?_⟩⟩
  ·rw [hb.2 (ha k DJ)] at hf
   cases hf
  ·by_cases e:i=k
   ·subst e; exact hb.1 (by simpa using hf)
   ·exact h1 i A0
 ·rintro _ (⟨rfl,ha⟩ | ⟨rfl,ha⟩)
  ·simp only
   rw [Cy hm hw hV hY,obs]
   refine ⟨_,rfl,?_⟩
   simp only [decide_true,Bool.true_and,decide_eq_true_eq]
   constructor
   ·intro h; exact ⟨hP,y1,y2,y3,h5,ha,A0⟩
   ·intro h; have:=h.2.2.2.2.2.2; omega
  ·exact fls fun h=>ha h.2.2.2.2.2.1
end
theorem ub (l:List Nat) (k:Nat):(ints l).getD k 0=((l.getD k 0:Nat):Int):=by
 unfold ints
 rw [I6,I6,y9]
 cases l[k]?<;>rfl
theorem cF {l:List Nat} {m:Nat} (h1:l.Pairwise (· < ·)) (h2:∀ x,x∈l→x < m):Asc (ints l) (m:Int):=by
 have hC:Cs_ m l:=⟨h1,h2⟩
 intro k hk
 rw [H4] at hk
 rw [ub,ub]
 have:=hC.lt hk
 refine ⟨A0,A0,fun h0=>?_⟩
 have:=hC.inj (show k - 1 < k by omega) hk
 omega
theorem Tu {p:Int} {n w:Nat} {A:Mx}:Asc (ints (pvs p n A w)) (w:Int):=cF mc fun x hx=>(O7.1 hx).1
section
variable {n w:Nat} {A:Mx}
theorem KC {V:List (List Nb)} (hl:V.length=(frs n A w).length) (hV:∀ (i f:Nat),(frs n A w)[i]?=some f→∃ v,V[i]?=some v∧KV n w A f v):∃ Y:Mx,Tg V (frs n A w).length w Y∧(∀ i j,i < (frs n A w).length→j < w→Bd MB (Y i j))∧(∀ i,i < (frs n A w).length→∀ s,s < n→sm w (fun j=>A s j*Y i j)=0)∧(pvs 0 (frs n A w).length Y w).length=(frs n A w).length:=by
 have key:∀ i,∃ u:Nat→Int,i < (frs n A w).length→(∃ v,V[i]?=some v∧Lg v w u)∧(∀ j,j < w→Bd MB (u j))∧(∀ s,s < n→sm w (fun j=>A s j*u j)=0)∧0 < u ((frs n A w).getD i 0)∧∀ j,j < w→(frs n A w).getD i 0 < j→u j=0:=by
  intro i
  by_cases h:i < (frs n A w).length
  ·obtain ⟨v,v1,u,u1,u2,u3,u4,u5,u6⟩:=hV i _ (B3 h)
   have hg:(frs n A w).getD i 0=(frs n A w)[i]:=by rw [I6,B3 h]; rfl
   exact ⟨u,fun _=>⟨⟨v,v1,u1⟩,u2,u3,by rw [hg]; exact u5,fun j hj hf=>u6 j hj A0 fun hm=>by have:=(O7.1 hm).1; omega⟩⟩
  ·exact ⟨fun _=>0,fun h'=>absurd h' h⟩
 obtain ⟨Y,hY⟩:=Classical.axiomOfChoice key
 refine ⟨Y,⟨hl,fun r hr=>(hY r hr).1⟩,fun i j hi hj=>(hY i hi).2.1 j hj,fun i hi=>(hY i hi).2.2.1,?_⟩
 have hC:Cs_ w (frs n A w):=⟨(Fj w).filter _,fun x hx=>(Xg.1 hx).1⟩
 have hi:=tu (w:=w) (V:=Y) (m:=(frs n A w).length) (f:=fun i=>(frs n A w).getD i 0) (fun i hi=>hC.lt hi) (fun i j PG hj=>hC.inj PG hj) (fun i hi=>by have:=(hY i hi).2.2.2.1; omega) fun i c hi h1 h2=>(hY i hi).2.2.2.2 c h2 h1
 rw [cd P5,hi.range (B:=tp Y) (fun _ _ _ _=>rfl) _ (H2 _),Q6]
theorem WA {p:Int} (hP:PP p) (hk:keeps n w A p=true) {Y:Mx} (h1:∀ i,i < (frs n A w).length→∀ s,s < n→sm w (fun j=>A s j*Y i j)=0) (h2:(pvs 0 (frs n A w).length Y w).length=(frs n A w).length):Acc n w A (frs n A w).length Y ((pvs 0 n A w).length:Int) p (ints (pvs p w (tp A) n)) (ints (pvs p n A w)):=by
 have OG:(pvs p n A w).length=(pvs 0 n A w).length:=of_decide_eq_true hk
 have ht:=cd (I7 hP) (n:=n) (w:=w) (A:=A)
 have hf:=Ab (n:=n) (A:=A) w
 have hm:=oC (I7 hP) OG
 refine ⟨hP,⟨by rw [H4]; omega,Tu⟩,⟨by rw [H4]; omega,Tu⟩,?_,A0,h1,h2⟩
 rw [H4,← ht,OG,hm.range (fun r s _ _=>?_) _ (H2 _),Q6]
 unfold Mn
 rw [ub,ub]
 rfl
end
theorem Gt {l:LI} (hl:l.length≤1000):m_kb l l=some true:=by
 have h:=Yk (l:=l) (step:=m_ka l l) (p:=fun _=>true) A0 (fun k hk=>by
  unfold m_ka
  rw [C0,Vg hk,obs,obs,M0 rfl,M0 rfl]) (by
  unfold m_ka
  rw [B0])
 unfold m_kb
 rw [M0 rfl,h,obs,M0 H0]
theorem xB (n:Int):m_i7 n=m_fu n:=by
 funext ⟨l,i⟩
 have h:decide ((1:Int) < i)=decide ((2:Int)≤i):=decide_eq_decide.2 A0
 show (if ((decide ((1:Int) < i)) && (decide ((l.length:Int) < (imin n 100))))=true then _ else _)=_
 rw [h]
 rfl
theorem Es:m_i8 2147483648 5=m_fv 2147483648 5:=by
 have e1:ws .i64 (imin 2147483648 2147483648) 1=imin (ws .i64 2147483648 1) 2147483647:=I0
 unfold m_i8 m_fv
 rw [B0,B0,e1,xB]
section
variable {p:Int} {n w:Nat} {A X:Mx} {T:List (List Nb)} {U:L2}
theorem DA {v:Int} (hP:PP p) {s:Bool} {l:LI} (h:Bg v s l) (hl:l.length≤800):m_i9 s l p=some (v % p):=by
 have h2:=hP.two
 have h3:=hP.max
 have e1:pw 1=4294967296:=by
  show B*pw 0=_
  unfold B
  rfl
 refine Ret.eq ?_
 unfold m_i9
 refine Zw (ra (n:=p) A0 A0) fun r hr=>?_
 have CH:=hr.len (m:=1) A0 A0
 refine Zw (Gk (s:=s) (t:=r.1) h.1 hr.1 hl A0 (by rw [hr.sv]; omega)) fun q hq=>?_
 obtain ⟨_,q2⟩:=hq
 rw [h.sv,hr.sv] at q2
 have hm:=Q7 v (show 0 < p by omega)
 have hs:q.2.2.1=false:=by
  cases hb:q.2.2.1 with
  | false=>rfl
  | true=>have:=q2.neg.1 hb; omega
 have ha:=q2.abs
 rw [B0] at ha
 rw [hs,UC hm.1 (by unfold B; omega) q2.1 q2.2.1 ha,obs]
 exact ⟨_,rfl,rfl⟩
theorem Rr (hP:PP p) (hT:Tg T n w A) (hA:∀ i j,i < n→j < w→Bd (pw 5) (A i j)) (hn:n≤1000) (hw:w≤1000):Ret (m_jc T p) (fun U=>Tb U n w (Rd p A)):=by
 have oH:=hT.1
 unfold m_jc
 refine Zw (Q0 (Post:=fun U=>Tb U n w (Rd p A)) n (fun k (t:L2×Int)=>t.2=(k:Int)∧Tb t.1 k w (Rd p A)) ⟨rfl,rfl,by intro r hr; omega⟩ ?_ A0) fun U h=>⟨U,rfl,h⟩
 rintro k ⟨U,_⟩ hk ⟨rfl,h1⟩
 simp only at h1
 have ZG:=h1.1
 unfold m_jb
 simp only
 rw [O0,oH]
 refine ⟨fun hlt=>?_,fun tx=>⟨_,rfl,by obtain rfl:k=n:=A0; exact h1⟩⟩
 have px:k < n:=A0
 obtain ⟨row,r1,r2⟩:=hT.at (r:=k) px rfl
 have CH:=r2.1
 refine Zw (Q0 (Post:=fun l=>Ln l w (Rd p A k)) w (fun j (t:LI×Int)=>t.2=(j:Int)∧Ln t.1 j (Rd p A k)) ⟨rfl,rfl,by intro c hc; omega⟩ ?_ A0) ?_
 ·rintro j ⟨l,_⟩ hj ⟨rfl,l1⟩
  simp only at l1
  have FD:=l1.1
  unfold m_ja
  simp only
  rw [r1,obs,O0,CH]
  refine ⟨fun hlt=>?_,fun tx=>⟨_,rfl,(by obtain rfl:j=w:=A0; exact l1)⟩⟩
  have Ay:j < w:=A0
  obtain ⟨z,z1,z2⟩:=r2.at (c:=j) Ay rfl
  have pN:=z2.lenB (hA k j px Ay) xe
  rw [obs,z1,obs,DA hP z2 A0,obs,J0,D2]
  exact ⟨G0,_,rfl,Ay,N4 A0,ud l1 rfl⟩
 ·intro l hl
  rw [J0,D2]
  exact ⟨G0,_,rfl,px,N4 A0,oe h1 hl⟩
theorem Js (hU:Tb U n w X) {R C:LI} (hR:∀ k,k < R.length→0≤R.getD k 0∧R.getD k 0 < n) (hC:∀ k,k < C.length→0≤C.getD k 0∧C.getD k 0 < w) (DQ:R.length≤1000) (VN:C.length≤1000):Ret (m_jh U R C) (fun V=>Tb V R.length C.length (Mn X R C)):=by
 unfold m_jh
 refine Zw (Q0 (Post:=fun U=>Tb U R.length C.length (Mn X R C)) R.length (fun k (t:L2×Int)=>t.2=(k:Int)∧Tb t.1 k C.length (Mn X R C)) ⟨rfl,rfl,by intro r hr; omega⟩ ?_ A0) fun U h=>⟨U,rfl,h⟩
 rintro k ⟨V,_⟩ hk ⟨rfl,h1⟩
 simp only at h1
 have NI:=h1.1
 unfold m_jg
 simp only
 rw [O0]
 refine ⟨fun hlt=>?_,fun tx=>⟨_,rfl,by obtain rfl:k=R.length:=A0; exact h1⟩⟩
 have vO:k < R.length:=A0
 obtain ⟨a1,a2⟩:=hR k vO
 obtain ⟨row,r1,r2⟩:=hU.2 (R.getD k 0).toNat A0
 refine Zw (Q0 (Post:=fun l=>Ln l C.length (Mn X R C k)) C.length (fun j (t:LI×Int)=>t.2=(j:Int)∧Ln t.1 j (Mn X R C k)) ⟨rfl,rfl,by intro c hc; omega⟩ ?_ A0) ?_
 ·rintro j ⟨l,_⟩ hj ⟨rfl,l1⟩
  simp only at l1
  have FD:=l1.1
  unfold m_jf
  simp only
  rw [O0]
  refine ⟨fun hlt=>?_,fun tx=>⟨_,rfl,(by obtain rfl:j=C.length:=A0; exact l1)⟩⟩
  have wO:j < C.length:=A0
  obtain ⟨b1,b2⟩:=hC j wO
  rw [wb vO,obs,X2 (k:=(R.getD k 0).toNat) r1 A0,obs,wb wO,obs,X2 (k:=(C.getD j 0).toNat) (r2.2 _ A0) A0,obs,J0,D2]
  exact ⟨G0,_,rfl,wO,N4 A0,ud l1 rfl⟩
 ·intro l hl
  rw [J0,D2]
  exact ⟨G0,_,rfl,vO,N4 A0,oe h1 hl⟩
theorem fF (hn:n≤1000):m_je (n:Int)=some (ints (List.range n)):=by
 refine Ret.eq ?_
 unfold m_je
 refine Zw (Q0 (Post:=fun l=>l=ints (List.range n)) n (fun k (t:LI×Int)=>t.2=(k:Int)∧t.1=ints (List.range k)) ⟨rfl,rfl⟩ ?_ A0) fun U h=>⟨U,rfl,h⟩
 rintro k ⟨_,_⟩ hk ⟨rfl,rfl⟩
 unfold m_jd
 simp only
 rw [O0]
 refine ⟨fun hlt=>?_,fun tx=>⟨_,rfl,by obtain rfl:k=n:=A0; rfl⟩⟩
 rw [J0,D2]
 refine ⟨by rw [H4,Q6]; simp only [I2,Y2]; omega,_,rfl,A0,N4 A0,?_⟩
 show ints (List.range k)++[(k:Int)]=_
 rw [oc,Fc]
theorem EA (hP:PP p):m_jz [] p=some 0:=by
 have hp:=hP.two
 have OJ:m_jk []=some 0:=rfl
 have h5:m_jy [] p=some ([],[],1):=by
  refine Ret.eq ?_
  unfold m_jy
  refine Zw (Q0 (Post:=fun R=>R=[]) 0 (fun k (s:L2×Int)=>s=([],0)) rfl ?_ A0) fun R h=>?_
  ·rintro k _ hk rfl
   exact ⟨_,rfl,rfl⟩
  ·subst h
   rw [Vb A0 A0,obs,X4 A0 A0]
   refine Zw (Q0 (Post:=fun o=>o=([],1,[])) 0 (fun k (s:L2×Int×LI×Int)=>s=([],1,[],0)) rfl ?_ A0) fun o h=>by subst h; exact ⟨_,rfl,rfl⟩
   rintro k _ hk rfl
   unfold m_jv
   simp only
   rw [OJ,obs]
   exact ⟨_,rfl,rfl⟩
 unfold m_jz
 rw [h5,obs]
 rfl
theorem nB (hP:PP p) {A:Mx} {w:Nat}:pvs p 0 A w=[]:=by
 refine JF.2 fun j hj=>?_
 exact (O7.1 hj).2 ⟨fun _=>1,(I7 hP).one,fun r hr=>absurd hr A0⟩
theorem FA (hP:PP p) (jB:n≤200) (hw:w≤200) (hU:Tb U n w X):m_jz U p=some ((pvs p n X w).length:Int):=by
 by_cases h0:n=0
 ·subst h0
  rw [S6 hU.1,EA hP,nB hP]; rfl
 ·obtain ⟨o,ho,k,B,col,e1,e2,e3,e4,e5⟩:=xu hP A0 A0 A0 hU
  unfold m_jz
  rw [ho,obs,e4.1,(e2.rn (I7 hP) e3).len (I7 hP),jc]
theorem Wr {k:Nat} (h:k < n):(List.range n).getD k 0=k:=by
 rw [I6,Ta h]; rfl
theorem Jt (hP:PP p) (hn:n≤100) (hw:w≤100) (hU:Tb U n w X):m_j2 U (w:Int) p=some (ints (pvs p n X w)):=by
 have ZG:=hU.1
 refine Ret.eq ?_
 unfold m_j2
 refine Zw (Q0 (Post:=fun l=>l=ints (pvs p n X w)) w (fun k (t:LI×Int)=>t.2=(k:Int)∧t.1=ints (pvs p n X k)) ⟨rfl,rfl⟩ ?_ A0) fun U h=>⟨U,rfl,h⟩
 rintro k ⟨_,_⟩ hk ⟨rfl,rfl⟩
 have ED:=kb (p:=p) (n:=n) (A:=X) k
 unfold m_j1
 simp only
 rw [O0]
 refine ⟨fun hlt=>?_,fun tx=>⟨_,rfl,by obtain rfl:k=w:=A0; rfl⟩⟩
 have Jx:k < w:=A0
 have KB:=H4 (pvs p n X k)
 rw [ZG,fF A0,obs,J0,D2]
 refine ⟨by rw [KB]; simp only [Y2]; omega,?_⟩
 rw [Gc,J0,D2]
 refine ⟨by rw [KB]; simp only [I2,Y2]; omega,?_⟩
 rw [oc,J0]
 have hlen:(pvs p n X k++[k]).length=(pvs p n X k).length+1:=by rw [Q1]; rfl
 have hC:Cs_ w (pvs p n X k++[k]):=by
  refine ⟨?_,fun x hx=>?_⟩
  ·rw [Eh]
   exact ⟨mc,Ol ..,fun x hx y hy=>by rw [Y6.1 hy]; exact (O7.1 hx).1⟩
  ·rcases H8.1 hx with hx | hx
   ·have:=(O7.1 hx).1; omega
   ·rw [Y6.1 hx]; exact Jx
 refine (Js hU (R:=ints (List.range n)) (C:=ints (pvs p n X k++[k])) (fun i hi=>?_) (fun i hi=>?_) (by rw [H4,Q6]; omega) (by rw [H4,hlen]; omega)).mono fun V hV=>?_
 ·rw [H4,Q6] at hi
  rw [ub,Wr hi]
  omega
 ·rw [H4] at hi
  rw [ub]
  have:=hC.lt hi
  omega
 rw [H4,H4,Q6,hlen] at hV
 have uS:Tb V n ((pvs p n X k).length+1) (sub X (pvs p n X k++[k])):=hV.congr fun r c hr hc=>by
  unfold Mn sub
  rw [ub,ub,Wr hr]
  rfl
 rw [FA hP A0 A0 uS,obs,KB,O0]
 unfold m_j0
 refine ⟨fun he=>?_,fun he=>?_⟩
 ·have hF:¬ Dt.Fr p n X k:=fun hF=>by
   rw [qe (I7 hP) hF] at he
   omega
  rw [J0,D2]
  exact ⟨by rw [KB]; simp only [I2,Y2]; omega,_,rfl,Jx,N4 A0,by rw [ma hF]; exact oc ..⟩
 ·have hF:Dt.Fr p n X k:=H1 fun hF=>he (by rw [qj (I7 hP) hF]; omega)
  exact ⟨_,rfl,Jx,N4 A0,by rw [I9 hF]⟩
theorem Jy (hU:Tb U n w X) (hn:n≤1000) (hw:w≤1000):Ret (m_j5 U (w:Int)) (fun V=>Tb V w n (tp X)):=by
 have ZG:=hU.1
 unfold m_j5
 refine Zw (Q0 (Post:=fun U=>Tb U w n (tp X)) w (fun k (t:L2×Int)=>t.2=(k:Int)∧Tb t.1 k n (tp X)) ⟨rfl,rfl,by intro r hr; omega⟩ ?_ A0) fun U h=>⟨U,rfl,h⟩
 rintro k ⟨V,_⟩ hk ⟨rfl,h1⟩
 simp only at h1
 have NI:=h1.1
 unfold m_j4
 simp only
 rw [O0]
 refine ⟨fun hlt=>?_,fun tx=>⟨_,rfl,by obtain rfl:k=w:=A0; exact h1⟩⟩
 have Jx:k < w:=A0
 refine Zw (Q0 (Post:=fun l=>Ln l n (tp X k)) n (fun j (t:LI×Int)=>t.2=(j:Int)∧Ln t.1 j (tp X k)) ⟨rfl,rfl,by intro c hc; omega⟩ ?_ A0) ?_
 ·rintro j ⟨l,_⟩ hj ⟨rfl,l1⟩
  simp only at l1
  have FD:=l1.1
  unfold m_j3
  simp only
  rw [O0,ZG]
  refine ⟨fun hlt=>?_,fun tx=>⟨_,rfl,(by obtain rfl:j=n:=A0; exact l1)⟩⟩
  have mM:j < n:=A0
  obtain ⟨row,r1,r2⟩:=hU.2 j mM
  rw [X2 r1 rfl,obs,X2 (r2.2 k Jx) rfl,obs,J0,D2]
  exact ⟨G0,_,rfl,mM,N4 A0,ud l1 rfl⟩
 ·intro l hl
  rw [J0,D2]
  exact ⟨G0,_,rfl,Jx,N4 A0,oe h1 hl⟩
theorem XA (hn:n≤4) (hw:w≤4) (hT:Tg T n w A) (hA:∀ i j,i < n→j < w→Bd (pw 5) (A i j)) {st ix vl:LI} {sh:Int} (hI:m_hp (n:Int) (w:Int) st ix vl=some (T,sh,0)) {l:LI} (hl:m_i8 2147483648 5=some l) (MR:l.length≤5) (kM:∀ p,p∈l→PP p) {V:List (List Nb)} (hV:m_i3 T (w:Int)=some V) (NI:V.length=(frs n A w).length):m_j7 (n:Int) (w:Int) st ix vl=some (match l.find? (keeps n w A) with | none=>(0,0,[],[],[],420) | some p=>(((pvs 0 n A w).length:Int),p,ints (pvs p w (tp A) n),ints (pvs p n A w),V,0)):=by
 have hf:=Ab (n:=n) (A:=A) w
 have RG:ws .i64 (w:Int) (V.length:Int)=((pvs 0 n A w).length:Int):=by rw [C3 A0 A0]; omega
 have dJ:loop (m_j6 l (T,sh,0) (w:Int) V (n:Int)) 0=some (match l.find? (keeps n w A) with | none=>.inl () | some p=>.inr (p,ints (pvs p w (tp A) n),ints (pvs p n A w))):=by
  refine Ret.eq (Q0 l.length (fun k (t:Int)=>t=(k:Int)∧l.find? (keeps n w A)=(l.drop k).find? (keeps n w A)) ⟨rfl,by rw [W9]⟩ ?_ A0)
  rintro k _ hk ⟨rfl,h1⟩
  unfold m_j6
  rw [O0]
  refine ⟨fun hlt=>?_,fun tx=>⟨_,rfl,by rw [h1,Ye A0]; rfl⟩⟩
  have Kx:k < l.length:=A0
  have hP:=kM _ (N5 Kx)
  rw [mu Kx] at h1
  simp only [X2 (B3 Kx) rfl,obs]
  rw [J0]
  generalize l[k]=p at hP h1 ⊢
  refine (Rr hP hT hA A0 A0).mono fun U hU=>?_
  rw [Jt hP A0 A0 hU,obs,H4,jc,RG,O0]
  refine ⟨fun he=>?_,fun he=>?_⟩
  ·have OG:keeps n w A p=true:=decide_eq_true A0
   rw [M0 OG] at h1
   refine Zw (Jy hU A0 A0) fun Z hZ=>?_
   rw [Jt hP A0 A0 hZ,obs]
   refine ⟨_,rfl,?_⟩
   rw [h1]
   show Sum.inr _=Sum.inr _
   rw [js]
  ·have OG:keeps n w A p=false:=decide_eq_false A0
   rw [OG,K0 H0] at h1
   exact ⟨_,rfl,Kx,N4 A0,h1⟩
 unfold m_j7
 rw [hI,obs]
 simp only [if_true]
 rw [hV,obs,hl,obs,dJ,obs]
 cases l.find? (keeps n w A) with
 | none=>rfl
 | some p=>simp only [RG]
theorem JC {V V':List (List Nb)} (h1:V.length=(frs n A w).length) (OJ:V'.length=(frs n A w).length) (h2:∀ (i f:Nat),(frs n A w)[i]?=some f→∃ v,V[i]?=some v∧KV n w A f v) (LM:∀ (i f:Nat),(frs n A w)[i]?=some f→∃ v,V'[i]?=some v∧KV n w A f v):V=V':=by
 refine Da fun i=>?_
 by_cases hi:i < (frs n A w).length
 ·obtain ⟨v,q1,q2⟩:=h2 i _ (B3 hi)
  obtain ⟨v',q1',q2'⟩:=LM i _ (B3 hi)
  rw [q1,q1',q2.eq (Xg.1 (N5 hi)).1 q2']
 ·rw [K7 A0,K7 A0]
theorem IC (hw:w≤4) {V:List (List Nb)} (h1:V.length=(frs n A w).length) (h2:∀ (i f:Nat),(frs n A w)[i]?=some f→∃ v,V[i]?=some v∧KV n w A f v):m_ki V V=some true:=by
 have hf:=Ab (n:=n) (A:=A) w
 refine Aj A0 fun v hv=>?_
 obtain ⟨i,hi,he⟩:=Xe hv
 obtain ⟨v',q1,u,u1,u2,_⟩:=h2 i _ (B3 A0)
 rw [B3 hi,he] at q1
 cases q1
 refine ⟨by rw [u1.1]; omega,fun z hz=>?_⟩
 obtain ⟨j,hj,he⟩:=Xe hz
 have Ay:j < w:=by rw [← u1.1]; exact hj
 obtain ⟨y,y1,y2⟩:=u1.2 j Ay
 rw [B3 hj,he] at y1
 cases y1
 have:=y2.lenB (u2 j Ay) Ig
 omega
end
theorem yj {r p:Int} {R C:LI} {V:List (List Nb)} (hR:R.length≤1000) (hC:C.length≤1000) (hV:m_ki V V=some true):m_kj r p R C V r p R C V=some true:=by
 unfold m_kj
 rw [M0 H0,Gt hR,obs,obs,M0 rfl,Gt hC,obs,obs,M0 rfl,hV,obs,obs]
section
variable {n w:Nat} {A:Mx} {T:List (List Nb)}
theorem Xs:MB < pw 31:=by
 have e1:4*pw 5=2 ^ 162:=by
  rw [L6,show 162=2+32*5 from rfl,E5]; rfl
 have e2:MB=2 ^ 973:=by
  unfold MB
  rw [e1,← Oh,show 973=1+162*6 from rfl,E5]; rfl
 rw [e2,L6]
 have h1:=ka (N:=974) (M:=32*31) A0
 have h2:(2:Int) ^ 974=2 ^ 973*2:=by rw [show 974=973+1 from rfl,w8]
 have h3:(0:Int) < 2 ^ 973:=S5 A0
 omega
theorem KV.small {f:Nat} {v:List Nb} (hw:w≤4) (h:KV n w A f v):m_kg v v=some true:=by
 obtain ⟨u,u1,u2,_⟩:=h
 refine Je (by rw [u1.1]; omega) fun z hz=>?_
 obtain ⟨j,hj,he⟩:=Xe hz
 have Ay:j < w:=by rw [← u1.1]; exact hj
 obtain ⟨y,y1,y2⟩:=u1.2 j Ay
 rw [B3 hj,he] at y1
 cases y1
 have:=Bg.len (m:=31) y2 (by have:=(u2 j Ay).1; have:=Xs; omega) (by have:=(u2 j Ay).2; have:=Xs; omega)
 omega
theorem Cz (hn:n≤4) (hw:w≤4) (hT:Tg T n w A) (hA:∀ i j,i < n→j < w→Bd (pw 5) (A i j)) {st ix vl:LI} {sh sh':Int} (hI:m_dv (n:Int) (w:Int) st ix vl=some (T,sh,0)) (HM:m_hp (n:Int) (w:Int) st ix vl=some (T,sh',0)):∃ v ok,m_j8 (n:Int) (w:Int) st ix vl=some (v,ok,0)∧m_j9 (n:Int) (w:Int) st ix vl=some (v,ok,0)∧m_kg v v=some true:=by
 obtain ⟨V,v1,v2,v3⟩:=zt hn hw hT hA
 obtain ⟨V',v1',v2',v3'⟩:=At hn hw hT hA
 unfold m_j8 m_j9
 rw [hI,obs,HM,obs]
 simp only [if_true]
 rw [v1,obs,v1',obs]
 by_cases h0:V.length=0
 ·refine ⟨[],false,?_,?_,Je H0 H0⟩
  ·rw [C0]
  ·rw [C0]
 ·obtain ⟨f,hf⟩:∃ f,(frs n A w)[0]?=some f:=⟨_,B3 A0⟩
  obtain ⟨v,q1,q2⟩:=v3 0 f hf
  obtain ⟨v',q1',q2'⟩:=v3' 0 f hf
  have mH:=(Xg.1 (S8 hf)).1
  have he:=q2.eq mH q2'
  subst he
  refine ⟨v,true,?_,?_,q2.small hw⟩
  ·rw [B0,show getI V 0=some v from X2 (k:=0) q1 rfl,obs]
  ·rw [B0,show getI V' 0=some v from X2 (k:=0) q1' rfl,obs]
end
namespace Gv
def Sz (x1 x2:Int) (x5:LI):Prop:=(0≤x1∧x1≤200)∧(0≤x2∧x2≤200)∧x5.length≤10000
structure Hd (x1 x2:Int) (x3 x5 x7:LI):Prop where
 lv:x7.length=x5.length
 ls:(x3.length:Int)=x2+1
 s0:x3[0]?=some 0
 sn:x3[x2.toNat]?=some (x5.length:Int)
def Mo (x3:LI):Prop:=∀ (j:Nat) (a b:Int),x3[j]?=some a→x3[j+1]?=some b→a≤b
def Cl (x1:Int) (x3 x5:LI):Prop:=∀ (j:Nat) (a b:Int),x3[j]?=some a→x3[j+1]?=some b→∀ (k:Nat) (i:Int),a≤(k:Int)→(k:Int) < b→x5[k]?=some i→0≤i∧i < x1∧(a < (k:Int)→∀ i',x5[k - 1]?=some i'→i' < i)
def Fn (f:Int):Bool:=!(decide (wand .u64 (wsrc .u64 f 52) 2047=2047))
def Ff (x7:LI):Prop:=∀ f,f∈x7→Fn f=true
theorem od {x3:LI} (h:Mo x3) {i j:Nat} (PG:i≤j):∀ {a b:Int},x3[i]?=some a→x3[j]?=some b→a≤b:=by
 induction j with
 | zero=>
  intro a b ha hb
  obtain rfl:i=0:=A0
  rw [ha] at hb; have:=N2 hb; omega
 | succ j ih=>
  intro a b ha hb
  by_cases hi:i=j+1
  ·subst hi; rw [ha] at hb; have:=N2 hb; omega
  ·have hj:j < x3.length:=by have:=(Z1.1 hb).1; omega
   have hc:x3[j]?=some x3[j]:=by simp [hj]
   have h1:=ih A0 ha hc
   have h2:=h j _ _ hc hb
   omega
def Ot (x1 x2:Int) (x3 x5 x7:LI) (e:Int):Prop:=
 (e=6∧¬ Sz x1 x2 x5)∨(e=1∧Sz x1 x2 x5∧¬ (Hd x1 x2 x3 x5 x7∧Mo x3∧Cl x1 x3 x5))∨
 (e=4∧Sz x1 x2 x5∧(Hd x1 x2 x3 x5 x7∧Mo x3∧Cl x1 x3 x5)∧¬ Ff x7)∨(e=0∧Sz x1 x2 x5∧(Hd x1 x2 x3 x5 x7∧Mo x3∧Cl x1 x3 x5)∧Ff x7)
theorem Ot.uniq {x1 x2:Int} {x3 x5 x7:LI} {e e':Int} (h:Ot x1 x2 x3 x5 x7 e) (h':Ot x1 x2 x3 x5 x7 e'):e=e':=by
 rcases h with ⟨rfl,h⟩ | ⟨rfl,h,h1⟩ | ⟨rfl,h,h1,h2⟩ | ⟨rfl,h,h1,h2⟩<;>
 rcases h' with ⟨rfl,k⟩ | ⟨rfl,k,k1⟩ | ⟨rfl,k,k1,k2⟩ | ⟨rfl,k,k1,k2⟩<;>
 first | rfl | exact absurd h k | exact absurd k h | exact absurd h1 k1 | exact absurd k1 h1 | exact absurd h2 k2 | exact absurd k2 h2
theorem uz {l:LI} (hl:l.length≤100000) (hp:0 < l.length):Ret (m_ca l) (fun b=>(b=true∧Mo l)∨(b=false∧¬ Mo l)):=by
 unfold m_ca
 have e:ws .i64 (l.length:Int) 1=((l.length - 1:Nat):Int):=by rw [C3 A0 A0]; omega
 rw [J0,e]
 refine B8 (P:=fun o=>(o=.inl ()∧Mo l)∨(o=.inr ()∧¬ Mo l)) ?_ ?_
 ·refine Q0 (l.length - 1) (fun k (t:Int)=>t=((l.length - 1 - k:Nat):Int)∧∀ (j:Nat) (a b:Int),l.length - 1 - k≤j→l[j]?=some a→l[j+1]?=some b→a≤b) ⟨rfl,fun j a b h h1 h2=>by have:=(Z1.1 h2).1; omega⟩ ?_
  rintro k t hk ⟨rfl,hI⟩
  unfold m_b9
  by_cases Kx:k < l.length - 1
  ·obtain ⟨m,hm⟩:∃ m,l.length - 1 - k=m+1:=⟨l.length - 2 - k,A0⟩
   rw [hm] at hI ⊢
   have e1:getI l ((m+1:Nat):Int)=some (l[m+1]'(A0)):=M6 A0
   have e2:ws .i64 ((m+1:Nat):Int) 1=(m:Int):=by rw [C3 A0 A0]; omega
   have e3:getI l (m:Int)=some (l[m]'(A0)):=M6 A0
   have e5:(0:Int) < ((m+1:Nat):Int):=A0
   have qD:l.length - 1 - (k+1)=m:=A0
   simp only [vcC,Q2,reduceCtorEq,e1,e2,e3,e5,nt,decide_eq_true_eq,qD]
   refine ⟨fun h=>.inr ⟨trivial,fun hM=>?_⟩,fun h=>⟨Kx,trivial,fun j a b hj ha hb=>?_⟩⟩
   ·have:=hM m (l[m]'(A0)) (l[m+1]'(A0)) (by simp [show m < l.length by omega]) (by simp [show m+1 < l.length by omega])
    omega
   ·by_cases RR:j=m
    ·subst RR
     obtain ⟨h1,rfl⟩:=Z1.1 ha
     obtain ⟨h2,rfl⟩:=Z1.1 hb
     omega
    ·exact hI j a b A0 ha hb
  ·have e5:¬ (0:Int) < ((l.length - 1 - k:Nat):Int):=A0
   simp only [vcC,Q2,reduceCtorEq,e5]
   exact .inl ⟨trivial,fun j a b ha hb=>hI j a b A0 ha hb⟩
 ·rintro o (⟨rfl,h⟩ | ⟨rfl,h⟩)
  ·rw [U2]; exact .inl ⟨rfl,h⟩
  ·rw [U2]; exact .inr ⟨rfl,h⟩
def ColOk (x1:Int) (c:LI):Prop:=∀ (k:Nat) (i:Int),c[k]?=some i→0≤i∧i < x1∧(0 < k→∀ i',c[k - 1]?=some i'→i' < i)
theorem BE {x1:Int} {c:LI} (hc:c.length≤100000):Ret (loop (m_cb c x1) (-1,0)) (fun o=>(o=.inl ()∧ColOk x1 c)∨(o=.inr ()∧¬ ColOk x1 c)):=by
 refine Q0 c.length (fun k (t:Int×Int)=>t.2=k∧-1≤t.1∧(k=0→t.1= -1)∧(0 < k→c[k - 1]?=some t.1)∧∀ (j:Nat) (i:Int),j < k→c[j]?=some i→0≤i∧i < x1∧(0 < j→∀ i',c[j - 1]?=some i'→i' < i)) ⟨rfl,H0,fun _=>rfl,fun h=>A0,fun j i h=>A0⟩ ?_
 rintro k ⟨last,i⟩ hk ⟨rfl,h0,h1,h2,h3⟩
 simp only at h0 h1 h2 h3
 unfold m_cb
 by_cases Kx:k < c.length
 ·obtain ⟨x,hx⟩:∃ x,c[k]?=some x:=⟨c[k],by simp [Kx]⟩
  have e1:getI c (k:Int)=some x:=hx
  have e5:(k:Int) < (c.length:Int):=A0
  have hw:wa .i64 (k:Int) 1=((k+1:Nat):Int):=wa1 A0
  simp only [vcC,Q2,reduceCtorEq,e1,e5,hw,H5,decide_eq_true_eq]
  refine ⟨fun h=>.inr ⟨trivial,fun hC=>?_⟩,fun h=>⟨Kx,trivial,A0,trivial,fun _=>by simpa using hx,fun j i hj hi=>?_⟩⟩
  ·have hh:=hC k x hx
   rcases h with h | h
   ·by_cases pJ:k=0
    ·have:=h1 pJ; omega
    ·have:=hh.2.2 A0 last (h2 A0); omega
   ·omega
  ·by_cases FG:j=k
   ·subst FG
    rw [hx] at hi
    obtain rfl:=N2 hi
    refine ⟨?_,A0,fun uI i' RA=>?_⟩
    ·omega
    ·rw [h2 uI] at RA
     have:=N2 RA
     omega
   ·exact h3 j i A0 hi
 ·have e5:¬ (k:Int) < (c.length:Int):=A0
  simp only [vcC,Q2,reduceCtorEq,e5]
  exact .inl ⟨trivial,fun j i hi=>h3 j i (by have:=(Z1.1 hi).1; omega) hi⟩
theorem Qk {x1:Int} {x5:LI} {a b:Nat} (DG:a≤b) (hb:b≤x5.length):ColOk x1 ((x5.take b).drop a)↔∀ (k:Nat) (i:Int),(a:Int)≤(k:Int)→(k:Int) < (b:Int)→x5[k]?=some i→0≤i∧i < x1∧((a:Int) < (k:Int)→∀ i',x5[k - 1]?=some i'→i' < i):=by
 have hg:∀ m:Nat,m+a < b→((x5.take b).drop a)[m]?=x5[m+a]?:=by
  intro m hm
  rw [V9,H6,C0,Nat.add_comm]
 constructor
 ·intro h k i h1 h2 hi
  obtain ⟨m,rfl⟩:∃ m,k=m+a:=⟨k - a,A0⟩
  have:=h m i (by rw [hg m A0]; exact hi)
  refine ⟨this.1,this.2.1,fun h3 i' RA=>this.2.2 A0 i' ?_⟩
  rw [hg (m - 1) A0,← RA]
  congr 1; omega
 ·intro h m i hi
  have hm:m+a < b:=by
   have:=(Z1.1 hi).1
   simp at this; omega
  rw [hg m hm] at hi
  have:=h (m+a) i A0 A0 hi
  refine ⟨this.1,this.2.1,fun h3 i' RA=>this.2.2 A0 i' ?_⟩
  rw [hg (m - 1) A0] at RA
  rw [← RA]
  congr 1; omega
theorem xE {x1 x2:Int} {x3 x5 x7:LI} (hs:Sz x1 x2 x5) (h3:x3.length≤100000) (h5:x5.length≤100000):Ret (m_cd x1 x2 x3 x5 x7) (fun b=>(b=true∧Hd x1 x2 x3 x5 x7∧Mo x3∧Cl x1 x3 x5)∨(b=false∧¬ (Hd x1 x2 x3 x5 x7∧Mo x3∧Cl x1 x3 x5))):=by
 obtain ⟨ZH,gH,bM⟩:=hs
 obtain ⟨n,rfl⟩:=W4 gH.1
 have hw:wa .i64 (n:Int) 1=((n+1:Nat):Int):=wa1 A0
 unfold m_cd
 rw [hw]
 by_cases hl:x3.length=n+1
 ·rw [C0]
  have GG:getI x3 0=some (x3[0]'(A0)):=M6 (k:=0) A0
  have zO:getI x3 (n:Int)=some (x3[n]'(A0)):=M6 A0
  rw [W2 GG]
  by_cases h0:(x3[0]'(A0))=0
  ·rw [decide_eq_true h0]
   simp only [Y5,M5,Q2,if_false]
   simp only [J0]
   refine B8 (uz h3 A0) ?_
   rintro b (⟨rfl,hM⟩ | ⟨rfl,hM⟩)
   ·simp only [vcD,implies_true,Q2,reduceCtorEq,zO]
    by_cases hn:(x3[n]'(A0))=(x5.length:Int)
    ·rw [decide_eq_true hn]
     simp only [vcD,implies_true,Q2,reduceCtorEq]
     by_cases hv:x5.length=x7.length
     ·rw [decide_eq_true (show (x5.length:Int)=(x7.length:Int) by omega)]
      simp only [vcD,implies_true,Q2,reduceCtorEq]
      have hH:Hd x1 (n:Int) x3 x5 x7:=⟨hv.symm,A0,by simp [h0,show 0 < x3.length by omega],by simp [hn,show n < x3.length by omega]⟩
      refine B8 (P:=fun o=>(o=.inl ()∧Cl x1 x3 x5)∨(o=.inr ()∧¬ Cl x1 x3 x5)) ?_ ?_
      ·refine Q0 n (fun k (t:Int)=>t=(k:Int)∧∀ (j:Nat) (a b:Int),j < k→x3[j]?=some a→x3[j+1]?=some b→∀ (k:Nat) (i:Int),a≤(k:Int)→(k:Int) < b→x5[k]?=some i→0≤i∧i < x1∧(a < (k:Int)→∀ i',x5[k - 1]?=some i'→i' < i)) ⟨rfl,fun j a b h=>A0⟩ ?_
       rintro k t hk ⟨rfl,hI⟩
       unfold m_cc
       by_cases px:k < n
       ·have UH:wa .i64 (k:Int) 1=((k+1:Nat):Int):=wa1 A0
        obtain ⟨a,ha⟩:∃ a,x3[k]?=some a:=⟨x3[k]'(A0),by simp [show k < x3.length by omega]⟩
        obtain ⟨b,hb⟩:∃ b,x3[k+1]?=some b:=⟨x3[k+1]'(A0),by simp [show k+1 < x3.length by omega]⟩
        have DG:=hM k a b ha hb
        have KJ:=od hM (P9 k) hH.s0 ha
        have JL:=od hM (show k+1≤n by omega) hb (by simpa using hH.sn)
        obtain ⟨a,rfl⟩:=W4 KJ
        obtain ⟨b,rfl⟩:=W4 (show 0≤b by omega)
        have e1:getI x3 (k:Int)=some (a:Int):=ha
        have e2:getI x3 ((k+1:Nat):Int)=some (b:Int):=hb
        have e5:(k:Int) < (n:Int):=A0
        simp only [vcC,Q2,reduceCtorEq,UH,e1,e2,e5]
        refine ⟨A0,A0,A0,?_⟩
        refine B8 (BE (by simp; omega)) ?_
        rintro o (⟨rfl,hc⟩ | ⟨rfl,hc⟩)
        ·simp only [vcC,Q2,reduceCtorEq]
         refine ⟨px,trivial,fun j a' b' hj HG JH=>?_⟩
         by_cases FG:j=k
         ·subst FG
          rw [ha] at HG; rw [hb] at JH
          obtain rfl:=N2 HG
          obtain rfl:=N2 JH
          exact (Qk A0 A0).1 hc
         ·exact hI j a' b' A0 HG JH
        ·simp only [vcC,Q2,reduceCtorEq]
         exact .inr ⟨trivial,fun hC=>hc ((Qk A0 A0).2 (hC k _ _ ha hb))⟩
       ·have e5:¬ (k:Int) < (n:Int):=A0
        simp only [vcC,Q2,reduceCtorEq,e5]
        exact .inl ⟨trivial,fun j a b ha hb=>hI j a b (by have:=(Z1.1 hb).1; omega) ha hb⟩
      ·rintro o (⟨rfl,h⟩ | ⟨rfl,h⟩)
       ·rw [U2]; exact .inl ⟨rfl,hH,hM,h⟩
       ·rw [U2]; exact .inr ⟨rfl,fun hh=>h hh.2.2⟩
     ·rw [decide_eq_false (show ¬ (x5.length:Int)=(x7.length:Int) by omega)]
      simp only [vcD,implies_true,Q2,reduceCtorEq]
      exact fun hh=>hv hh.1.lv.symm
    ·rw [decide_eq_false hn]
     simp only [vcD,implies_true,Q2,reduceCtorEq]
     refine fun hh=>hn ?_
     have:=hh.1.sn
     simp only [Z0] at this
     rw [B3 A0] at this
     exact N2 this
   ·simp only [vcD,implies_true,Q2,reduceCtorEq]
    exact fun hh=>hM hh.2.1
  ·rw [decide_eq_false h0]
   simp only [vcD,implies_true,Q2,reduceCtorEq]
   refine fun hh=>h0 ?_
   have:=hh.1.s0
   rw [B3 A0] at this
   exact N2 this
 ·rw [B0]
  simp only [vcD,implies_true,Q2,reduceCtorEq]
  exact fun hh=>hl (by have:=hh.1.ls; omega)
theorem nu (f:Int):m_cf f=some (Fn f):=by
 unfold m_cf m_ce Fn
 have h2:0≤wand .u64 (wsrc .u64 f 52) 2047∧wand .u64 (wsrc .u64 f 52) 2047≤2047:=by
  unfold wand
  have hb:(BitVec.ofInt IntKind.u64.bits (wsrc .u64 f 52) &&& BitVec.ofInt IntKind.u64.bits 2047).toNat≤2047:=by
   rw [BitVec.toNat_and]
   have:(BitVec.ofInt IntKind.u64.bits 2047).toNat=2047:=by decide
   rw [this]
   exact Nat.and_le_right
  rw [IntKind.wrap_u64]
  omega
 have h3:wc .i64 (wand .u64 (wsrc .u64 f 52) 2047)=wand .u64 (wsrc .u64 f 52) 2047:=IntWalk.i64_in _ ⟨A0,A0⟩
 simp only [M5,h3]
theorem vE {l:LI} (hl:l.length≤100000):Ret (m_cj l) (fun b=>(b=true∧¬ Ff l)∨(b=false∧Ff l)):=by
 unfold m_cj
 rw [J0]
 refine B8 (P:=fun r=>(0≤r∧¬ Ff l)∨(r= -1∧Ff l)) ?_ ?_
 ·unfold m_ci
  rw [J0]
  refine B8 (P:=fun o=>(o=.inl ()∧Ff l)∨(∃ k:Nat,o=.inr (k:Int)∧¬ Ff l)) ?_ ?_
  ·refine Q0 l.length (fun k (t:Int)=>t=(k:Int)∧∀ f,f∈l.take k→Fn f=true) ⟨rfl,fun f h=>by simp at h⟩ ?_
   rintro k t hk ⟨rfl,hI⟩
   unfold m_ch m_cg
   by_cases Kx:k < l.length
   ·obtain ⟨x,hx⟩:∃ x,l[k]?=some x:=⟨l[k],by simp [Kx]⟩
    have e1:getI l (k:Int)=some x:=hx
    have e5:(k:Int) < (l.length:Int):=A0
    have hw:wa .i64 (k:Int) 1=((k+1:Nat):Int):=wa1 A0
    simp only [vcC,Q2,reduceCtorEq,e1,e5,hw,nu,B7]
    refine ⟨fun h=>.inr ⟨k,rfl,fun hF=>?_⟩,fun h=>⟨Kx,trivial,fun f hf=>?_⟩⟩
    ·have:=hF x (S8 hx); rw [h] at this; cases this
    ·rw [mts hx] at hf
     rcases hf with hf | rfl
     ·exact hI f hf
     ·simpa using h
   ·have e5:¬ (k:Int) < (l.length:Int):=A0
    simp only [vcC,Q2,reduceCtorEq,e5]
    refine .inl ⟨trivial,?_⟩
    rwa [I5 A0] at hI
  ·rintro o (⟨rfl,h⟩ | ⟨k,rfl,h⟩)
   ·rw [U2]; exact .inr ⟨rfl,h⟩
   ·rw [U2]; exact .inl ⟨A0,h⟩
 ·rintro r (⟨h,h1⟩ | ⟨rfl,h1⟩)
  ·rw [U2]; exact .inl ⟨decide_eq_true h,h1⟩
  ·rw [U2]; exact .inr ⟨rfl,h1⟩
theorem KE {x1 x2:Int} {x3 x5 x7:LI} (h3:x3.length≤100000) (h5:x5.length≤100000) (h7:x7.length≤100000):Ret (m_ck x1 x2 x3 x5 x7) (Ot x1 x2 x3 x5 x7):=by
 unfold m_ck m_b6
 simp only [M5]
 by_cases hs:Sz x1 x2 x5
 ·obtain ⟨ZH,gH,bM⟩:=id hs
  have a1:(decide (0≤x1) && decide (x1≤200))=true:=by simp; omega
  have a2:(decide (0≤x2) && decide (x2≤200))=true:=by simp; omega
  have a3:decide ((10000:Int) < (x5.length:Int))=false:=decide_eq_false A0
  rw [a1,a2,a3]
  simp only [vcD,implies_true,Q2,reduceCtorEq,Bool.or_self]
  refine B8 (xE hs h3 h5) ?_
  rintro b (⟨rfl,hc⟩ | ⟨rfl,hc⟩)
  ·simp only [vcD,implies_true,Q2,reduceCtorEq]
   refine B8 (vE h7) ?_
   rintro b (⟨rfl,hf⟩ | ⟨rfl,hf⟩)
   ·simp only [vcD,implies_true,Q2,reduceCtorEq]; exact Or.inr (Or.inr (Or.inl ⟨rfl,hs,hc,hf⟩))
   ·simp only [vcD,implies_true,Q2,reduceCtorEq]; exact Or.inr (Or.inr (Or.inr ⟨rfl,hs,hc,hf⟩))
  ·simp only [vcD,implies_true,Q2,reduceCtorEq]; exact Or.inr (Or.inl ⟨rfl,hs,hc⟩)
 ·have:∃ b,(if (decide (0≤x1) && decide (x1≤200))=true then some (!(decide (0≤x2) && decide (x2≤200))) else some true)=some b∧(b || decide ((10000:Int) < (x5.length:Int)))=true:=by
   by_cases a1:0≤x1∧x1≤200
   ·by_cases a2:0≤x2∧x2≤200
    ·by_cases a3:x5.length≤10000
     ·exact absurd ⟨a1,a2,a3⟩ hs
     ·refine ⟨false,?_,by simp; omega⟩
      rw [M0 (by simp; omega)]
      simp; omega
    ·refine ⟨true,?_,rfl⟩
     rw [M0 (by simp; omega)]
     simp; omega
   ·refine ⟨true,?_,rfl⟩
    rw [K0 (by simp; omega)]
  obtain ⟨b,h1,h2⟩:=this
  rw [h1]
  simp only [M5]
  rw [M0 h2,U2]
  exact Or.inl ⟨rfl,hs⟩
theorem BD {l:LI} (hl:l.length≤100000):Ret (m_g5 l) (fun b=>(b=true∧Ff l)∨(b=false∧¬ Ff l)):=by
 unfold m_g5
 rw [J0]
 refine B8 (P:=fun o=>(o=.inl ()∧Ff l)∨(o=.inr ()∧¬ Ff l)) ?_ ?_
 ·refine Q0 l.length (fun k (t:Int)=>t=(k:Int)∧∀ f,f∈l.take k→Fn f=true) ⟨rfl,fun f h=>by simp at h⟩ ?_
  rintro k t hk ⟨rfl,hI⟩
  unfold m_g4 m_d
  by_cases Kx:k < l.length
  ·obtain ⟨x,hx⟩:∃ x,l[k]?=some x:=⟨l[k],by simp [Kx]⟩
   have e1:getI l (k:Int)=some x:=hx
   have e5:(k:Int) < (l.length:Int):=A0
   have hw:wa .i64 (k:Int) 1=((k+1:Nat):Int):=wa1 A0
   simp only [vcC,Q2,reduceCtorEq,e1,e5,hw]
   refine ⟨fun h=>⟨Kx,trivial,fun f hf=>?_⟩,fun h=>.inr ⟨trivial,fun hF=>h (hF x (S8 hx))⟩⟩
   rw [mts hx] at hf
   rcases hf with hf | rfl
   ·exact hI f hf
   ·exact h
  ·have e5:¬ (k:Int) < (l.length:Int):=A0
   simp only [vcC,Q2,reduceCtorEq,e5]
   refine .inl ⟨trivial,?_⟩
   rwa [I5 A0] at hI
 ·rintro o (⟨rfl,h⟩ | ⟨rfl,h⟩)
  ·rw [U2]; exact .inl ⟨rfl,h⟩
  ·rw [U2]; exact .inr ⟨rfl,h⟩
theorem fC {n:Nat} {x3:LI} (hl:x3.length=n+1) (hn:n≤100000):Ret (loop (m_g8 (n:Int) x3) 0) (fun o=>(o=.inl ()∧Mo x3)∨(o=.inr ()∧¬ Mo x3)):=by
 refine Q0 n (fun k (t:Int)=>t=(k:Int)∧∀ (j:Nat) (a b:Int),j < k→x3[j]?=some a→x3[j+1]?=some b→a≤b) ⟨rfl,fun j a b h=>A0⟩ ?_
 rintro k t hk ⟨rfl,hI⟩
 unfold m_g8
 by_cases px:k < n
 ·have hw:wa .i64 (k:Int) 1=((k+1:Nat):Int):=wa1 A0
  obtain ⟨a,ha⟩:∃ a,x3[k]?=some a:=⟨x3[k]'(A0),by simp [show k < x3.length by omega]⟩
  obtain ⟨b,hb⟩:∃ b,x3[k+1]?=some b:=⟨x3[k+1]'(A0),by simp [show k+1 < x3.length by omega]⟩
  have e1:getI x3 (k:Int)=some a:=ha
  have e2:getI x3 ((k+1:Nat):Int)=some b:=hb
  have e5:(k:Int) < (n:Int):=A0
  simp only [vcC,Q2,reduceCtorEq,hw,e1,e2,e5]
  refine ⟨fun h=>.inr ⟨trivial,fun hM=>?_⟩,fun h=>⟨px,trivial,fun j a' b' hj HG JH=>?_⟩⟩
  ·have:=hM k a b ha hb; omega
  ·by_cases FG:j=k
   ·subst FG
    rw [ha] at HG; rw [hb] at JH
    obtain rfl:=N2 HG
    obtain rfl:=N2 JH
    omega
   ·exact hI j a' b' A0 HG JH
 ·have e5:¬ (k:Int) < (n:Int):=A0
  simp only [vcC,Q2,reduceCtorEq,e5]
  exact .inl ⟨trivial,fun j a b ha hb=>hI j a b (by have:=(Z1.1 hb).1; omega) ha hb⟩
theorem cl_r {x1:Int} {n:Nat} {x3 x5:LI} (hl:x3.length=n+1) (hn:n≤100000) (h5:x5.length≤100000) (hM:Mo x3) (h0:x3[0]?=some 0) (zL:x3[n]?=some (x5.length:Int)):Ret (loop (m_g7 (n:Int) x3 x5 x1) 0) (fun o=>(o=.inl ()∧Cl x1 x3 x5)∨(o=.inr ()∧¬ Cl x1 x3 x5)):=by
 refine Q0 n (fun k (t:Int)=>t=(k:Int)∧∀ (j:Nat) (a b:Int),j < k→x3[j]?=some a→x3[j+1]?=some b→∀ (k:Nat) (i:Int),a≤(k:Int)→(k:Int) < b→x5[k]?=some i→0≤i∧i < x1∧(a < (k:Int)→∀ i',x5[k - 1]?=some i'→i' < i)) ⟨rfl,fun j a b h=>A0⟩ ?_
 rintro k t hk ⟨rfl,hI⟩
 unfold m_g7
 by_cases px:k < n
 ·have UH:wa .i64 (k:Int) 1=((k+1:Nat):Int):=wa1 A0
  obtain ⟨a,ha⟩:∃ a,x3[k]?=some a:=⟨x3[k]'(A0),by simp [show k < x3.length by omega]⟩
  obtain ⟨b,hb⟩:∃ b,x3[k+1]?=some b:=⟨x3[k+1]'(A0),by simp [show k+1 < x3.length by omega]⟩
  have DG:=hM k a b ha hb
  have KJ:=od hM (P9 k) h0 ha
  have JL:=od hM (show k+1≤n by omega) hb zL
  obtain ⟨a,rfl⟩:=W4 KJ
  obtain ⟨b,rfl⟩:=W4 (show 0≤b by omega)
  have e1:getI x3 (k:Int)=some (a:Int):=ha
  have e2:getI x3 ((k+1:Nat):Int)=some (b:Int):=hb
  have e5:(k:Int) < (n:Int):=A0
  simp only [J0,O0,e1,e5,U2,E9,D9,true_implies,not_true_eq_false,false_implies,and_true]
  refine B8 (P:=fun o=>(o=.inl ()∧∀ (k:Nat) (i:Int),(a:Int)≤(k:Int)→(k:Int) < (b:Int)→x5[k]?=some i→0≤i∧i < x1∧((a:Int) < (k:Int)→∀ i',x5[k - 1]?=some i'→i' < i))∨(o=.inr ()∧¬ Cl x1 x3 x5)) ?_ ?_
  ·refine Q0 (b - a) (fun m (t:Int)=>t=((a+m:Nat):Int)∧∀ (k:Nat) (i:Int),(a:Int)≤(k:Int)→k < a+m→x5[k]?=some i→0≤i∧i < x1∧((a:Int) < (k:Int)→∀ i',x5[k - 1]?=some i'→i' < i)) ⟨rfl,fun k i h1 h2=>A0⟩ ?_
   rintro m t hm ⟨rfl,hJ⟩
   unfold m_g6
   by_cases zT:a+m < b
   ·obtain ⟨x,hx⟩:∃ x,x5[a+m]?=some x:=⟨x5[a+m]'(A0),by simp [show a+m < x5.length by omega]⟩
    have e3:getI x5 ((a+m:Nat):Int)=some x:=hx
    have e6:((a+m:Nat):Int) < (b:Int):=A0
    have hw2:wa .i64 ((a+m:Nat):Int) 1=((a+(m+1):Nat):Int):=by rw [wa1 A0]; congr 1
    have gL:¬ (0≤x∧x < x1∧((a:Int) < ((a+m:Nat):Int)→∀ i',x5[a+m - 1]?=some i'→i' < x))→¬ Cl x1 x3 x5:=fun h hC=>h (hC k _ _ ha hb (a+m) x A0 A0 hx)
    have AK:(0≤x∧x < x1∧((a:Int) < ((a+m:Nat):Int)→∀ i',x5[a+m - 1]?=some i'→i' < x))→∀ (k:Nat) (i:Int),(a:Int)≤(k:Int)→k < a+(m+1)→x5[k]?=some i→0≤i∧i < x1∧((a:Int) < (k:Int)→∀ i',x5[k - 1]?=some i'→i' < i):=by
     intro h k i h1 h2 hi
     by_cases lM:k=a+m
     ·subst lM
      rw [hx] at hi
      obtain rfl:=N2 hi
      exact h
     ·exact hJ k i h1 A0 hi
    by_cases c1:x < 0
    ·simp only [vcC,Q2,reduceCtorEq,UH,e1,e2,e3,e6,c1]
     exact .inr ⟨trivial,gL (fun h=>A0)⟩
    ·by_cases c2:x1≤x
     ·simp only [vcC,Q2,reduceCtorEq,UH,e1,e2,e3,e6,c1,c2]
      exact .inr ⟨trivial,gL (fun h=>A0)⟩
     ·by_cases c3:(a:Int) < ((a+m:Nat):Int)
      ·obtain ⟨y,hy⟩:∃ y,x5[a+m - 1]?=some y:=⟨x5[a+m - 1]'(A0),by simp [show a+m - 1 < x5.length by omega]⟩
       have e4:ws .i64 ((a+m:Nat):Int) 1=((a+m - 1:Nat):Int):=by rw [C3 A0 A0]; omega
       have e7:getI x5 ((a+m - 1:Nat):Int)=some y:=hy
       by_cases c4:x≤y
       ·simp only [vcC,Q2,reduceCtorEq,UH,e1,e2,e3,e6,c1,c2,c3,e4,e7,c4]
        exact .inr ⟨trivial,gL (fun h=>by have:=h.2.2 c3 y hy; omega)⟩
       ·simp only [vcC,Q2,reduceCtorEq,UH,e1,e2,e3,e6,c1,c2,c3,e4,e7,c4,hw2]
        refine ⟨A0,trivial,AK ⟨A0,A0,fun _ i' RA=>?_⟩⟩
        rw [hy] at RA
        have:=N2 RA
        omega
      ·simp only [vcC,Q2,reduceCtorEq,UH,e1,e2,e3,e6,c1,c2,c3,hw2]
       exact ⟨A0,trivial,AK ⟨A0,A0,fun h=>absurd h c3⟩⟩
   ·have e6:¬ ((a+m:Nat):Int) < (b:Int):=A0
    simp only [vcC,Q2,reduceCtorEq,UH,e1,e2,e6]
    exact .inl ⟨trivial,fun k i h1 h2 hi=>hJ k i h1 A0 hi⟩
  ·rintro o (⟨rfl,hc⟩ | ⟨rfl,hc⟩)
   ·simp only [vcC,Q2,reduceCtorEq,UH]
    refine ⟨px,trivial,fun j a' b' hj HG JH=>?_⟩
    by_cases FG:j=k
    ·subst FG
     rw [ha] at HG; rw [hb] at JH
     obtain rfl:=N2 HG
     obtain rfl:=N2 JH
     exact hc
    ·exact hI j a' b' A0 HG JH
   ·simp only [vcC,Q2,reduceCtorEq]
    exact .inr ⟨trivial,hc⟩
 ·have e5:¬ (k:Int) < (n:Int):=A0
  simp only [vcC,Q2,reduceCtorEq,e5]
  exact .inl ⟨trivial,fun j a b ha hb=>hI j a b (by have:=(Z1.1 hb).1; omega) ha hb⟩
theorem JE {x1 x2:Int} {x3 x5 x7:LI} (h3:x3.length≤100000) (h5:x5.length≤100000) (h7:x7.length≤100000):Ret (m_g9 x1 x2 x3 x5 x7) (Ot x1 x2 x3 x5 x7):=by
 unfold m_g9
 by_cases hs:Sz x1 x2 x5
 ·obtain ⟨ZH,gH,bM⟩:=id hs
  obtain ⟨n,rfl⟩:=W4 gH.1
  have hw:wa .i64 (n:Int) 1=((n+1:Nat):Int):=wa1 A0
  rw [K0 (by simp; omega),hw]
  by_cases hv:x7.length=x5.length
  ·by_cases hl:x3.length=n+1
   ·have GG:getI x3 0=some (x3[0]'(A0)):=M6 (k:=0) A0
    have zO:getI x3 (n:Int)=some (x3[n]'(A0)):=M6 A0
    rw [K0 (by simp; omega),W2 GG]
    simp only [M5]
    by_cases h0:(x3[0]'(A0))=0
    ·rw [decide_eq_true h0,K0 H0,W2 zO]
     simp only [M5]
     by_cases hn:(x3[n]'(A0))=(x5.length:Int)
     ·rw [decide_eq_true hn,K0 H0]
      have hH:Hd x1 (n:Int) x3 x5 x7:=⟨hv,A0,by simp [h0,show 0 < x3.length by omega],by simp [hn,show n < x3.length by omega]⟩
      simp only [J0]
      refine B8 (fC hl A0) ?_
      rintro o (⟨rfl,hM⟩ | ⟨rfl,hM⟩)
      ·simp only [J0]
       refine B8 (cl_r (x1:=x1) hl A0 h5 hM hH.s0 (by simpa using hH.sn)) ?_
       rintro o (⟨rfl,hC⟩ | ⟨rfl,hC⟩)
       ·simp only [J0]
        refine B8 (BD h7) ?_
        rintro b (⟨rfl,hF⟩ | ⟨rfl,hF⟩)
        ·rw [M0 rfl,U2]; exact Or.inr (Or.inr (Or.inr ⟨rfl,hs,⟨hH,hM,hC⟩,hF⟩))
        ·rw [K0 H0,U2]; exact Or.inr (Or.inr (Or.inl ⟨rfl,hs,⟨hH,hM,hC⟩,hF⟩))
       ·rw [U2]; exact Or.inr (Or.inl ⟨rfl,hs,fun h=>hC h.2.2⟩)
      ·rw [U2]; exact Or.inr (Or.inl ⟨rfl,hs,fun h=>hM h.2.1⟩)
     ·rw [decide_eq_false hn,M0 H0,U2]
      refine Or.inr (Or.inl ⟨rfl,hs,fun h=>hn ?_⟩)
      have:=h.1.sn
      simp only [Z0] at this
      rw [B3 A0] at this
      exact N2 this
    ·rw [decide_eq_false h0]
     simp only [jw,if_true,M5]
     rw [U2]
     refine Or.inr (Or.inl ⟨rfl,hs,fun h=>h0 ?_⟩)
     have:=h.1.s0
     rw [B3 A0] at this
     exact N2 this
   ·rw [M0 (by simp; omega)]
    simp only [M5,if_true]
    rw [U2]
    exact Or.inr (Or.inl ⟨rfl,hs,fun h=>hl (by have:=h.1.ls; omega)⟩)
  ·rw [M0 (by simp; omega)]
   simp only [M5,if_true]
   rw [U2]
   exact Or.inr (Or.inl ⟨rfl,hs,fun h=>hv h.1.lv⟩)
 ·rw [M0,U2]
  ·exact Or.inl ⟨rfl,hs⟩
  ·simp only [H5,decide_eq_true_eq]
   refine H1 fun h=>hs ⟨A0,A0,A0⟩
theorem checks {x1 x2:Int} {x3 x5 x7:LI} (h3:x3.length≤100000) (h5:x5.length≤100000) (h7:x7.length≤100000):∃ e,m_ck x1 x2 x3 x5 x7=some e∧m_g9 x1 x2 x3 x5 x7=some e∧Ot x1 x2 x3 x5 x7 e:=by
 obtain ⟨e,h1,h2⟩:=KE (x1:=x1) (x2:=x2) h3 h5 h7
 obtain ⟨e',k1,k2⟩:=JE (x1:=x1) (x2:=x2) h3 h5 h7
 obtain rfl:=h2.uniq k2
 exact ⟨e,h1,k1,h2⟩
structure Va (x1 x2:Int) (x3 x5 x7:LI):Prop where
 sz:Sz x1 x2 x5
 hd:Hd x1 x2 x3 x5 x7
 mo:Mo x3
 cl:Cl x1 x3 x5
theorem Ot.va {x1 x2:Int} {x3 x5 x7:LI} (h:Ot x1 x2 x3 x5 x7 0):Va x1 x2 x3 x5 x7:=by
 rcases h with ⟨h,_⟩ | ⟨h,_⟩ | ⟨h,_⟩ | ⟨_,h1,⟨h2,h3,h4⟩,_⟩
 ·cases h
 ·cases h
 ·cases h
 ·exact ⟨h1,h2,h3,h4⟩
def LT (e e':Int×Int×Int):Prop:=e.2.1 < e'.2.1∨(e.2.1=e'.2.1∧e.1 < e'.1)
def colsOf (s i:LI) (n:Nat):L2:=(List.range n).map fun j=>(i.take (s[j+1]?.getD 0).toNat).drop (s[j]?.getD 0).toNat
theorem AE {s i:LI} {n j a b:Nat} (hj:j < n) (ha:s[j]?=some (a:Int)) (hb:s[j+1]?=some (b:Int)):(colsOf s i n)[j]?=some ((i.take b).drop a):=by
 unfold colsOf
 rw [y9,Ta hj,xh,ha,hb]
 simp
section
variable {m n:Nat} {s i v:LI}
theorem lj (h:Va m n s i v) {j:Nat} (hj:j≤n):∃ a:Nat,s[j]?=some (a:Int)∧a≤i.length:=by
 have AT:=h.hd.ls
 obtain ⟨a,ha⟩:∃ a,s[j]?=some a:=⟨s[j]'(A0),B3 A0⟩
 have zL:s[n]?=some (i.length:Int):=by simpa using h.hd.sn
 have h0:=od h.mo (P9 j) h.hd.s0 ha
 have h1:=od h.mo hj ha zL
 exact ⟨a.toNat,by rw [ha]; congr 1; omega,A0⟩
theorem Pk (h:Va m n s i v):∀ j:Nat,j≤n→∃ a:Nat,s[j]?=some (a:Int)∧a≤i.length∧((colsOf s i n).take j).flatten=i.take a
 | 0,_=>⟨0,h.hd.s0,A0,H0⟩
 | j+1,hj=>by
  obtain ⟨a,h1,h2,h3⟩:=Pk h j A0
  obtain ⟨b,hb,QK⟩:=lj h hj
  have DG:=h.mo j a b h1 hb
  refine ⟨b,hb,QK,?_⟩
  have hg:(colsOf s i n)[j]?=some ((i.take b).drop a):=AE A0 h1 hb
  rw [tks hg,Jh,h3,List.flatten_singleton]
  have h4:i.take a=(i.take b).take a:=by rw [Ue,show min a b=a by omega]
  rw [h4,Ra]
theorem DE {x:Int} {c:LI} (h:ColOk x c):c.Pairwise (· < ·):=by
 have key:∀ (d p:Nat) (y z:Int),c[p]?=some y→c[p+d+1]?=some z→y < z:=by
  intro d
  induction d with
  | zero=>intro p y z hy hz; exact (h (p+1) z hz).2.2 A0 y hy
  | succ d ih=>
   intro p y z hy hz
   have hl:=(Z1.1 hz).1
   have h1:c[p+d+1]?=some (c[p+d+1]'(A0)):=B3 A0
   have h2:=ih p y _ hy h1
   have h3:=(h (p+(d+1)+1) z hz).2.2 A0 _ h1
   omega
 rw [Ev]
 intro p q hp hq vT
 refine key (q - p - 1) p _ _ (B3 hp) ?_
 rw [show p+(q - p - 1)+1=q by omega]
 exact B3 hq
theorem Ku (h:Va m n s i v) {l:LI} (hl:l∈colsOf s i n):ColOk m l:=by
 obtain ⟨j,hj,rfl⟩:=Fh.1 hl
 rw [Z6] at hj
 obtain ⟨a,ha,QO⟩:=lj h (show j≤n by omega)
 obtain ⟨b,hb,AH⟩:=lj h (show j+1≤n by omega)
 have DG:=h.mo j a b ha hb
 rw [ha,hb]
 simp only [yl,Z0]
 exact (Qk A0 AH).2 fun k x h1 h2 h3=>h.cl j a b ha hb k x h1 h2 h3
theorem va_mv (h:Va m n s i v) (hF:Ff v):Mv m n (colsOf s i n) s i v:=by
 have hlen:(colsOf s i n).length=n:=by simp [colsOf]
 refine ⟨hlen,fun l hl=>DE (Ku h hl),fun l hl x hx=>?_,?_,by have:=h.hd.ls; omega,fun j hj=>?_,h.hd.lv,fun f hf=>?_⟩
 ·obtain ⟨k,hk⟩:=Jv.1 hx
  have:=Ku h hl k x hk
  exact ⟨this.1,this.2.1⟩
 ·obtain ⟨a,h1,h2,h3⟩:=Pk h n (H2 n)
  have zL:s[n]?=some (i.length:Int):=by simpa using h.hd.sn
  rw [zL] at h1
  have h4:=N2 h1
  rw [Y7 A0,Y7 A0] at h3
  exact h3.symm
 ·obtain ⟨a,h1,h2,h3⟩:=Pk h j hj
  rw [h1]
  unfold off
  rw [h3,B4]
  congr 2
  omega
 ·unfold m_cg
  rw [W2 (nu f),hF f hf]
  rfl
end
end Gv
section
variable {p:Int} {n w:Nat} {A X:Mx} {T:List (List Nb)} {U:L2}
theorem ZD (hP:PP p):m_jy [] p=some ([],[],1):=by
 have hp:=hP.two
 have OJ:m_jk []=some 0:=rfl
 refine Ret.eq ?_
 unfold m_jy
 refine Zw (Q0 (Post:=fun R=>R=[]) 0 (fun k (s:L2×Int)=>s=([],0)) rfl ?_ A0) fun R h=>?_
 ·rintro k _ hk rfl
  exact ⟨_,rfl,rfl⟩
 ·subst h
  rw [Vb A0 A0,obs,X4 A0 A0]
  refine Zw (Q0 (Post:=fun o=>o=([],1,[])) 0 (fun k (s:L2×Int×LI×Int)=>s=([],1,[],0)) rfl ?_ A0) fun o h=>by subst h; exact ⟨_,rfl,rfl⟩
  rintro k _ hk rfl
  unfold m_jv
  simp only
  rw [OJ,obs]
  exact ⟨_,rfl,rfl⟩
theorem rE (hP:PP p) {k:Nat} (hk:k≤200) (hU:Tb U k k X) (hf:(pvs p k X k).length=k):∃ d,m_ky U p=some d∧d≠0:=by
 by_cases h0:k=0
 ·subst h0
  rw [S6 hU.1]
  exact ⟨1,by unfold m_ky; rw [ZD hP,obs]; rfl,A0⟩
 ·obtain ⟨o',FH,k',B',Zx,f1,f2,f3,f4,f5,f6⟩:=xu hP A0 A0 A0 hU
  obtain ⟨d,R2,o2,hd,QG,CM,AS,VP,GN⟩:=det_ok hP A0 hk hU
  have h1:=Ej hP A0 hk hk hU
  rw [Dj hP A0 hk hk hU AS VP] at h1
  have h2:(o2.2.1.length:Int)=((pvs p k X k).length:Int):=(Prod.mk.inj (N2 h1)).1
  have rD:d≠0:=GN.2 A0
  have OG:k'=(pvs p k X k).length:=by rw [(f2.rn (I7 hP) f3).len (I7 hP),jc]
  rw [hf] at OG
  subst OG
  have g1:det k' B'=1:=by
   rw [← He k']
   refine w5 fun i j hi hj=>?_
   have:=f2.unit j i hj hi
   rw [f2.id j hj] at this
   rw [this]; rfl
  have g2:=f6 rfl
  rw [g1,J6] at g2
  have hX:Cg p (det k' X) (det k' (Rd p X)):=Cg.det fun i j _ _=>(Cg.mod p _).symm
  refine ⟨d,?_,rD⟩
  unfold m_ky
  rw [FH,obs,f4.1,hU.1,B0]
  exact C1 some (((hX.trans g2).symm.trans CM).eq f5 QG)
theorem Su {l:LI} {c m:Int} (hl:l.length≤1000000) (h1:(l.length:Int)=c) (h2:Asc l m):m_kx l c m=some true:=by
 have h:loop (m_kw l m) 0=some (.inl ()):=by
  refine Ret.eq ?_
  refine Q0 (Post:=fun o:Unit⊕Unit=>o=.inl ()) l.length (fun k (t:Int)=>t=(k:Int)) rfl ?_ A0
  rintro k _ hk rfl
  unfold m_kw
  rw [O0]
  refine ⟨fun hlt=>?_,fun _=>⟨_,rfl,rfl⟩⟩
  have Kx:k < l.length:=A0
  obtain ⟨a1,a2,a3⟩:=h2 k Kx
  simp only [wb Kx,M5,K0 (show ¬ l.getD k 0 < 0 by omega),decide_eq_false (show ¬ m≤l.getD k 0 by omega),Q2,if_false]
  by_cases h0:k=0
  ·rw [K0 (show ¬ (0:Int) < (k:Int) by omega)]
   simp only [M5,Q2,if_false]
   exact ⟨_,rfl,Kx,N4 A0⟩
  ·rw [M0 (show (0:Int) < (k:Int) by omega),C3 A0 A0,show (k:Int) - 1=((k - 1:Nat):Int) by omega,wb A0]
   simp only [M5,decide_eq_false (show ¬ l.getD k 0≤l.getD (k - 1) 0 by have:=a3 A0; omega),Q2,if_false]
   exact ⟨_,rfl,Kx,N4 A0⟩
 unfold m_kx
 rw [h,obs]
 exact C1 some (decide_eq_true h1)
theorem Fz {z:Nb} {v:Int} (h:Bg v z.1 z.2) (hv:v=0):m_bj z.1 z.2=some 0:=by
 subst hv
 have lz:=h.lenB (M:=0) (m:=1) ⟨A0,A0⟩ (by decide)
 have eQ:=bc h A0
 rw [B0,B0] at eQ
 exact eQ
theorem qw {z:List Nb} {f:Nat→Int} (hz:Lg z n f) (hn:n≤1000) (h:∀ i,i < n→f i=0):loop (m_k3 z) 0=some (.inl ()):=by
 refine Ret.eq ?_
 refine Q0 (Post:=fun o:Unit⊕Unit=>o=.inl ()) n (fun k (t:Int)=>t=(k:Int)) rfl ?_ A0
 rintro k _ hk rfl
 unfold m_k3
 rw [O0,hz.1]
 refine ⟨fun hlt=>?_,fun _=>⟨_,rfl,rfl⟩⟩
 obtain ⟨y,y1,y2⟩:=hz.at (c:=k) A0 rfl
 rw [y1,obs,Fz y2 (h k A0),obs,M0 rfl]
 exact ⟨_,rfl,A0,N4 A0⟩
theorem PE (hn:n≤4) (hw:w≤4) (hT:Tg T n w A) (hA:∀ i j,i < n→j < w→Bd (pw 5) (A i j)) {st ix vl:LI} {sh:Int} (hI:m_hp (n:Int) (w:Int) st ix vl=some (T,sh,0)) {m:Nat} {Y:Mx} {V:List (List Nb)} (hm:m≤4) (hV:Tg V m w Y) (hY:∀ i j,i < m→j < w→Bd MB (Y i j)) (nS:m≠0→m_iq V=some ((pvs 0 m Y w).length:Int)) {r p:Int} {R C:LI} (hR:R.length≤200) (hC:C.length≤200) (h:Acc n w A m Y r p R C):m_k5 (n:Int) (w:Int) st ix vl r p R C V=some true:=by
 obtain ⟨hP,⟨r1,r2⟩,⟨c1,c2⟩,h3,h4,h5,h6⟩:=h
 have NI:=hV.1
 have jM:=hP.max
 have TS:C.length=R.length:=A0
 unfold m_k5
 rw [hI,obs]
 simp only
 rw [K0 (by simp; omega),show m_i5 p=some true from xg hP]
 simp only [M5,Y5,Q2,if_false]
 rw [Su A0 r1 r2]
 simp only [M5,Y5,Q2,if_false]
 rw [Su A0 c1 c2]
 simp only [M5,Y5,Zd]
 rw [C3 A0 A0,NI,K0 (by simp; omega)]
 obtain ⟨U,u1,u2⟩:=Rr hP hT hA A0 A0
 obtain ⟨W,w1,w2⟩:=Js u2 (R:=R) (C:=C) (fun k hk=>⟨(r2 k hk).1,(r2 k hk).2.1⟩) (fun k hk=>⟨(c2 k hk).1,(c2 k hk).2.1⟩) A0 A0
 rw [TS] at w2
 obtain ⟨d,d1,d2⟩:=rE hP hR w2 (by
  show (pvs p _ (Rd p (Mn A R C)) _).length=_
  rw [jc]; exact h3)
 rw [u1,obs,w1,obs,d1,obs,K0 d2]
 have hL:loop (m_k4 V (w:Int) (T,sh,0)) 0=some (.inl ()):=by
  refine Ret.eq ?_
  refine Q0 (Post:=fun o:Unit⊕Unit=>o=.inl ()) m (fun k (t:Int)=>t=(k:Int)) rfl ?_ A0
  rintro k _ hk rfl
  unfold m_k4
  rw [O0,NI]
  refine ⟨fun hlt=>?_,fun _=>⟨_,rfl,rfl⟩⟩
  have DJ:k < m:=A0
  obtain ⟨v,v1,v2⟩:=hV.at (r:=k) DJ rfl
  rw [v1,obs,v2.1,M0 rfl,obs]
  refine Zw (Pw (K:=31) (hT.tr (fun i j hi hj=>hA i j hi hj) (by have h1:pw (5+26)=pw 5*pw 26:=W6 5 26; have h2:=M1 5; have h3:pw 26=B*pw 25:=rfl; have h4:=M1 25; have h6:=OF (show (1:Int) < pw 26 by rw [h3]; unfold B; omega) h2; show pw 5 < pw (5+26); omega)) (v2.lr (fun j hj=>hY k j DJ hj) Ig) A0 A0 A0) fun z hz=>?_
  rw [qw hz A0 (fun i hi=>h5 k DJ i hi),obs]
  exact ⟨_,rfl,DJ,N4 A0⟩
 rw [hL,obs]
 simp only
 by_cases h0:m=0
 ·rw [C0]; rfl
 ·rw [B0,nS h0,obs,obs,h6,decide_eq_true rfl]
theorem Ct:m_i5 0=some false:=I0
theorem IE (hn:n≤4) (hw:w≤4) {st ix vl:LI} {sh:Int} (hI:m_dv (n:Int) (w:Int) st ix vl=some (T,sh,0)) (KS:m_hp (n:Int) (w:Int) st ix vl=some (T,sh,0)):m_kv (n:Int) (w:Int) st ix vl 0 0 [] [] []=some false∧m_k5 (n:Int) (w:Int) st ix vl 0 0 [] [] []=some false:=by
 constructor
 ·unfold m_kv
  rw [hI,obs]
  simp only [if_true]
  rw [show m_fs 0=some false from Ct,obs,obs,M0 (by rfl)]
 ·unfold m_k5
  rw [KS,obs]
  simp only
  rw [K0 (by decide),Ct]
  simp only [M5,jw,if_true,iw]
end
theorem okb1 {w:Nat} {A:Mx} {M:Int} (hM:1≤M) (hA:∀ i j,i < 1→j < w→Bd M (A i j)):Okb 1 w A M:=by
 intro A' cl q i j hp hq hc hi hj
 have JM:∀ j,j < w→Bd M (A' 0 j):=fun j hj=>by
  obtain ⟨i',h1,h2⟩:=hp 0 A0
  rw [h2]; exact hA i' j h1 hj
 obtain rfl:i=0:=A0
 rcases (show q=0∨q=1 by omega) with rfl | rfl
 ·refine ⟨?_,⟨by show -M≤1; omega,by show (1:Int)≤M; omega⟩⟩
  rw [Ba A0]
  have e:det 0 (Pm_ A' cl)*A' 0 j - sm 0 (fun s=>A' 0 (cl s)*sm 0 (fun t=>adj 0 (Pm_ A' cl) s t*A' t j))=A' 0 j:=by
   show 1*A' 0 j - 0=A' 0 j
   omega
  rw [e]; exact JM j hj
 ·have ed:∀ X:Mx,det 1 X=X 0 0:=fun X=>by
   show 0+1*X 0 0*1=X 0 0
   omega
  refine ⟨?_,by rw [ed]; exact JM _ (hc 0 A0)⟩
  rw [Aa A0]
  have e:sm 1 (fun t=>adj 1 (Pm_ A' cl) 0 t*A' t j)=A' 0 j:=by
   show 0+adj 1 (Pm_ A' cl) 0 0*A' 0 j=A' 0 j
   have:adj 1 (Pm_ A' cl) 0 0=1:=by
    unfold adj
    rw [ed]
    unfold up unit
    simp
   rw [this]; omega
  rw [e]; exact JM j hj
theorem Fy {a b x y:Int} (hy:0 < y) (h:a*x+b*y=0) (ha:a≠0) (hg:∀ d:Int,d ∣ x→d ∣ y→d ∣ 1):x.natAbs≤b.natAbs∧y.natAbs≤a.natAbs:=by
 have hc:Nat.gcd x.natAbs y.natAbs=1:=by
  have h1:((Nat.gcd x.natAbs y.natAbs:Nat):Int) ∣ 1:=hg _ (Int.dvd_natAbs.1 (Int.ofNat_dvd.2 (Nat.gcd_dvd_left ..))) (Int.dvd_natAbs.1 (Int.ofNat_dvd.2 (Nat.gcd_dvd_right ..)))
  have h2:=Kc A0 h1
  have h3:Nat.gcd x.natAbs y.natAbs≠0:=fun e=>by
   have:=Nat.eq_zero_of_gcd_eq_zero_right e
   omega
  omega
 have he:a.natAbs*x.natAbs=b.natAbs*y.natAbs:=by
  rw [← Ud,← Ud,show a*x= -(b*y) by omega,Int.natAbs_neg]
 have yJ:y.natAbs ∣ a.natAbs:=by
  have h1:y.natAbs ∣ a.natAbs*x.natAbs:=by rw [he]; exact Nat.dvd_mul_left ..
  exact Nat.Coprime.dvd_of_dvd_mul_right (show Nat.Coprime y.natAbs x.natAbs by unfold Nat.Coprime; rw [Nat.gcd_comm]; exact hc) h1
 have sL:y.natAbs≤a.natAbs:=Ib A0 yJ
 refine ⟨?_,sL⟩
 refine H1 fun hx=>?_
 have h3:b.natAbs*y.natAbs < a.natAbs*x.natAbs:=by
  calc b.natAbs*y.natAbs≤b.natAbs*a.natAbs:=nv _ sL
   _=a.natAbs*b.natAbs:=G8 ..
   _ < a.natAbs*x.natAbs:=(Nat.mul_lt_mul_left A0).2 A0
 omega
section
variable {n w:Nat} {A:Mx}
theorem FB {f c:Nat} (h:pvs 0 n A f=[c]):c < f∧∃ r,r < n∧A r c≠0:=by
 have hm:c∈pvs 0 n A f:=by rw [h]; exact Y6.2 rfl
 obtain ⟨h1,h2⟩:=O7.1 hm
 refine ⟨h1,H1 fun hn=>h2 ⟨fun i=>if i=c then 1 else 0,by show ¬ (0:Int) ∣ if c=c then 1 else 0; rw [M0 rfl]; exact P5.one,fun r hr=>?_⟩⟩
 have hz:A r c=0:=H1 fun e=>hn ⟨r,hr,e⟩
 rw [C5 fun i hi=>by
  by_cases e:i=c
  ·rw [e,hz,V3]
  ·show A r i*(if i=c then 1 else 0)=0
   rw [K0 e,Q3]]
 exact Th 0
theorem LC {f:Nat} {u:Nat→Int} (hf:f < w) (hw:w≤3) (hA:∀ i j,i < n→j < w→Bd (pw 5) (A i j)) (hk:(pvs 0 n A f).length≤1) (u3:∀ r,r < n→sm w (fun j=>A r j*u j)=0) (u4:∀ d:Int,(∀ j,j < w→d ∣ u j)→d ∣ 1) (u5:0 < u f) (u6:∀ j,j < w→j≠f→j∉pvs 0 n A f→u j=0):∀ j,j < w→Bd (pw 5) (u j):=by
 have hp:=M1 5
 have nab:∀ {x y:Int},Bd (pw 5) y→x.natAbs≤y.natAbs→Bd (pw 5) x:=fun h1 h2=>⟨by have:=h1.1; have:=h1.2; omega,by have:=h1.1; have:=h1.2; omega⟩
 rcases (show (pvs 0 n A f).length=0∨(pvs 0 n A f).length=1 by omega) with h0 | h1
 ·have hnil:=S6 h0
  rw [hnil] at u6
  have h1:=u4 (u f) fun j hj=>by
   by_cases e:j=f
   ·rw [e]; exact Th _
   ·rw [u6 j hj e H0]; exact jm _
  have h2:=Kc A0 h1
  intro j hj
  by_cases e:j=f
  ·rw [e]; exact ⟨A0,A0⟩
  ·rw [u6 j hj e H0]; exact ⟨A0,A0⟩
 ·obtain ⟨c,hc⟩:=List.length_eq_one_iff.1 h1
  obtain ⟨KN,r,hr,vR⟩:=FB hc
  have hz:∀ j,j < w→j≠f→j≠c→u j=0:=fun j hj h2 h3=>u6 j hj h2 (by rw [hc]; simp [h3])
  have he:A r c*u c+A r f*u f=0:=by
   have hs:=u3 r hr
   rcases (show (c=0∧f=1∧w=2)∨(c=0∧f=1∧w=3)∨(c=0∧f=2∧w=3)∨(c=1∧f=2∧w=3) by omega) with ⟨rfl,rfl,rfl⟩ | ⟨rfl,rfl,rfl⟩ | ⟨rfl,rfl,rfl⟩ | ⟨rfl,rfl,rfl⟩
   ·have h:0+A r 0*u 0+A r 1*u 1=0:=hs
    omega
   ·have h:0+A r 0*u 0+A r 1*u 1+A r 2*u 2=0:=hs
    rw [hz 2 A0 A0 A0,Q3] at h
    omega
   ·have h:0+A r 0*u 0+A r 1*u 1+A r 2*u 2=0:=hs
    rw [hz 1 A0 A0 A0,Q3] at h
    omega
   ·have h:0+A r 0*u 0+A r 1*u 1+A r 2*u 2=0:=hs
    rw [hz 0 A0 A0 A0,Q3] at h
    omega
  obtain ⟨g1,g2⟩:=Fy u5 he vR fun d d1 d2=>u4 d fun j hj=>by
   by_cases e:j=f
   ·rw [e]; exact d2
   ·by_cases e2:j=c
    ·rw [e2]; exact d1
    ·rw [hz j hj e e2]; exact jm _
  intro j hj
  by_cases e:j=f
  ·rw [e]; exact nab (hA r c hr A0) g2
  ·by_cases e2:j=c
   ·rw [e2]; exact nab (hA r f hr hf) g1
   ·rw [hz j hj e e2]; exact ⟨A0,A0⟩
theorem As {p:Int} {f:Nat}:∀ {d:Nat},(pvs p n A f).length≤(pvs p n A (f+d)).length
 | 0=>H2 _
 | d+1=>by
  refine Ca (As (d:=d)) ?_
  by_cases h:Dt.Fr p n A (f+d)
  ·rw [← Qd,I9 h]
   exact H2 _
  ·rw [← Qd,ma h,Q1]
   omega
theorem MC (hw:w≤3) (hA:∀ i j,i < n→j < w→Bd (pw 5) (A i j)) {V:List (List Nb)} {Y:Mx} (hV:Tg V (frs n A w).length w Y) (hY:∀ i j,i < (frs n A w).length→j < w→Bd MB (Y i j)) (hK:∀ (i f:Nat),(frs n A w)[i]?=some f→∃ v,V[i]?=some v∧KV n w A f v) (h0:(frs n A w).length≠0):m_iq V=some ((pvs 0 (frs n A w).length Y w).length:Int):=by
 have hf:=Ab (n:=n) (A:=A) w
 by_cases h1:(frs n A w).length=1
 ·rw [h1] at hV hY ⊢
  obtain ⟨k,h1,A',col,sn,h2⟩:=og sd (okb1 Hg hY) (hV.tr hY sd) A0 A0 A0 (.inl A0)
  rw [h1,h2.rn.len P5]
 ·have hS:∀ i j,i < (frs n A w).length→j < w→Bd (pw 5) (Y i j):=by
   intro i j hi hj
   obtain ⟨v,v1,u,u1,u2,u3,u4,u5,u6⟩:=hK i _ (B3 hi)
   have WR:=(Xg.1 (N5 hi)).1
   have dQ:=LC WR hw hA (by
    have:=As (n:=n) (A:=A) (p:=0) (f:=(frs n A w)[i]) (d:=w - (frs n A w)[i])
    rw [show (frs n A w)[i]+(w - (frs n A w)[i])=w by omega] at this
    omega) u3 u4 u5 u6 j hj
   obtain ⟨l,l1,l2⟩:=hV.2 i hi
   rw [v1] at l1
   cases l1
   obtain ⟨z,z1,z2⟩:=l2.2 j hj
   obtain ⟨z',z1',z2'⟩:=u1.2 j hj
   rw [z1] at z1'
   cases z1'
   rw [← z2.sv,z2'.sv]; exact dQ
  obtain ⟨k,h1,A',col,sn,h2⟩:=og sd (kd A0 hS) (hV.tr6 hS) A0 A0 A0 (.inl A0)
  rw [h1,h2.rn.len P5]
end
def zM:List (List (Bool×LI)):=List.replicate 16 (List.replicate 16 (false,[]))
def zI:L2:=List.replicate 16 (List.replicate 16 0)
def zK:List (List (Bool×LI)):=(List.range 16).map fun f=>(List.range 16).map fun j=>if j=f then (false,[1]) else (false,[])
def zS:LI:=List.replicate 17 0
theorem Wh:m_dv 16 16 zS [] []=some (zM,0,0):=I0
theorem Vh:m_hp 16 16 zS [] []=some (zM,0,0):=I0
theorem xm:m_fq zM 16=some zK:=I0
theorem vm:m_i3 zM 16=some zK:=I0
theorem Ew:m_f2 zM 2147483647=some zI:=by
 delta m_f2 m_f1 m_f0
 simp only [tg]
 kernel_rfl
theorem Bm:m_gy zI 2147483647=some []:=by
 delta m_gy m_gx m_gv
 simp only [jh]
 kernel_rfl
theorem z_tr:m_g1 zI 16=some zI:=I0
theorem um:m_jc zM 2147483647=some zI:=I0
theorem zm:m_j2 zI 16 2147483647=some []:=I0
theorem uw:m_j5 zI 16=some zI:=I0
theorem Gw:m_g3 16 16 zS [] []=some (0,2147483647,[],[],zK,0):=by
 obtain ⟨l,h1,h2,h3,h4⟩:=wg
 have hl:0 < l.length:=(Z1.1 h3).1
 have hg:getI l 0=some 2147483647:=h3
 unfold m_g3
 rw [Wh,obs]
 simp only [if_true]
 rw [xm,obs,h1,obs,Yj (o:=.inr (2147483647,[],[]))]
 ·rfl
 ·unfold m_g2
  rw [C0,hg,obs]
  simp only
  rw [Ew,obs,Bm,obs,M0 I0,z_tr,obs,Bm,obs]
theorem Fw:m_j7 16 16 zS [] []=some (0,2147483647,[],[],zK,0):=by
 obtain ⟨l,h1,h2,h3,h4⟩:=wg
 have hl:0 < l.length:=(Z1.1 h3).1
 have hg:getI l 0=some 2147483647:=h3
 unfold m_j7
 rw [Vh,obs]
 simp only [if_true]
 rw [vm,obs,Es,h1,obs,Yj (o:=.inr (2147483647,[],[]))]
 ·rfl
 ·unfold m_j6
  rw [C0,hg,obs]
  simp only
  rw [um,obs,obs,zm,obs,M0 I0,uw,obs,obs,zm,obs,obs]
theorem Aw:m_j8 16 16 zS [] []=some (zK.head!,true,0):=by
 unfold m_j8
 rw [Wh,obs]
 simp only [if_true]
 rw [xm,obs]
 kernel_rfl
theorem zw:m_j9 16 16 zS [] []=some (zK.head!,true,0):=by
 unfold m_j9
 rw [Vh,obs]
 simp only [if_true]
 rw [vm,obs]
 kernel_rfl
theorem Bw:m_kj 0 2147483647 [] [] zK 0 2147483647 [] [] zK=some true:=I0
theorem Nw:m_kg zK.head! zK.head!= some true:=I0
theorem Iw:m_kq zM 0 2147483647 [] [] zK=some true:=by
 delta m_kq m_kp m_ko m_kn m_km
 simp only [tg,jh]
 kernel_rfl
theorem OE {x y sh r p d q:Int} {st ix vl R C:LI} {T V:List (List Nb)} {U W:L2} (hI:m_hp x y st ix vl=some (T,sh,0)) (hp:p≤2147483647) (hq:m_i5 p=some true) (a1:m_kx R r x=some true) (a2:m_kx C r y=some true) (hl:(V.length:Int)=ws .i64 y r)
  (u1:m_jc T p=some U) (w1:m_jh U R C=some W) (d1:m_ky W p=some d) (hd:d≠0) (hL:loop (m_k4 V y (T,sh,0)) 0=some (.inl ())) (hR:m_iq V=some q) (hQ:(V.length:Int)=q):m_k5 x y st ix vl r p R C V=some true:=by
 unfold m_k5
 rw [hI,obs]
 simp only
 rw [K0 (by simp; omega),hq]
 simp only [M5,Y5,Q2,if_false]
 rw [a1]
 simp only [M5,Y5,Q2,if_false]
 rw [a2]
 simp only [M5,Y5,Zd]
 rw [← hl,K0 H0,u1,obs,w1,obs,d1,obs,K0 hd,hL,obs]
 simp only
 by_cases h0:(V.length:Int)=0
 ·rw [M0 h0]; rfl
 ·rw [K0 h0,hR,obs,obs,decide_eq_true hQ.symm]
theorem Mw:m_kv 16 16 zS [] [] 0 2147483647 [] [] zK=some true:=by
 unfold m_kv
 rw [Wh,obs]
 simp only [if_true]
 rw [isp,obs,obs,K0 H0,show m_kl [] 0 16=some true by kernel_rfl,obs,M0 rfl,obs,obs,K0 H0,Iw,obs,obs,K0 H0]
 kernel_rfl
theorem yw:Tg zK 16 16 (fun i j=>if j=i then 1 else 0):=by
 refine ⟨I0,fun r hr=>⟨(List.range 16).map fun j=>if j=r then (false,[1]) else (false,[]),?_,H0,fun c hc=>?_⟩⟩
 ·unfold zK
  rw [y9,Ta hr]; rfl
 ·refine ⟨if c=r then (false,[1]) else (false,[]),?_,?_⟩
  ·rw [y9,Ta hc]; rfl
  ·by_cases e:c=r
   ·simp only [M0 e]; exact Uk
   ·simp only [K0 e]; exact Ac
theorem Hw:(pvs 0 16 (fun i j=>if j=i then 1 else 0) 16).length=16:=by
 have hi:=tu (w:=16) (V:=fun i j=>if j=i then 1 else 0) (m:=16) (f:=fun i=>i) (fun i hi=>hi) (fun i j PG hj=>PG) (fun i hi=>by simp) fun i c hi h1 h2=>K0 A0
 rw [cd P5,hi.range (B:=tp (fun i j=>if j=i then 1 else 0)) (fun _ _ _ _=>rfl) _ (H2 _),Q6]
theorem z_rk:m_iq zK=some 16:=by
 have hB:∀ i j,i < 16→j < 16→Bd 1 ((fun i j=>if j=i then 1 else 0:Mx) i j):=fun i j _ _=>by
  show Bd 1 (if j=i then 1 else 0)
  split
  ·exact ⟨A0,A0⟩
  ·exact ⟨A0,A0⟩
 have hO:=zg (K:=16) (M:=1) A0 A0 (H2 16) hB
 have hM:2*(((16:Nat):Int)*1) ^ (16+2) < pw 60:=by
  rw [L6]
  have h1:=ka (N:=74) (M:=32*60) A0
  have h2:(2:Int)*(((16:Nat):Int)*1) ^ (16+2) < 2 ^ 74:=by decide
  omega
 obtain ⟨k,h1,A',col,sn,h2⟩:=og hM hO (yw.tr hB (K:=1) (by decide)) A0 A0 A0 (.inl A0)
 rw [h1,h2.rn.len P5,Hw]; rfl
theorem Jw:loop (m_k4 zK 16 (zM,0,0)) 0=some (.inl ()):=I0
theorem Kw:m_k5 16 16 zS [] [] 0 2147483647 [] [] zK=some true:=
 OE (T:=zM) (sh:=0) (U:=zI) (W:=[]) (d:=1) Vh A0 isp I0 I0 I0 um I0 I0 A0 Jw z_rk I0
theorem Qg {x y:Int} {st ix vl:LI} {o:Int×Int×LI×LI×List (List Nb)×Int} {v:List Nb} {ok b:Bool} {e:Int}
  (r1:m_g3 x y st ix vl=some o) (r2:m_j7 x y st ix vl=some o) (s1:m_j8 x y st ix vl=some (v,ok,e)) (s2:m_j9 x y st ix vl=some (v,ok,e))
  (hs:m_kj o.1 o.2.1 o.2.2.1 o.2.2.2.1 o.2.2.2.2.1 o.1 o.2.1 o.2.2.1 o.2.2.2.1 o.2.2.2.2.1=some true) (hb:m_kg v v=some true)
  (c1:m_kv x y st ix vl o.1 o.2.1 o.2.2.1 o.2.2.2.1 o.2.2.2.2.1=some b) (c2:m_k5 x y st ix vl o.1 o.2.1 o.2.2.1 o.2.2.2.1 o.2.2.2.2.1=some b):m_k7 x y st ix vl=some true:=by
 unfold m_k7
 rw [r1,obs,r2,obs,s1,obs,s2,obs]
 simp only [if_true,hs,hb,c1,c2,bF,M5,beq_self_eq_true,decide_true]
theorem Rg {x y:Int} {st ix vl:LI} {e:Int} (he:e≠0) (i1:m_dv x y st ix vl=some ([],0,e)) (i2:m_hp x y st ix vl=some ([],0,e)):m_k7 x y st ix vl=some true:=by
 refine Qg (o:=(0,0,[],[],[],e)) (v:=[]) (ok:=false) (e:=e) (b:=false) ?_ ?_ ?_ ?_ (yj H0 H0 (Aj H0 H0)) (Je H0 H0) ?_ ?_
 ·unfold m_g3; rw [i1,obs]; exact K0 he
 ·unfold m_j7; rw [i2,obs]; exact K0 he
 ·unfold m_j8; rw [i1,obs]; exact K0 he
 ·unfold m_j9; rw [i2,obs]; exact K0 he
 ·unfold m_kv
  rw [i1,obs]
  simp only
  rw [K0 he,obs,M0 (by rfl)]
 ·unfold m_k5
  rw [i2,obs]
  simp only
  rw [M0 (by simp [he])]
  simp only [M5,if_true,iw]
theorem OC {n w:Nat} {E:L2} {st ix vl:LI} (hn:n≤3) (hw:w≤3) (hP:Pm 977 1069 n w E st ix vl):m_k7 (n:Int) (w:Int) st ix vl=some true:=by
 obtain ⟨T,sh,A,i1,i2,hT,hA⟩:=SC hP A0 A0
 obtain ⟨v,ok,s1,s2,s3⟩:=Cz A0 A0 hT hA i1 i2
 obtain ⟨V,v1,v2,v3⟩:=zt A0 A0 hT hA
 obtain ⟨V',v1',v2',v3'⟩:=At A0 A0 hT hA
 have pS:=JC v2 v2' v3 v3'
 subst pS
 obtain ⟨ps,q1,q2,q3,q4⟩:=wg
 have r1:=VA A0 A0 hT hA i1 q1 q2 q4 v1 v2
 have r2:=XA A0 A0 hT hA i2 (Es.trans q1) q2 q4 v1' v2
 have xP:=fun p=>kb (p:=p) (n:=n) (A:=A) w
 have QJ:=fun p=>kb (p:=p) (n:=w) (A:=tp A) n
 obtain ⟨Y,y1,y2,y3,y4⟩:=KC v2 v3
 have hf:=Ab (n:=n) (A:=A) w
 cases hq:ps.find? (keeps n w A) with
 | none=>
  rw [hq] at r1 r2
  obtain ⟨c1,c2⟩:=IE (n:=n) (w:=w) A0 A0 i1 i2
  exact Qg r1 r2 s1 s2 (yj H0 H0 (Aj H0 H0)) s3 c1 c2
 | some p=>
  rw [hq] at r1 r2
  have BS:=q4 p (FF hq)
  have hk:keeps n w A p=true:=List.find?_some hq
  have XQ:=xP p
  have WQ:=QJ p
  have ZM:=WA BS hk y3 y4
  obtain ⟨b,c1,c2⟩:=ME A0 A0 hT hA i1 (m:=(frs n A w).length) A0 y1 y2 (r:=((pvs 0 n A w).length:Int)) (p:=p) (R:=ints (pvs p w (tp A) n)) (C:=ints (pvs p n A w)) (by rw [H4]; omega) (by rw [H4]; omega)
  have hb:b=true:=c2.2 ZM
  subst hb
  exact Qg r1 r2 s1 s2 (yj (by rw [H4]; omega) (by rw [H4]; omega) (IC A0 v2 v3)) s3 c1 (PE A0 A0 hT hA i2 A0 y1 y2 (MC hw hA y1 y2 v3) (by rw [H4]; omega) (by rw [H4]; omega) ZM)
theorem eu {R:Nat}:∀ {E:L2},(∀ l,l∈E→l.length≤R)→E.flatten.length≤R*E.length
 | [],_=>P9 _
 | l::E,h=>by
  have h1:=eu (E:=E) fun m hm=>h m (Ic _ hm)
  have h2:=h l (Hc ..)
  rw [List.flatten_cons,Q1,I2,Nat.mul_succ]
  omega
theorem tk {n w:Nat} {st ix vl:LI} (hn:n≤3) (hw:w≤3) (h3:st.length≤100000) (h5:ix.length≤100000) (h7:vl.length≤100000) (hg:Gv.Ff vl→∀ v,v∈vl→Gf 977 1069 v):m_k7 (n:Int) (w:Int) st ix vl=some true:=by
 obtain ⟨e,e1,e2,hO⟩:=Gv.checks (x1:=(n:Int)) (x2:=(w:Int)) h3 h5 h7
 by_cases he:e=0
 ·subst he
  have hF:Gv.Ff vl:=by
   rcases hO with ⟨h,_⟩ | ⟨h,_⟩ | ⟨h,_⟩ | ⟨_,_,_,h⟩
   ·cases h
   ·cases h
   ·cases h
   ·exact h
  have hM:=Gv.va_mv hO.va hF
  refine OC hn hw ⟨hM,hg hF,?_⟩
  have h1:=eu (R:=n) (E:=Gv.colsOf st ix w) fun l hl=>Me (hM.asc l hl) (hM.rng l hl)
  rw [← hM.ixe,hM.len] at h1
  exact h1
 ·refine Rg (e:=e) he ?_ ?_
  ·unfold m_dv; rw [e1,obs,K0 he]
  ·unfold m_hp; rw [e2,obs,K0 he]
theorem NC:∀ a b:Nat,a < 2→b < 2→(mkL (0:Int) (wa .i64 (wa .i64 16 (b:Int)) 1)).bind (fun x=>m_k7 (wa .i64 16 (a:Int)) (wa .i64 16 (b:Int)) x [] [])=some true:=by
 intro a b ha hb
 rcases (show a=0∨a=1 by omega) with rfl | rfl
 ·rcases (show b=0∨b=1 by omega) with rfl | rfl
  ·rw [show mkL (0:Int) (wa .i64 (wa .i64 16 ((0:Nat):Int)) 1)=some zS by kernel_rfl,obs,show wa .i64 16 ((0:Nat):Int)=16 by kernel_rfl]
   exact Qg Gw Fw Aw zw Bw Nw Mw Kw
  ·rw [show mkL (0:Int) (wa .i64 (wa .i64 16 ((1:Nat):Int)) 1)=some (List.replicate 18 0) by kernel_rfl,obs]
   exact Rg (e:=6) A0 I0 I0
 ·rcases (show b=0∨b=1 by omega) with rfl | rfl
  ·rw [show mkL (0:Int) (wa .i64 (wa .i64 16 ((0:Nat):Int)) 1)=some zS by kernel_rfl,obs]
   exact Rg (e:=6) A0 I0 I0
  ·rw [show mkL (0:Int) (wa .i64 (wa .i64 16 ((1:Nat):Int)) 1)=some (List.replicate 18 0) by kernel_rfl,obs]
   exact Rg (e:=6) A0 I0 I0
theorem oB (l:LI) (x3 x4 x5:Int) (h:okL (Wf .u64) l) (_:Wf .i64 x3) (_:Wf .i64 x4) (_:Wf .i64 x5):m_la l x3 x4 x5=some true:=by
 obtain ⟨R,b1,b2⟩:=Ha x3 (n:=4) A0 A0
 obtain ⟨C,c1,c2⟩:=Ha x4 (n:=4) A0 A0
 obtain ⟨⟨gr,gc,st,ix,vl⟩,d1,d2,d3,E,d4⟩:=oD l (mL h.1) (r:=R) (c:=C) (st:=0) A0 A0 A0
 simp only at d2 d3 d4
 subst d2 d3
 have XJ:=d4.mv.sl
 have dB:=d4.mv.vle
 have hle:=d4.le
 have OT:R*C≤3*3:=S9 A0 A0
 have GL:∀ v,v∈vl→Gf 977 1069 v:=fun v hv=>(d4.gf v hv).mono A0 A0
 unfold m_la
 rw [show (4:Int)=((4:Nat):Int) from rfl,b1,obs,c1,obs,show (0:Int)=((0:Nat):Int) from rfl,d1,obs]
 simp only
 split
 ·obtain ⟨a,a1,a2⟩:=Ha x3 (n:=2) A0 A0
  obtain ⟨b,q1,q2⟩:=Ha x4 (n:=2) A0 A0
  rw [show (2:Int)=((2:Nat):Int) from rfl,a1,obs,q1,obs,obs]
  exact NC a b a2 q2
 ·split
  ·rename_i hc
   simp only [w4,decide_eq_true_eq] at hc
   obtain ⟨k,k1,k2⟩:=Ha x5 (n:=ix.length) A0 A0
   obtain ⟨s,s1,s2⟩:=Ha x5 (n:=5) A0 A0
   rw [k1,obs,M6 k2,obs,show (5:Int)=((5:Nat):Int) from rfl,s1,obs,Xc A0 A0,obs]
   unfold m_k8
   exact tk A0 A0 (show st.length≤100000 by omega) (by rw [N3]; omega) (show vl.length≤100000 by omega) fun _=>GL
  ·split
   ·obtain ⟨k,k1,k2⟩:=Ha x5 (n:=vl.length) A0 A0
    rw [k1,obs,Xc A0 A0,obs]
    unfold m_k9 m_k8
    refine tk A0 A0 (show st.length≤100000 by omega) (show ix.length≤100000 by omega) (by rw [N3]; omega) fun hF=>?_
    have h1:=hF 9218868437227405312 (by
     refine Jv.2 ⟨k,?_⟩
     rw [Z0,D5 k2])
    have h2:Gv.Fn 9218868437227405312=false:=I0
    rw [h2] at h1
    cases h1
   ·unfold m_k9 m_k8
    exact tk A0 A0 (show st.length≤100000 by omega) (show ix.length≤100000 by omega) (show vl.length≤100000 by omega) fun _=>GL
end Km
