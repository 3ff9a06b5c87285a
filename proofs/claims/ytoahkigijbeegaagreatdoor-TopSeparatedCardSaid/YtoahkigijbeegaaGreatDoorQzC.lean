/- The elimination forest: links go up. It says no more of them. -/
import Derived.Test.YtoahkigijbeegaaGreatDoorQzA
import Derived.Test.YtoahkigijbeegaaGreatDoorQzB
import Derived.KernelRfl
import Derived.Test.YtoahkigijbeegaaGreatDoorSxR
set_option linter.unusedSimpArgs false
set_option linter.unusedVariables false
set_option maxHeartbeats 4000000
set_option maxRecDepth 100000
namespace Ts
open Pl Sx Go M Vc
def Inc (n:Nat) (v:Int) (par:LI):Prop:=par.length=n∧∀ (u:Nat) p,par[u]?=some p→p= -1∨((u:Int) < p∧p≤v)
theorem Inc.set {n v:Nat} {par:LI} (h:Inc n v par) {u:Nat} (hu:u < v):Inc n v (par.set u (v:Int)):=by
 refine ⟨by simp [h.1],fun k p hk=>?_⟩
 rw [B3] at hk
 by_cases e:u=k
 ·rw [I0 e] at hk
  split at hk
  ·have:=P1 hk
   exact .inr n0
  ·cases hk
 ·rw [J0 e] at hk
  exact h.2 k p hk
theorem Inc.mono {n:Nat} {v v':Int} {par:LI} (h:Inc n v par) (hv:v≤v'):Inc n v' par:=
 ⟨h.1,fun u p hu=>(h.2 u p hu).imp id fun h=>⟨h.1,n0⟩⟩
theorem join_ok {n v:Nat} {par anc:LI} {w:Int} (hw:w= -1∨0≤w) (hv:v < n) (hn:n≤1000) (hp:Inc n v par) (ha:Inc n v anc):
  ∃ par' anc',m_jy par anc w (v:Int)=some (par',anc')∧Inc n v par'∧Inc n v anc':=by
 obtain ⟨o,h1,h2⟩:=M9 (step:=m_jx (v:Int)) (s:=(par,anc,w)) (fun s=>Inc n v s.1∧Inc n v s.2.1∧(s.2.2= -1∨0≤s.2.2)) (fun o=>Inc n v o.1∧Inc n v o.2) (fun s=>if s.2.2 < 0 then 0 else (v+1 - s.2.2.toNat)) ⟨hp,ha,hw⟩ (by simp only; split<;>omega) (by
  rintro ⟨par,anc,x⟩ ⟨hp,ha,hx⟩
  simp only at hp ha hx
  unfold m_jx
  simp only
  by_cases hc:x≠-1∧x < (v:Int)
  ·rw [I0 (by simpa using hc)]
   obtain ⟨k,rfl⟩:=D3 (show 0≤x by omega)
   have kK:k < v:=n0
   have SH:k < anc.length:=by rw [ha.1]; omega
   have RH:k < par.length:=by rw [hp.1]; omega
   have pM:anc[k]?=some anc[k]:=by simp [SH]
   have hi:=ha.2 k _ pM
   rw [bindS (getI_lt SH),bindS (setI_lt SH)]
   unfold m_jw
   by_cases Bu:anc[k]= -1
   ·rw [I0 Bu,bindS (setI_lt RH)]
    refine .inl ⟨_,rfl,⟨hp.set kK,ha.set kK,.inl Bu⟩,?_⟩
    simp only [Bu]
    rw [B0,A0]
    omega
   ·rw [J0 Bu]
    refine .inl ⟨_,rfl,⟨hp,ha.set kK,.inr (by simp only; omega)⟩,?_⟩
    simp only
    rw [A0,A0]
    omega
  ·rw [J0 (by simpa using hc)]
   exact .inr ⟨_,rfl,hp,ha⟩)
 exact ⟨o.1,o.2,by unfold m_jy; rw [h1]; rfl,h2.1,h2.2⟩
theorem pz {n:Nat} (hn:n≤1000):m_jv (n:Int)=some (List.replicate n (-1),List.replicate n (-1)):=by
 have key:∀ {l:LI},l.length=n→(∀ u,u < n→l[u]?=some (-1))→l=List.replicate n (-1):=fun {l} hl h=>by
  apply C6
  intro u
  by_cases hu:u < n
  ·rw [h u hu]; simp [hu]
  ·rw [L5 n0,L5 (by simp; omega)]
 refine Ret.eq ?_
 unfold m_jv
 rw [bindS (G4 0 n n0),bindS (G4 0 n n0),O0]
 refine Y4 (P:=fun o=>o=(List.replicate n (-1),List.replicate n (-1))) ?_ (by rintro _ rfl; rw [K0])
 refine Q0 n (fun k (t:LI×LI×Int)=>t.2.2=k∧t.1.length=n∧t.2.1.length=n∧∀ u,u < k→t.1[u]?=some (-1)∧t.2.1[u]?=some (-1)) ⟨rfl,G0,G0,fun u hu=>n0⟩ ?_
 rintro k ⟨a,b,_⟩ hk ⟨rfl,h1,h2,h3⟩
 simp only at h1 h2 h3
 unfold m_ju
 by_cases ou:k < n
 ·have e5:(k:Int) < (n:Int):=n0
  have hw:wa .i64 (k:Int) 1=((k+1:Nat):Int):=wa1 n0
  simp only [vcD,implies_true,D2,reduceCtorEq,e5,hw]
  refine ⟨n0,n0,n0,n0,ou,by simp [h1],by simp [h2],fun u hu=>?_⟩
  rw [B3,B3]
  by_cases uF:k=u
  ·rw [I0 uF,I0 uF,B0,B0]; exact ⟨rfl,rfl⟩
  ·rw [J0 uF,J0 uF]; exact h3 u n0
 ·have e5:¬ (k:Int) < (n:Int):=n0
  simp only [vcD,implies_true,D2,reduceCtorEq,e5]
  rw [key h1 fun u hu=>(h3 u n0).1,key h2 fun u hu=>(h3 u n0).2]
theorem Py {adj:L2} (hG:Gr adj) (hn:adj.length≤200):∃ par,m_j1 adj=some (par,0)∧Inc adj.length (adj.length - 1:Int) par:=by
 suffices key:Ret (m_j1 adj) (fun r=>Inc adj.length (adj.length - 1:Int) r.1∧r.2=0) by
  obtain ⟨⟨p,e⟩,h1,h2,h3⟩:=key
  simp only at h2 h3
  subst h3
  exact ⟨p,h1,h2⟩
 unfold m_j1
 rw [bindS (F8 hG hn),I0 rfl,bindS (pz n0),O0]
 refine Y4 (P:=fun o=>Inc adj.length (adj.length - 1:Int) o.1) ?_ (fun o ho=>by rw [K0]; exact ⟨ho,rfl⟩)
 have h0:Inc adj.length (0:Int) (List.replicate adj.length (-1)):=⟨G0,fun u p hu=>by
  rw [E9] at hu
  split at hu
  ·exact .inl (P1 hu).symm
  ·cases hu⟩
 refine Q0 adj.length (fun k (t:LI×LI×Int)=>t.2.2=k∧(k=0∧Inc adj.length (0:Int) t.1∧Inc adj.length (0:Int) t.2.1∨Inc adj.length (k - 1:Int) t.1∧Inc adj.length (k - 1:Int) t.2.1)) ⟨rfl,.inl ⟨rfl,h0,h0⟩⟩ ?_
 rintro k ⟨a,b,_⟩ hk ⟨rfl,hI⟩
 simp only at hI
 unfold m_j0
 have h2:Inc adj.length (k:Int) a∧Inc adj.length (k:Int) b:=by
  rcases hI with ⟨rfl,h1,h2⟩ | ⟨h1,h2⟩
  ·exact ⟨h1,h2⟩
  ·exact ⟨h1.mono n0,h2.mono n0⟩
 by_cases ou:k < adj.length
 ·have e5:(k:Int) < (adj.length:Int):=n0
  have hw:wa .i64 (k:Int) 1=((k+1:Nat):Int):=wa1 n0
  have hr:=hG.len (v:=k) (l:=adj[k]) (by simp [ou])
  simp only [O0,C1,e5,U1 (getI_lt ou),true_implies,not_true_eq_false,false_implies,and_true]
  refine Y4 (P:=fun o=>Inc adj.length (k:Int) o.1∧Inc adj.length (k:Int) o.2) ?_ (fun o ho=>by
   rw [K0,T0]
   exact ⟨ou,hw,.inr (by rw [show (((k+1:Nat):Int) - 1)=k by omega]; exact ho)⟩)
  refine Q0 adj[k].length (fun q (t:LI×LI×Int)=>t.2.2=q∧Inc adj.length (k:Int) t.1∧Inc adj.length (k:Int) t.2.1) ⟨rfl,h2⟩ ?_
  rintro q ⟨a,b,_⟩ hq ⟨rfl,g1,g2⟩
  simp only at g1 g2
  unfold m_jz
  by_cases iw:q < adj[k].length
  ·have e6:(q:Int) < (adj[k].length:Int):=n0
   have hw2:wa .i64 (q:Int) 1=((q+1:Nat):Int):=wa1 n0
   have hx:=hG.rng k adj[k] _ (by simp [ou]) (Z1 iw)
   obtain ⟨a',b',j1,j2,j3⟩:=join_ok (w:=adj[k][q]) (.inr hx.1) ou n0 g1 g2
   simp only [O0,C1,e6,U1 (getI_lt iw),U1 j1,hw2,K0,T0,true_implies,not_true_eq_false,false_implies,and_true]
   exact ⟨n0,trivial,j2,j3⟩
  ·have e6:¬ (q:Int) < (adj[k].length:Int):=n0
   simp only [vcD,implies_true,D2,reduceCtorEq,e6]
   exact ⟨g1,g2⟩
 ·have e5:¬ (k:Int) < (adj.length:Int):=n0
  simp only [vcD,implies_true,D2,reduceCtorEq,e5]
  rcases hI with ⟨h0,h1,h2⟩ | ⟨h1,h2⟩
  ·refine ⟨h1.1,fun u p hu=>?_⟩
   have:=(C2.1 hu).1
   have:=h1.1
   omega
  ·exact h1.mono n0
def On (adj:L2) (par:LI) (i k:Nat):Prop:=∀ P:Nat→Prop,P i→(∀ l,adj[i]?=some l→∀ j:Nat,(j:Int)∈l→j < i→P j)→(∀ k p:Nat,k < i→P k→par[k]?=some (p:Int)→p < i→P p)→P k
structure Rw (adj:L2) (par:LI) (i:Nat) (r:LI):Prop where
 asc:r.Pairwise (· < ·)
 rng:∀ x,x∈r→0≤x∧x≤(i:Int)
 self:(i:Int)∈r
 on:∀ k:Nat,(k:Int)∈r→On adj par i k
theorem nC {adj:L2} {par:LI} {n i:Nat} (hn:n≤1000) (hp:Inc n (n - 1:Int) par) (hi:i < n) {T:BL} (hT:T.length=i+1) (hO:∀ k:Nat,T[k]?=some true→On adj par i k) (cH:T[i]?=some true) {w:Int} (hw:w= -1∨0≤w∧(w < i→On adj par i w.toNat)):
  ∃ T',loop (m_j4 (i:Int) par) (T,w)=some T'∧T'.length=i+1∧T'[i]?=some true∧∀ k:Nat,T'[k]?=some true→On adj par i k:=by
 obtain ⟨o,h1,h2⟩:=M9 (step:=m_j4 (i:Int) par) (s:=(T,w)) (fun s=>s.1.length=i+1∧s.1[i]?=some true∧(∀ k:Nat,s.1[k]?=some true→On adj par i k)∧(s.2= -1∨0≤s.2∧(s.2 < i→On adj par i s.2.toNat))) (fun o=>o.length=i+1∧o[i]?=some true∧∀ k:Nat,o[k]?=some true→On adj par i k) (fun s=>if s.2 < 0 then 0 else i+1 - s.2.toNat) ⟨hT,cH,hO,hw⟩ (by simp only; split<;>omega) (by
  rintro ⟨T,x⟩ ⟨hT,cH,hO,hx⟩
  simp only at hT cH hO hx
  unfold m_j4
  simp only
  by_cases hc:0≤x∧x < (i:Int)
  ·rw [I0 (by simpa using hc)]
   obtain ⟨k,rfl⟩:=D3 hc.1
   have zy:k < i:=n0
   have jH:k < T.length:=n0
   have RH:k < par.length:=by rw [hp.1]; omega
   have hk:=hx.resolve_left n0
   have PM:On adj par i k:=by simpa using hk.2 n0
   rw [bindS (getI_lt jH)]
   simp only [obs]
   by_cases hb:T[k]=true
   ·rw [hb]
    exact .inr ⟨_,rfl,hT,cH,hO⟩
   ·rw [show T[k]=false by simpa using hb]
    simp only [Bool.not_false,if_true]
    rw [bindS (setI_lt jH),bindS (getI_lt RH)]
    have HH:=hp.2 k par[k] (by simp [RH])
    refine .inl ⟨_,rfl,⟨by simp [hT],?_,fun q hq=>?_,?_⟩,?_⟩
    ·simp only [B3]
     rw [A0]; exact cH
    ·simp only [B3] at hq
     by_cases e:k=q
     ·subst e; exact PM
     ·rw [J0 e] at hq; exact hO q hq
    ·rcases HH with h | ⟨h3,h4⟩
     ·exact .inl h
     ·refine .inr ⟨by simp only; omega,fun hlt=>?_⟩
      simp only at hlt ⊢
      intro P h5 h6 h7
      refine h7 k par[k].toNat zy (PM P h5 h6 h7) ?_ n0
      rw [z8 n0]
      simp [RH]
    ·simp only
     rw [J0 (show ¬ (k:Int) < 0 by omega)]
     split<;>omega
  ·rw [J0 (by simpa using hc)]
   simp only [obs,D2,if_false]
   exact .inr ⟨_,rfl,hT,cH,hO⟩)
 exact ⟨o,h1,h2⟩
theorem sx {adj:L2} {par:LI} {n i:Nat} (hG:Gr adj) (hl:adj.length=n) (hn:n≤1000) (hp:Inc n (n - 1:Int) par) (hi:i < n):∃ r,m_j6 adj par (i:Int)=some r∧Rw adj par i r:=by
 have dB:i < adj.length:=n0
 have XE:adj[i]?=some adj[i]:=by simp [dB]
 have ax:=hG.len XE
 unfold m_j6
 rw [wa1 n0,bindS (G4 false (i+1) n0),bindS (setI_lt G0),bindS (getI_lt dB)]
 obtain ⟨T,t1,t2,t3,t4⟩:Ret (loop (m_j5 adj[i] (i:Int) par) ((List.replicate (i+1) false).set i true,0)) (fun T=>T.length=i+1∧T[i]?=some true∧∀ k:Nat,T[k]?=some true→On adj par i k):=by
  refine Q0 adj[i].length (fun k (t:BL×Int)=>t.2=k∧t.1.length=i+1∧t.1[i]?=some true∧∀ k:Nat,t.1[k]?=some true→On adj par i k) ⟨rfl,G0,G0,fun k hk=>?_⟩ ?_
  ·simp only [B3] at hk
   by_cases e:i=k
   ·subst e; exact fun P h5 h6 h7=>h5
   ·rw [J0 e,E9] at hk
    split at hk<;>simp at hk
  ·rintro k ⟨T,_⟩ hk ⟨rfl,h1,h2,h3⟩
   simp only at h1 h2 h3
   unfold m_j5
   by_cases ou:k < adj[i].length
   ·have e5:(k:Int) < (adj[i].length:Int):=n0
    have hw:wa .i64 (k:Int) 1=((k+1:Nat):Int):=wa1 n0
    have hx:=hG.rng i adj[i] _ XE (Z1 ou)
    obtain ⟨T',j1,j2,j3,j4⟩:=nC (adj:=adj) (w:=adj[i][k]) hn hp hi h1 h3 h2 (.inr ⟨hx.1,fun hlt=>fun P h5 h6 h7=>by
     refine h6 _ XE _ ?_ n0
     rw [z8 hx.1]
     exact Z1 ou⟩)
    simp only [O0,C1,e5,U1 (getI_lt ou),U1 j1,hw,K0,T0,true_implies,not_true_eq_false,false_implies,and_true]
    exact ⟨n0,trivial,j2,j3,j4⟩
   ·have e5:¬ (k:Int) < (adj[i].length:Int):=n0
    simp only [vcD,implies_true,D2,reduceCtorEq,e5]
    exact ⟨h1,h2,h3⟩
 rw [bindS t1]
 obtain ⟨r,r1,r2,r3⟩:Ret (loop (m_j3 T) ([],0)) (fun r=>r.Pairwise (· < ·)∧∀ x:Int,x∈r↔0≤x∧T[x.toNat]?=some true):=by
  refine Q0 (i+1) (fun k (t:LI×Int)=>t.2=k∧t.1.length≤k∧t.1.Pairwise (· < ·)∧∀ x:Int,x∈t.1↔0≤x∧x < k∧T[x.toNat]?=some true) ⟨rfl,G0,List.Pairwise.nil,fun x=>⟨fun h=>by simp at h,fun h=>n0⟩⟩ ?_
  rintro k ⟨r,_⟩ hk ⟨rfl,h0,h1,h2⟩
  simp only at h0 h1 h2
  unfold m_j3
  by_cases ou:k < i+1
  ·have jH:k < T.length:=n0
   have e5:(k:Int) < (T.length:Int):=n0
   have hw:wa .i64 (k:Int) 1=((k+1:Nat):Int):=wa1 n0
   have step:∀ x:Int,(0≤x∧x < ((k+1:Nat):Int)∧T[x.toNat]?=some true)↔(0≤x∧x < k∧T[x.toNat]?=some true)∨(x=k∧T[k]=true):=by
    intro x
    constructor
    ·rintro ⟨a1,a2,a3⟩
     by_cases hx:x=k
     ·subst hx
      simp only [H1] at a3
      exact .inr ⟨rfl,by simpa [jH] using a3⟩
     ·exact .inl ⟨a1,n0,a3⟩
    ·rintro (⟨a1,a2,a3⟩ | ⟨rfl,a2⟩)
     ·exact ⟨a1,n0,a3⟩
     ·exact ⟨n0,n0,by simpa [jH] using a2⟩
   simp only [O0,C1,e5,U1 (getI_lt jH),true_implies,not_true_eq_false,false_implies,and_true]
   unfold m_j2
   refine ⟨fun hb=>?_,fun hb=>?_⟩
   ·simp only [s5,K0,T0,hw,w8]
    refine ⟨n0,ou,trivial,by simp; omega,?_,fun x=>?_⟩
    ·rw [C9]
     exact ⟨h1,G0,fun x hx y hy=>by have:=(h2 x).1 hx; simp at hy; omega⟩
    ·rw [I2,h2 x,step x]
     simp [hb]
   ·simp only [K0,T0,hw]
    refine ⟨ou,trivial,n0,h1,fun x=>?_⟩
    rw [h2 x,step x]
    simp [hb]
  ·have e5:¬ (k:Int) < (T.length:Int):=n0
   simp only [vcD,implies_true,D2,reduceCtorEq,e5]
   refine ⟨h1,fun x=>?_⟩
   rw [h2 x]
   constructor
   ·rintro ⟨a1,a2,a3⟩; exact ⟨a1,a3⟩
   ·rintro ⟨a1,a3⟩
    have:=(C2.1 a3).1
    exact ⟨a1,n0,a3⟩
 rw [bindS r1]
 refine ⟨r,rfl,r2,fun x hx=>?_,(r3 _).2 ⟨n0,by simpa using t3⟩,fun k hk=>?_⟩
 ·obtain ⟨a1,a2⟩:=(r3 x).1 hx
  have:=(C2.1 a2).1
  omega
 ·have:=((r3 _).1 hk).2
  simp only [H1] at this
  exact t4 k this
theorem Qp {α:Type} (z:α) (n:Nat):(List.range n).map (fun _=>z)=List.replicate n z:=by
 induction n with
 | zero=>rfl
 | succ n ih=>rw [Oc,o7,ih,Nc]; rfl
def col (R:Nat→LI) (j:Nat):Nat→LI
 | 0=>[]
 | v+1=>if (j:Int)∈R v then col R j v++[(v:Int)] else col R j v
theorem ja {R:Nat→LI} {j:Nat} {x:Int}:∀ {v:Nat},x∈col R j v↔0≤x∧x < v∧(j:Int)∈R x.toNat
 | 0=>by simp [col]; omega
 | v+1=>by
  unfold col
  split
  ·rename_i h
   rw [I2,ja,Z2]
   constructor
   ·rintro (⟨h1,h2,h3⟩ | rfl)
    ·exact ⟨h1,n0,h3⟩
    ·exact ⟨n0,n0,by simpa using h⟩
   ·rintro ⟨h1,h2,h3⟩
    by_cases e:x=v
    ·exact .inr e
    ·exact .inl ⟨h1,n0,h3⟩
  ·rename_i h
   rw [ja]
   constructor
   ·rintro ⟨h1,h2,h3⟩; exact ⟨h1,n0,h3⟩
   ·rintro ⟨h1,h2,h3⟩
    refine ⟨h1,?_,h3⟩
    by_cases e:x=v
    ·subst e; simp at h3; exact absurd h3 h
    ·omega
theorem Gi {R:Nat→LI} {j:Nat}:∀ v:Nat,(col R j v).Pairwise (· < ·)
 | 0=>List.Pairwise.nil
 | v+1=>by
  unfold col
  split
  ·rw [C9]
   exact ⟨Gi v,G0,fun x hx y hy=>by have:=(ja.1 hx).2.1; simp at hy; omega⟩
  ·exact Gi v
theorem Cb {R:Nat→LI} {j:Nat}:∀ v:Nat,(col R j v).length≤v
 | 0=>by simp [col]
 | v+1=>by
  have:=Cb (R:=R) (j:=j) v
  unfold col
  split
  ·simp; omega
  ·omega
section
variable {adj:L2} {par:LI} {n:Nat} {R:Nat→LI}
theorem bC (hn:n≤1000) {v:Nat} (hv:v < n) (hR:Rw adj par v (R v)) {L:L2} (hL:L=(List.range n).map fun j=>col R j v):loop (m_j7 (R v) (v:Int)) (L,0)=some ((List.range n).map fun j=>col R j (v+1)):=by
 have dG:(R v).length≤v+1:=asc_len (n:=v+1) hR.asc fun x hx=>by have:=hR.rng x hx; omega
 refine Ret.eq ?_
 refine Q0 (R v).length (fun q (t:L2×Int)=>t.2=q∧t.1=(List.range n).map fun j:Nat=>if (j:Int)∈(R v).take q then col R j v++[(v:Int)] else col R j v) ⟨rfl,by simp [hL]⟩ ?_
 rintro q ⟨L,_⟩ hq ⟨rfl,hL⟩
 simp only at hL
 subst hL
 unfold m_j7
 by_cases iw:q < (R v).length
 ·have e5:(q:Int) < ((R v).length:Int):=n0
  have hw:wa .i64 (q:Int) 1=((q+1:Nat):Int):=wa1 n0
  have hx:=hR.rng (R v)[q] (Z1 iw)
  obtain ⟨j,hj⟩:=D3 hx.1
  have SE:j < n:=n0
  have OG:(j:Int)∉(R v).take q:=by
   have:=bc (L:=R v) (hR.asc.imp fun h=>n0) iw
   rwa [hj] at this
  have e1:getI ((List.range n).map fun j:Nat=>if (j:Int)∈(R v).take q then col R j v++[(v:Int)] else col R j v) (j:Int)=some (col R j v):=by
   rw [Y9]
   simp [SE,OG]
  have Hv:=Cb (R:=R) (j:=j) v
  simp only [O0,C1,e5,U1 (getI_lt iw),hj,U1 e1,hw,s5,U1 (setI_lt (show j < ((List.range n).map fun j:Nat=>if (j:Int)∈(R v).take q then col R j v++[(v:Int)] else col R j v).length by simpa using SE)),K0,T0,true_implies,not_true_eq_false,false_implies,and_true,w8]
  refine ⟨n0,n0,trivial,?_⟩
  apply C6
  intro u
  rw [B3]
  by_cases hu:u < n
  ·by_cases e:j=u
   ·subst e
    simp [hu,xa,iw,hj]
   ·have:¬ ((u:Int)=(R v)[q]):=n0
    simp [hu,e,xa,iw,hj,show ¬ ((u:Int)=(j:Int)) by omega]
  ·rw [A0,L5 (by simp; omega),L5 (by simp; omega)]
 ·have e5:¬ (q:Int) < ((R v).length:Int):=n0
  rw [O3 n0]
  simp only [vcD,implies_true,D2,reduceCtorEq,e5]
  refine oj fun j _=>?_
  show _=if (j:Int)∈R v then col R j v++[(v:Int)] else col R j v
  rfl
theorem fC (hn:n≤1000) {v:Nat} (hv:v < n) (hR:Rw adj par v (R v)) {L:LI} (hL:L=(List.range n).map fun j=>((col R j v).length:Int)):loop (m_mf (R v)) (L,0)=some ((List.range n).map fun j=>((col R j (v+1)).length:Int)):=by
 have dG:(R v).length≤v+1:=asc_len (n:=v+1) hR.asc fun x hx=>by have:=hR.rng x hx; omega
 refine Ret.eq ?_
 refine Q0 (R v).length (fun q (t:LI×Int)=>t.2=q∧t.1=(List.range n).map fun j:Nat=>if (j:Int)∈(R v).take q then ((col R j v).length:Int)+1 else ((col R j v).length:Int)) ⟨rfl,by simp [hL]⟩ ?_
 rintro q ⟨L,_⟩ hq ⟨rfl,hL⟩
 simp only at hL
 subst hL
 unfold m_mf
 by_cases iw:q < (R v).length
 ·have e5:(q:Int) < ((R v).length:Int):=n0
  have hw:wa .i64 (q:Int) 1=((q+1:Nat):Int):=wa1 n0
  have hx:=hR.rng (R v)[q] (Z1 iw)
  obtain ⟨j,hj⟩:=D3 hx.1
  have SE:j < n:=n0
  have OG:(j:Int)∉(R v).take q:=by
   have:=bc (L:=R v) (hR.asc.imp fun h=>n0) iw
   rwa [hj] at this
  have e1:getI ((List.range n).map fun j:Nat=>if (j:Int)∈(R v).take q then ((col R j v).length:Int)+1 else ((col R j v).length:Int)) (j:Int)=some ((col R j v).length:Int):=by
   rw [Y9]
   simp [SE,OG]
  have Hv:=Cb (R:=R) (j:=j) v
  have wN:wa .i64 ((col R j v).length:Int) 1=((col R j v).length:Int)+1:=Q2 n0 n0
  simp only [O0,C1,e5,U1 (getI_lt iw),hj,U1 e1,hw,wN,U1 (setI_lt (show j < ((List.range n).map fun j:Nat=>if (j:Int)∈(R v).take q then ((col R j v).length:Int)+1 else ((col R j v).length:Int)).length by simpa using SE)),K0,T0,true_implies,not_true_eq_false,false_implies,and_true]
  refine ⟨n0,trivial,?_⟩
  apply C6
  intro u
  rw [B3]
  by_cases hu:u < n
  ·by_cases e:j=u
   ·subst e
    simp [hu,xa,iw,hj]
   ·simp [hu,e,xa,iw,hj,show ¬ ((u:Int)=(j:Int)) by omega]
  ·rw [A0,L5 (by simp; omega),L5 (by simp; omega)]
 ·have e5:¬ (q:Int) < ((R v).length:Int):=n0
  rw [O3 n0]
  simp only [vcD,implies_true,D2,reduceCtorEq,e5]
  refine oj fun j _=>?_
  show _=(((if (j:Int)∈R v then col R j v++[(v:Int)] else col R j v).length:Nat):Int)
  split<;>simp
structure Rws (adj:L2) (par:LI) (n:Nat) (R:Nat→LI):Prop where
 p:m_j1 adj=some (par,0)
 inc:Inc n (n - 1:Int) par
 row:∀ i,i < n→m_j6 adj par (i:Int)=some (R i)∧Rw adj par i (R i)
theorem rws (hG:Gr adj) (hl:adj.length=n) (hn:n≤200):∃ par R,Rws adj par n R:=by
 obtain ⟨par,h1,h2⟩:=Py hG n0
 rw [hl] at h2
 refine ⟨par,fun i=>(m_j6 adj par (i:Int)).getD [],h1,h2,fun i hi=>?_⟩
 obtain ⟨r,r1,r2⟩:=sx hG hl n0 h2 hi
 rw [r1]
 exact ⟨rfl,r2⟩
theorem Rws.columns (h:Rws adj par n R) (hn:n≤200):m_j9 adj=some ((List.range n).map fun j=>col R j n,0):=by
 refine Ret.eq ?_
 have pF:=h.inc.1
 unfold m_j9
 rw [bindS h.p,I0 rfl,pF,bindS (G4 [] n n0),O0]
 refine Y4 (P:=fun o=>o=(List.range n).map fun j=>col R j n) ?_ (by rintro _ rfl; rw [K0])
 refine Q0 n (fun v (t:L2×Int)=>t.2=v∧t.1=(List.range n).map fun j=>col R j v) ⟨rfl,(Qp [] n).symm⟩ ?_
 rintro v ⟨L,_⟩ hv ⟨rfl,hL⟩
 simp only at hL
 unfold m_j8
 by_cases Sz:v < n
 ·have e5:(v:Int) < (par.length:Int):=n0
  have hw:wa .i64 (v:Int) 1=((v+1:Nat):Int):=wa1 n0
  simp only [O0,C1,e5,U1 (h.row v Sz).1,U1 (bC n0 Sz (h.row v Sz).2 hL),hw,K0,T0,true_implies,not_true_eq_false,false_implies,and_true]
  exact Sz
 ·have e5:¬ (v:Int) < (par.length:Int):=n0
  have:v=n:=n0
  simp only [vcD,implies_true,D2,reduceCtorEq,e5]
  rw [hL,this]
theorem Rws.counts (h:Rws adj par n R) (hn:n≤200):m_mh adj=some ((List.range n).map fun j=>((col R j n).length:Int),0):=by
 refine Ret.eq ?_
 have pF:=h.inc.1
 unfold m_mh
 rw [bindS h.p,I0 rfl,pF,bindS (G4 0 n n0),O0]
 refine Y4 (P:=fun o=>o=(List.range n).map fun j=>((col R j n).length:Int)) ?_ (by rintro _ rfl; rw [K0])
 refine Q0 n (fun v (t:LI×Int)=>t.2=v∧t.1=(List.range n).map fun j=>((col R j v).length:Int)) ⟨rfl,(Qp 0 n).symm⟩ ?_
 rintro v ⟨L,_⟩ hv ⟨rfl,hL⟩
 simp only at hL
 unfold m_mg
 by_cases Sz:v < n
 ·have e5:(v:Int) < (par.length:Int):=n0
  have hw:wa .i64 (v:Int) 1=((v+1:Nat):Int):=wa1 n0
  simp only [O0,C1,e5,U1 (h.row v Sz).1,U1 (fC n0 Sz (h.row v Sz).2 hL),hw,K0,T0,true_implies,not_true_eq_false,false_implies,and_true]
  exact Sz
 ·have e5:¬ (v:Int) < (par.length:Int):=n0
  have:v=n:=n0
  simp only [vcD,implies_true,D2,reduceCtorEq,e5]
  rw [hL,this]
end
def lens:L2→Nat
 | []=>0
 | l::ls=>l.length+lens ls
theorem Lh (l:LI):∀ ls:L2,lens (ls++[l])=lens ls+l.length
 | []=>by simp [lens]
 | x::ls=>by simp only [Da,lens,Lh l ls]; omega
theorem jc {n:Nat}:∀ {ls:L2},(∀ l,l∈ls→l.length≤n)→lens ls≤n*ls.length
 | [],_=>by simp [lens]
 | l::ls,h=>by
  have h1:=h l G0
  have h2:=jc fun x hx=>h x (Qc _ hx)
  simp only [lens,B4,Nat.mul_succ]
  omega
theorem fill_ok {adj h:L2} {o:LI} {par:LI} {n:Nat} {R:Nat→LI} (hr:m_in adj o=some (h,0)) (hR:Rws h par n R) (hn:n≤200):m_mj adj o=some (((lens ((List.range n).map fun j=>col R j n):Nat):Int),0):=by
 refine Ret.eq ?_
 unfold m_mj
 rw [bindS hr,I0 rfl]
 simp only
 rw [bindS (hR.counts hn),O0]
 refine Y4 (P:=fun o=>o=((lens ((List.range n).map fun j=>col R j n):Nat):Int)) ?_ (by rintro _ rfl; rw [K0])
 refine Q0 n (fun v (t:Int×Int)=>t.2=v∧t.1=((lens ((List.range v).map fun j=>col R j n):Nat):Int)) ⟨rfl,rfl⟩ ?_
 rintro v ⟨x,_⟩ hv ⟨rfl,hx⟩
 simp only at hx
 subst hx
 unfold m_mi
 by_cases Sz:v < n
 ·have e5:(v:Int) < (((List.range n).map fun j=>((col R j n).length:Int)).length:Int):=by simpa using Sz
  have hw:wa .i64 (v:Int) 1=((v+1:Nat):Int):=wa1 n0
  have e1:getI ((List.range n).map fun j=>((col R j n).length:Int)) (v:Int)=some ((col R v n).length:Int):=by rw [Y9]; simp [Sz]
  have h1:=jc (n:=n) (ls:=(List.range v).map fun j=>col R j n) (fun l hl=>by
   obtain ⟨j,_,rfl⟩:=Z5.1 hl
   exact Cb n)
  have h2:n*((List.range v).map fun j=>col R j n).length≤200*200:=F5 hn (by simp; omega)
  have h3:=Cb (R:=R) (j:=v) n
  have hw2:wa .i64 ((lens ((List.range v).map fun j=>col R j n):Nat):Int) ((col R v n).length:Int)=((lens ((List.range (v+1)).map fun j=>col R j n):Nat):Int):=by
   rw [Q2 n0 n0,Oc,o7,List.map_singleton,Lh]
   omega
  simp only [O0,C1,e5,U1 e1,hw,hw2,K0,T0,true_implies,not_true_eq_false,false_implies,and_true]
  exact Sz
 ·have e5:¬ (v:Int) < (((List.range n).map fun j=>((col R j n).length:Int)).length:Int):=by simpa using Sz
  have:v=n:=n0
  simp only [vcD,implies_true,D2,reduceCtorEq,e5]
  rw [this]
structure Pat (n:Nat) (C:L2):Prop where
 len:C.length=n
 col:∀ j,j < n→∃ c,C[j]?=some ((j:Int)::c)∧c.Pairwise (· < ·)∧∀ x,x∈c→(j:Int) < x∧x < n
theorem Rws.pat {adj:L2} {par:LI} {n:Nat} {R:Nat→LI} (h:Rws adj par n R):Pat n ((List.range n).map fun j=>col R j n):=by
 refine ⟨G0,fun j hj=>?_⟩
 have hm:(j:Int)∈col R j n:=ja.2 ⟨n0,n0,by simpa using (h.row j hj).2.self⟩
 have nv:∀ x,x∈col R j n→(j:Int)≤x:=fun x hx=>by
  obtain ⟨h1,h2,h3⟩:=ja.1 hx
  have:=(h.row x.toNat n0).2.rng _ h3
  omega
 have ha:=Gi (R:=R) (j:=j) n
 cases hc:col R j n with
 | nil=>rw [hc] at hm; simp at hm
 | cons y c=>
  rw [hc] at hm nv ha
  rw [z6] at ha
  have hy:y=j:=by
   rcases G3.1 hm with h1 | h1
   ·exact h1.symm
   ·have:=ha.1 _ h1
    have:=nv y G0
    omega
  subst hy
  refine ⟨c,by simp [hj,hc],ha.2,fun x hx=>⟨ha.1 x hx,?_⟩⟩
  have:=(ja (R:=R) (j:=j) (v:=n) (x:=x)).1 (by rw [hc]; simp [hx])
  exact this.2.1
abbrev DY:=Bool×Bool×LI×Int
def W64 (f:Int):Prop:=0≤f∧f < 18446744073709551616
def Fi (f:Int):Prop:=W64 f∧m_dh f=some true
def Fp (f:Int):Prop:=∃ d g,m_jo f=some d∧m_k2 d.1 d.2.1 d.2.2.1 d.2.2.2=some g∧0 < g
structure Ar (Gd Gp Gs:DY→Prop):Prop where
 zero:Gd (false,false,[],0)
 dp:∀ d,Gd d→Gp d
 of:∀ f,Fi f→∃ d,m_jo f=some d∧Gd d
 mul:∀ a b,Gd a→Gd b→∃ c d,m_kk a.1 a.2.1 a.2.2.1 a.2.2.2 b.1 b.2.1 b.2.2.1 b.2.2.2=some c∧m_km c.1 c.2.1 c.2.2.1 c.2.2.2=some d∧Gp d
 sum:∀ l,l.length≤300→(∀ d,d∈l→Gp d)→∃ s,m_ky l=some s∧Gs s
 sign:∀ s,Gs s→∃ g,m_k2 s.1 s.2.1 s.2.2.1 s.2.2.2=some g
 root:∀ s g,Gs s→m_k2 s.1 s.2.1 s.2.2.1 s.2.2.2=some g→0 < g→∃ f k b,m_l2 s.1 s.2.1 s.2.2.1 s.2.2.2 0=some f∧m_l3 f=some k∧m_dh f=some b∧W64 f∧(∃ d,m_jo f=some d∧(b=true→Gd d))∧(k≠0→b=true→Fp f)
 quo:∀ s d,Gs s→Gd d→∃ f b,m_l7 s.1 s.2.1 s.2.2.1 s.2.2.2 d.1 d.2.1 d.2.2.1 d.2.2.2 0=some f∧m_dh f=some b∧W64 f
section
variable {Gd Gp Gs:DY→Prop} {n:Nat}
def Gm (Gd:DY→Prop) (m:List (Int×DY)):Prop:=∀ k d,mget m k=some d→Gd d
theorem Bz {m:List (Int×DY)} {k j:Int} {z:DY}:mget (mput m k z) j=if k=j then some z else mget m j:=by
 induction m with
 | nil=>simp [mput,mget]
 | cons a m ih=>
  obtain ⟨i,x⟩:=a
  by_cases h:i=k
  ·subst h
   simp only [mput,mget,if_true]
   split<;>rfl
  ·simp only [mput,J0 h,mget,ih]
   by_cases hj:i=j
   ·subst hj; rw [I0 rfl,I0 rfl,J0 (fun h'=>h h'.symm)]
   ·rw [J0 hj,J0 hj]
theorem Gm.put {m:List (Int×DY)} (h:Gm Gd m) {k:Int} {z:DY} (hz:Gd z):Gm Gd (mput m k z):=fun j d hd=>by
 rw [Bz] at hd
 split at hd
 ·exact P1 hd▸hz
 ·exact h j d hd
theorem Gm.nil:Gm Gd []:=fun _ _ h=>by cases h
theorem Gm.get (A:Ar Gd Gp Gs) {m:List (Int×DY)} (h:Gm Gd m) (k:Int):∃ d,mlkD m k (false,false,[],0)=some d∧Gd d:=by
 refine ⟨_,rfl,?_⟩
 cases e:mget m k with
 | none=>exact A.zero
 | some d=>exact h k d e
theorem Ue {l:MpL DY} {k:Nat} {m:List (Int×DY)} (h:l[k]?=some (some m)):getM l (k:Int)=some m:=by
 show ((l[k]?).bind id)=_
 rw [h]; rfl
def Mx (Gd:DY→Prop) (n:Nat) (X:MpL DY):Prop:=X.length=n∧∀ k,k < n→∃ m,X[k]?=some (some m)∧Gm Gd m
theorem oq (i j:Nat):imin (i:Int) (j:Int)=((min i j:Nat):Int):=by unfold imin; split<;>omega
theorem at_ok (A:Ar Gd Gp Gs) {X:MpL DY} (hX:Mx Gd n X) {g:L2} {i j:Nat} (hi:i < n) (hj:j < n):∃ d,m_ke (n:Int) g X (i:Int) (j:Int)=some d∧Gd d:=by
 obtain ⟨m,h1,h2⟩:=hX.2 (min i j) n0
 obtain ⟨d,h3,h4⟩:=h2.get A (imax (i:Int) (j:Int))
 refine ⟨d,?_,h4⟩
 unfold m_ke
 rw [oq,bindS (Ue h1),bindS h3]
def Rs (n:Nat) (L:L2):Prop:=L.length=n∧∀ i,i < n→∃ l,L[i]?=some l∧l.length≤250∧∀ x,x∈l→0≤x∧x < (i:Int)
def Ex (Gd:DY→Prop) (n j:Nat) (E:MpL DY):Prop:=E.length=n∧∀ k,k < j→∃ m,E[k]?=some (some m)∧Gm Gd m
theorem Ex.le {j j':Nat} {E:MpL DY} (h:Ex Gd n j E) (hj:j'≤j):Ex Gd n j' E:=⟨h.1,fun k hk=>h.2 k n0⟩
theorem Ex.set {j k:Nat} {E:MpL DY} (h:Ex Gd n j E) (hj:j < n) {m:List (Int×DY)} (hm:Gm Gd m):Ex Gd n (j+1) (E.set j (some m)):=by
 refine ⟨by simp [h.1],fun k hk=>?_⟩
 rw [B3]
 by_cases e:j=k
 ·rw [I0 e,I0 (by rw [h.1]; omega)]; exact ⟨m,rfl,hm⟩
 ·rw [J0 e]; exact h.2 k n0
theorem Fo (A:Ar Gd Gp Gs) {C V L:L2} {E X:MpL DY} {g:L2} (hn:n≤15) (hX:Mx Gd n X) (hL:Rs n L) {i j:Nat} (hi:i < n) (hj:j < n) (hE:Ex Gd n j E):
  ∃ s,m_k1 C V E L (n:Int) g X (i:Int) (j:Int)=some s∧Gs s:=by
 obtain ⟨d,h1,h2⟩:=at_ok A hX (g:=g) hi hj
 obtain ⟨l,h3,h4,h5⟩:=hL.2 j hj
 have HJ:getI L (j:Int)=some l:=h3
 unfold m_k1
 rw [bindS h1,bindS HJ]
 obtain ⟨t,t1,t2,t3⟩:Ret (loop (m_k0 l E (i:Int) (j:Int)) ([(d.1,d.2.1,d.2.2.1,d.2.2.2)],0)) (fun t=>t.length≤300∧∀ d,d∈t→Gp d):=by
  refine Q0 l.length (fun k (t:List DY×Int)=>t.2=k∧t.1.length≤1+k∧∀ d,d∈t.1→Gp d) ⟨rfl,G0,fun x hx=>by
   rw [Z2] at hx
   subst hx
   exact A.dp _ h2⟩ ?_
  rintro k ⟨t,_⟩ hk ⟨rfl,g1,g2⟩
  simp only at g1 g2
  unfold m_k0
  by_cases ou:k < l.length
  ·have e5:(k:Int) < (l.length:Int):=n0
   have hw:wa .i64 (k:Int) 1=((k+1:Nat):Int):=wa1 n0
   have hx:=h5 l[k] (Z1 ou)
   obtain ⟨q,hq⟩:=D3 hx.1
   obtain ⟨m,k1,k2⟩:=hE.2 q n0
   obtain ⟨a,a1,a2⟩:=k2.get A (i:Int)
   obtain ⟨b,b1,b2⟩:=k2.get A (j:Int)
   obtain ⟨c,e,c1,c2,c3⟩:=A.mul a b a2 b2
   simp only [O0,C1,e5,U1 (getI_lt ou),hq,U1 (Ue k1),U1 a1,U1 b1,U1 c1,U1 c2,true_implies,not_true_eq_false,false_implies,and_true]
   unfold m_kz
   refine ⟨fun _=>?_,fun _=>?_⟩
   ·simp only [s5,K0,T0,hw,w8]
    refine ⟨n0,ou,trivial,by simp; omega,fun x hx=>?_⟩
    rcases I2.1 hx with hx | hx
    ·exact g2 x hx
    ·rw [Z2] at hx
     subst hx; exact c3
   ·simp only [K0,T0,hw]
    exact ⟨ou,trivial,n0,g2⟩
  ·have e5:¬ (k:Int) < (l.length:Int):=n0
   simp only [vcD,implies_true,D2,reduceCtorEq,e5]
   exact ⟨n0,g2⟩
 obtain ⟨s,s1,s2⟩:=A.sum t t2 t3
 rw [bindS t1,bindS s1]
 exact ⟨s,rfl,s2⟩
def Vs (c v:LI):Prop:=v.length=c.length∧(∀ x,x∈v→m_dh x=some true)∧∀ x,v[0]?=some x→Fp x
def Va (n j:Nat) (C V:L2):Prop:=V.length=n∧(∀ k,k < n→∃ v,V[k]?=some v)∧∀ k c,k < j→C[k]?=some c→∃ v,V[k]?=some v∧Vs c v
theorem UB (A:Ar Gd Gp Gs) {C V L:L2} {E X:MpL DY} {g:L2} (hn:n≤15) (hC:Pat n C) (hX:Mx Gd n X) (hL:Rs n L) {j:Nat} (hj:j < n) (hE:Ex Gd n j E) (hV:Va n j C V):
  ∃ V' E' e,m_l9 C V E L (n:Int) g X (j:Int)=some (V',E',e)∧(e=0→Ex Gd n (j+1) E'∧Va n (j+1) C V'):=by
 obtain ⟨s,s1,s2⟩:=Fo A (C:=C) (V:=V) (g:=g) hn hX hL hj hj hE
 obtain ⟨sg,s3⟩:=A.sign s s2
 unfold m_l9
 rw [bindS s1,bindS s3]
 by_cases h0:sg≤0
 ·rw [I0 h0]; exact ⟨_,_,_,rfl,fun h=>n0⟩
 rw [J0 h0]
 obtain ⟨f,kd,b,f1,f2,f3,f4,⟨d,f5,f6⟩,f7⟩:=A.root s sg s2 s3 n0
 have UH:j < V.length:=by rw [hV.1]; omega
 have vK:j < E.length:=by rw [hE.1]; omega
 rw [bindS f1,bindS f2]
 by_cases TH:kd=0
 ·rw [I0 TH]; exact ⟨_,_,_,rfl,fun h=>n0⟩
 rw [J0 TH,bindS f5,bindS (setI_lt UH),bindS (show setM E (j:Int) (mput [] (j:Int) (d.1,d.2.1,d.2.2.1,d.2.2.2))=some (E.set j (some (mput [] (j:Int) d))) from setI_lt vK),bindS f3]
 cases b with
 | false=>exact ⟨_,_,_,rfl,fun h=>n0⟩
 | true=>
  rw [I0 rfl]
  have hd:=f6 rfl
  obtain ⟨c,c1,c2,c3⟩:=hC.col j hj
  have c1':getI C (j:Int)=some ((j:Int)::c):=c1
  have kx:sli ((j:Int)::c) 1 ((((j:Int)::c).length:Nat):Int)=some c:=by
   unfold sli subL
   rw [I0 (by simp; omega)]
   simp
  rw [bindS c1',bindS kx]
  have Hv:c.length≤n:=by
   have h9:=asc_len (n:=n) (l:=c) c2 fun x hx=>by have:=c3 x hx; omega
   exact h9
  suffices key:Ret (loop (m_l8 c C L (n:Int) g X (j:Int) f) (V.set j [f],E.set j (some (mput [] (j:Int) d)),0)) (fun o=>∀ V' E',o=.inl (V',E')→Ex Gd n (j+1) E'∧Va n (j+1) C V') by
   obtain ⟨o,o1,o2⟩:=key
   rw [bindS o1]
   rcases o with ⟨V',E'⟩ | ⟨V',E'⟩
   ·exact ⟨_,_,_,rfl,fun _=>o2 _ _ rfl⟩
   ·exact ⟨_,_,_,rfl,fun h=>n0⟩
  have YO:Fi f:=⟨f4,f3⟩
  refine Q0 c.length (fun q (t:L2×MpL DY×Int)=>t.2.2=q∧Ex Gd n (j+1) t.2.1∧Va n j C t.1∧∃ v,t.1[j]?=some v∧v.length=q+1∧(∀ x,x∈v→m_dh x=some true)∧∀ x,v[0]?=some x→Fp x) ⟨rfl,?_,?_,[f],by simp [UH],rfl,fun x hx=>by rw [Z2.1 hx]; exact f3,fun x hx=>by simp at hx; subst hx; exact f7 TH rfl⟩ ?_
  ·exact hE.set (k:=0) hj (Gm.nil.put hd)
  ·refine ⟨by simp [hV.1],fun k hk=>?_,fun k c' hk Hu=>?_⟩
   ·rw [B3]
    split
    ·exact ⟨_,rfl⟩
    ·exact hV.2.1 k hk
   ·rw [B3,A0]
    exact hV.2.2 k c' hk Hu
  ·rintro q ⟨V,E,_⟩ hq ⟨rfl,g1,g2,v,g3,g4,g5,g6⟩
   simp only at g1 g2 g3
   unfold m_l8
   by_cases iw:q < c.length
   ·have e5:(q:Int) < (c.length:Int):=n0
    have hw:wa .i64 (q:Int) 1=((q+1:Nat):Int):=wa1 n0
    have hx:=c3 c[q] (Z1 iw)
    obtain ⟨i,hi⟩:=D3 (show 0≤c[q] by omega)
    obtain ⟨s,s1,s2⟩:=Fo A (C:=C) (V:=V) (g:=g) hn hX hL (i:=i) n0 hj (g1.le n0)
    obtain ⟨r,b,r1,r2,r3⟩:=A.quo s d s2 hd
    simp only [O0,C1,e5,U1 (getI_lt iw),hi,U1 s1,U1 f5,U1 r1,U1 r2,true_implies,not_true_eq_false,false_implies,and_true]
    cases b with
    | false=>
     simp only [D2,false_implies,not_false_eq_true,true_implies,K0,E1,true_and]
     intro V' E' h; cases h
    | true=>
     obtain ⟨m,m1,m2⟩:=g1.2 j n0
     obtain ⟨d2,d3,d4⟩:=A.of r ⟨r3,r2⟩
     have g3':getI V (j:Int)=some v:=g3
     have UH:j < V.length:=(C2.1 g3).1
     have vK:j < E.length:=by rw [g1.1]; omega
     simp only [true_implies,not_true_eq_false,false_implies,and_true,U1 (Ue m1),U1 g3',s5,U1 d3,U1 (setI_lt UH),U1 (setI_lt vK),K0,T0,hw,w8]
     refine ⟨n0,iw,trivial,⟨by simp [g1.1],fun k hk=>?_⟩,⟨by simp [g2.1],fun k hk=>?_,fun k c' hk Hu=>?_⟩,v++[r],?_,by simp [g4],fun x hx=>?_,fun x hx=>?_⟩
     ·rw [B3]
      split
      ·exact ⟨_,rfl,m2.put d4⟩
      ·exact g1.2 k hk
     ·rw [B3]
      split
      ·exact ⟨_,rfl⟩
      ·exact g2.2.1 k hk
     ·rw [B3,A0]
      exact g2.2.2 k c' hk Hu
     ·rw [B3,I0 rfl,I0 UH]
     ·rcases I2.1 hx with hx | hx
      ·exact g5 x hx
      ·rw [Z2.1 hx]; exact r2
     ·rw [O6 n0] at hx
      exact g6 x hx
   ·have e5:¬ (q:Int) < (c.length:Int):=n0
    simp only [vcD,implies_true,D2,reduceCtorEq,e5]
    intro V' E' h
    cases h
    refine ⟨g1,g2.1,g2.2.1,fun k c' hk Hu=>?_⟩
    by_cases e:k=j
    ·subst e
     rw [c1] at Hu
     cases Hu
     exact ⟨v,g3,by simp; omega,g5,g6⟩
    ·exact g2.2.2 k c' n0 Hu
end
section
variable {Gd Gp Gs:DY→Prop} {n:Nat}
def Rk (n K:Nat) (L:L2):Prop:=L.length=n∧∀ i,i < n→∃ l,L[i]?=some l∧l.length≤K∧∀ x,x∈l→0≤x∧x < (i:Int)
theorem Rk.le {K K':Nat} {L:L2} (h:Rk n K L) (hK:K≤K'):Rk n K' L:=⟨h.1,fun i hi=>by
 obtain ⟨l,h1,h2,h3⟩:=h.2 i hi
 exact ⟨l,h1,n0,h3⟩⟩
theorem Rk.put {K i j:Nat} {L:L2} (h:Rk n K L) (hi:i < n) (hj:j < i) {l:LI} (hl:L[i]?=some l):Rk n (K+1) (L.set i (l++[(j:Int)])):=by
 refine ⟨by simp [h.1],fun k hk=>?_⟩
 have zK:i < L.length:=by rw [h.1]; omega
 rw [B3]
 by_cases e:i=k
 ·subst e
  obtain ⟨l',h1,h2,h3⟩:=h.2 i hi
  rw [hl] at h1
  cases h1
  rw [I0 rfl,I0 zK]
  refine ⟨_,rfl,by simp; omega,fun x hx=>?_⟩
  rcases I2.1 hx with hx | hx
  ·exact h3 x hx
  ·rw [Z2.1 hx]; omega
 ·rw [J0 e]
  obtain ⟨l',h1,h2,h3⟩:=h.2 k hk
  exact ⟨l',h1,n0,h3⟩
theorem GC {g C:L2} {X:MpL DY} (hn:n≤15) (hc:m_j9 g=some (C,0)) (hC:Pat n C):∃ L,m_kd (n:Int) g X=some (C,List.replicate n [],List.replicate n none,L)∧Rs n L:=by
 unfold m_kd
 rw [bindS hc,bindS (G4 [] n n0),bindS (G4 none n n0),bindS (G4 [] n n0)]
 have jI:=hC.len
 obtain ⟨L,l1,l2⟩:Ret (loop (m_kc (C,0)) (List.replicate n [],0)) (fun L=>Rk n (15*n) L):=by
  refine Q0 n (fun j (t:L2×Int)=>t.2=j∧Rk n (15*j) t.1) ⟨rfl,G0,fun i hi=>⟨[],by simp [hi],G0,fun x hx=>by simp at hx⟩⟩ ?_
  rintro j ⟨L,_⟩ hj ⟨rfl,hL⟩
  simp only at hL
  unfold m_kc
  by_cases SE:j < n
  ·have e5:(j:Int) < (C.length:Int):=n0
   have hw:wa .i64 (j:Int) 1=((j+1:Nat):Int):=wa1 n0
   obtain ⟨c,c1,c2,c3⟩:=hC.col j SE
   have c1':getI C (j:Int)=some ((j:Int)::c):=c1
   have Hv:c.length+1≤n:=asc_len (n:=n) (l:=(j:Int)::c) (z6.2 ⟨fun x hx=>(c3 x hx).1,c2⟩) fun x hx=>by
    rcases G3.1 hx with rfl | hx
    ·omega
    ·have:=c3 x hx; omega
   generalize hd:(j:Int)::c=d at*
   have DK:d.length=c.length+1:=by rw [← hd]; rfl
   have hdr:∀ x,x∈d→(j:Int)≤x∧x < n:=fun x hx=>by
    rw [← hd] at hx
    rcases G3.1 hx with rfl | hx
    ·omega
    ·have:=c3 x hx; omega
   simp only [O0,C1,e5,U1 c1',true_implies,not_true_eq_false,false_implies,and_true]
   refine Y4 (P:=fun L'=>Rk n (15*j+d.length) L') ?_ (fun L' NO=>by
    rw [K0,T0]
    exact ⟨SE,hw,NO.le n0⟩)
   refine Q0 d.length (fun q (t:L2×Int)=>t.2=q∧Rk n (15*j+q) t.1) ⟨rfl,hL⟩ ?_
   rintro q ⟨L,_⟩ hq ⟨rfl,hL⟩
   simp only at hL
   unfold m_kb
   by_cases iw:q < d.length
   ·have e6:(q:Int) < (d.length:Int):=n0
    have hw2:wa .i64 (q:Int) 1=((q+1:Nat):Int):=wa1 n0
    have hx:=hdr d[q] (Z1 iw)
    obtain ⟨i,hi⟩:=D3 (show 0≤d[q] by omega)
    have aE:i < n:=n0
    have zK:i < L.length:=by rw [hL.1]; omega
    obtain ⟨l,g1,g2,g3⟩:=hL.2 i aE
    have g1':getI L (i:Int)=some l:=g1
    simp only [O0,C1,e6,U1 (getI_lt iw),hi,U1 g1',true_implies,not_true_eq_false,false_implies,and_true]
    unfold m_ka
    refine ⟨fun hlt=>?_,fun hlt=>?_⟩
    ·simp only [s5,U1 (setI_lt zK),K0,T0,hw2,w8]
     exact ⟨n0,iw,trivial,hL.put aE n0 g1⟩
    ·simp only [K0,T0,hw2]
     exact ⟨iw,trivial,hL.le n0⟩
   ·have e6:¬ (q:Int) < (d.length:Int):=n0
    simp only [vcD,implies_true,D2,reduceCtorEq,e6]
    exact hL.le n0
  ·have e5:¬ (j:Int) < (C.length:Int):=n0
   simp only [vcD,implies_true,D2,reduceCtorEq,e5]
   exact hL.le n0
 rw [bindS l1]
 refine ⟨L,rfl,l2.1,fun i hi=>?_⟩
 obtain ⟨l,h1,h2,h3⟩:=l2.2 i hi
 exact ⟨l,h1,n0,h3⟩
theorem Z6:∀ C:L2,C.flatten.length=lens C
 | []=>rfl
 | c::C=>by rw [Hb,H2,Z6 C]; rfl
theorem Z7 {C:L2} {k:Nat} {c:LI} (h:C[k]?=some c):lens (C.take (k+1))=lens (C.take k)+c.length:=by rw [tks h,Lh]
theorem Ya {C:L2} {k:Nat}:lens (C.take k)≤lens C:=by
 have:lens C=lens (C.take k)+lens (C.drop k):=by
  have key:∀ A B:L2,lens (A++B)=lens A+lens B:=fun A B=>by
   induction A with
   | nil=>simp [lens]
   | cons a A ih=>simp only [Da,lens,ih]; omega
  rw [← key,B9]
 omega
theorem di {C:L2}:∀ {k:Nat} {c:LI},C[k]?=some c→∀ t,t < c.length→C.flatten[lens (C.take k)+t]?=c[t]?:=by
 induction C with
 | nil=>intro k c h; simp at h
 | cons d C ih=>
  intro k c h t ht
  cases k with
  | zero=>
   simp only [pj,w6] at h
   subst h
   rw [Hb,ua,show lens []+t=t by simp [lens],O6 ht]
  | succ k=>
   simp only [Sc] at h
   rw [Hb,List.take_succ_cons,show lens (d::C.take k)+t=d.length+(lens (C.take k)+t) by simp only [lens]; omega,F9 n0,show d.length+(lens (C.take k)+t) - d.length=lens (C.take k)+t by omega]
   exact ih h t ht
theorem VA {C:L2} {k:Nat} {c:LI} (h:C[k]?=some c):sli C.flatten (lens (C.take k):Int) (lens (C.take (k+1)):Int)=some c:=by
 have h1:=Z7 h
 have h2:=Ya (C:=C) (k:=k+1)
 unfold sli
 rw [I0 (by rw [Z6]; omega)]
 congr 1
 unfold subL
 rw [H1,H1]
 apply C6
 intro t
 rw [B6,K5]
 by_cases ht:t < c.length
 ·rw [B0,di h t ht]
 ·rw [A0,L5 n0]
def sts (C:L2) (n:Nat):LI:=(List.range (n+1)).map fun k=>(lens (C.take k):Int)
theorem D8 {C:L2} {k:Nat} (h:k≤n):getI (sts C n) (k:Int)=some (lens (C.take k):Int):=by
 rw [Y9]; simp [sts,show k < n+1 by omega]
theorem lh {C:L2} {k:Nat} (h:k < n) (hn:n≤1000):getI (sts C n) (wa .i64 (k:Int) 1)=some (lens (C.take (k+1)):Int):=by
 rw [wa1 n0]; exact D8 n0
theorem po {C:L2}:(sts C n).length=n+1:=by simp [sts]
theorem nB {C V L:L2} {E:MpL DY} {o:LI} (hn:n≤200) (hC:C.length=n) (hV:V.length=n) (ho:o.length≤1000) (jI:lens C≤100000) (dI:lens V≤100000):m_mc C V E L o=some (o,sts C n,C.flatten,V.flatten):=by
 have Hv:m_ma o=some o:=by
  unfold m_ma
  rw [app_small (by simp; omega)]
  rfl
 unfold m_mc
 rw [bindS Hv]
 have:loop (m_mb C V) ([0],[],[],0)=some (sts C n,C.flatten,V.flatten):=by
  refine Ret.eq ?_
  refine Q0 n (fun k (t:LI×LI×LI×Int)=>t.2.2.2=k∧t.1=(List.range (k+1)).map (fun k=>(lens (C.take k):Int))∧t.2.1=(C.take k).flatten∧t.2.2.1=(V.take k).flatten) ⟨rfl,rfl,rfl,rfl⟩ ?_
  rintro k ⟨s,i,v,_⟩ hk ⟨rfl,h1,h2,h3⟩
  simp only at h1 h2 h3
  subst h1 h2 h3
  unfold m_mb
  by_cases ou:k < n
  ·have e5:(k:Int) < (C.length:Int):=n0
   have hw:wa .i64 (k:Int) 1=((k+1:Nat):Int):=wa1 n0
   have uJ:k < C.length:=n0
   have oK:k < V.length:=n0
   have b1:((C.take k).flatten++C[k]).length≤100000:=by
    have:=Ya (C:=C) (k:=k+1)
    have e:(C.take k).flatten++C[k]=(C.take (k+1)).flatten:=by rw [tks (J2 uJ),j6]; simp
    rw [e,Z6]; omega
   have b2:((V.take k).flatten++V[k]).length≤100000:=by
    have:=Ya (C:=V) (k:=k+1)
    have e:(V.take k).flatten++V[k]=(V.take (k+1)).flatten:=by rw [tks (J2 oK),j6]; simp
    rw [e,Z6]; omega
   rw [H2] at b1 b2
   simp only [O0,C1,e5,U1 (getI_lt uJ),U1 (getI_lt oK),s5,K0,T0,hw,true_implies,not_true_eq_false,false_implies,and_true,w8]
   refine ⟨n0,n0,by simp; omega,ou,trivial,?_,?_,?_⟩
   ·rw [Oc (n:=k+1),o7,List.map_singleton,Z7 (J2 uJ),H2,Z6]
   ·rw [tks (J2 uJ),j6]; simp
   ·rw [tks (J2 oK),j6]; simp
  ·have e5:¬ (k:Int) < (C.length:Int):=n0
   have:k=n:=n0
   subst this
   simp only [vcD,implies_true,D2,reduceCtorEq,e5]
   rw [P4 n0,P4 n0]
   rfl
 rw [bindS this]
theorem Uz (A:Ar Gd Gp Gs) {m:Int} {s i v o:LI} {g C:L2} {X:MpL DY} (hn:n≤15) (hN:m_jt m (n:Int) s i v o=some (g,X,0)) (hc:m_j9 g=some (C,0)) (hC:Pat n C) (hX:Mx Gd n X) (ho:o.length≤1000):
  (∃ x e,m_me m (n:Int) s i v o=some ([],[],[],[],x,e)∧e≠0)∨∃ V,m_me m (n:Int) s i v o=some (o,sts C n,C.flatten,V.flatten,(n:Int),0)∧Va n n C V:=by
 obtain ⟨L,l1,l2⟩:=GC (X:=X) hn hc hC
 unfold m_me
 rw [bindS hN,I0 rfl]
 simp only
 rw [bindS l1]
 simp only
 suffices key:Ret (loop (m_md (n:Int) (C,List.replicate n [],List.replicate n none,L) (g,X,0)) (List.replicate n [],List.replicate n none,0)) (fun r=>(∃ V E,r=.inl (V,E)∧Va n n C V)∨∃ x e,r=.inr (x,e)∧e≠0) by
  obtain ⟨r,r1,⟨V,E,rfl,r2⟩ | ⟨x,e,rfl,r2⟩⟩:=key
  ·right
   have jI:lens C≤100000:=by
    have h1:=jc (n:=15) (ls:=C) (fun l hl=>by
     obtain ⟨k,hk⟩:=D9.1 hl
     have ou:k < n:=by have:=(C2.1 hk).1; have:=hC.len; omega
     obtain ⟨c,c1,c2,c3⟩:=hC.col k ou
     rw [hk] at c1
     cases c1
     have:=asc_len (n:=n) (l:=(k:Int)::c) (z6.2 ⟨fun x hx=>(c3 x hx).1,c2⟩) fun x hx=>by
      rcases G3.1 hx with rfl | hx
      ·omega
      ·have:=c3 x hx; omega
     omega)
    have:=hC.len
    omega
   have dI:lens V=lens C:=by
    have key:∀ k,k≤n→lens (V.take k)=lens (C.take k):=by
     intro k
     induction k with
     | zero=>intro _; rfl
     | succ k ih=>
      intro hk
      obtain ⟨c,c1,_⟩:=hC.col k n0
      obtain ⟨w,w1,w2⟩:=r2.2.2 k _ n0 c1
      rw [Z7 c1,Z7 w1,ih n0,w2.1]
    have:=key n (O4 _)
    rwa [P4 (by have:=r2.1; omega),P4 (by have:=hC.len; omega)] at this
   refine ⟨V,?_,r2⟩
   rw [bindS r1]
   simp only
   rw [bindS (nB (n:=n) n0 hC.len r2.1 ho jI n0)]
  ·left
   rw [bindS r1]
   exact ⟨_,_,rfl,r2⟩
 refine Q0 n (fun j (t:L2×MpL DY×Int)=>t.2.2=j∧Va n j C t.1∧Ex Gd n j t.2.1) ⟨rfl,⟨G0,fun k hk=>⟨[],by simp [hk]⟩,fun k c hk=>n0⟩,G0,fun k hk=>n0⟩ ?_
 rintro j ⟨V,E,_⟩ hj ⟨rfl,hV,hE⟩
 simp only at hV hE
 unfold m_md
 by_cases SE:j < n
 ·have e5:(j:Int) < (n:Int):=n0
  have hw:wa .i64 (j:Int) 1=((j+1:Nat):Int):=wa1 n0
  obtain ⟨V',E',e,h1,h2⟩:=UB A (g:=g) hn hC hX l2 SE hE hV
  simp only [O0,C1,e5,U1 h1,true_implies,not_true_eq_false,false_implies,and_true,K0,T0,E1,hw]
  refine ⟨fun h0=>⟨SE,trivial,(h2 h0).2,(h2 h0).1⟩,fun h0=>⟨fun h3=>.inr ⟨_,_,rfl,h0⟩,fun h3=>.inr ⟨_,_,rfl,h0⟩⟩⟩
 ·have e5:¬ (j:Int) < (n:Int):=n0
  have:j=n:=n0
  subst this
  simp only [vcD,implies_true,D2,reduceCtorEq,e5]
  exact .inl ⟨V,E,rfl,hV⟩
theorem fA {o:LI} (hn:n≤1000) (ho:Pm o n):m_mn o=some true:=by
 have QD:=ho.len
 unfold m_mn
 rw [QD,bindS (G4 false n n0)]
 suffices key:Ret (loop (m_mm o) (List.replicate n false,0)) (fun r=>r=.inl ()) by
  obtain ⟨r,r1,rfl⟩:=key
  rw [bindS r1]
 refine Q0 n (fun k (t:BL×Int)=>t.2=k∧t.1.length=n∧∀ u:Nat,t.1[u]?=some true→(u:Int)∈o.take k) ⟨rfl,G0,fun u hu=>by
  rw [E9] at hu
  split at hu<;>simp at hu⟩ ?_
 rintro k ⟨T,_⟩ hk ⟨rfl,h1,h2⟩
 simp only at h1 h2
 unfold m_mm
 by_cases ou:k < n
 ·have e5:(k:Int) < (o.length:Int):=n0
  have hw:wa .i64 (k:Int) 1=((k+1:Nat):Int):=wa1 n0
  have IF:k < o.length:=n0
  have hx:=ho.rng o[k] (Z1 IF)
  obtain ⟨u,hu⟩:=D3 hx.1
  have vG:u < T.length:=n0
  have hb:T[u]=false:=by
   cases e:T[u] with
   | false=>rfl
   | true=>
    have:=h2 u (by simp [vG,e])
    rw [← hu] at this
    exact absurd this (bc ho.nd IF)
  have hc:((decide ((u:Int) < 0)) || (decide ((o.length:Int)≤(u:Int))))=false:=by simp; omega
  simp only [O0,C1,e5,U1 (getI_lt IF),hu,hc,D2,U1 (getI_lt vG),hb,U1 (setI_lt vG),K0,T0,hw,true_implies,not_true_eq_false,not_false_eq_true,false_implies,and_true,true_and]
  refine ⟨ou,by simp [h1],fun w gE=>?_⟩
  rw [B3] at gE
  rw [mts (J2 IF),hu]
  by_cases e:u=w
  ·exact .inr n0
  ·rw [J0 e] at gE
   exact .inl (h2 w gE)
 ·have e5:¬ (k:Int) < (o.length:Int):=n0
  simp only [vcD,implies_true,D2,reduceCtorEq,e5]
theorem vw {C:L2} {o v:LI} (hn:n≤200) (ho:o.length=n) (hC:Pat n C):m_mq o (sts C n) C.flatten v=some true:=by
 unfold m_mq
 have g0:getI (sts C n) 0=some 0:=D8 (k:=0) n0
 have gn:=D8 (C:=C) (n:=n) (k:=n) (O4 _)
 rw [P4 (by have:=hC.len; omega)] at gn
 rw [bindS g0,I0 rfl,ho,bindS gn,obs,Z6]
 simp only [decide_true,U4,D2,if_false]
 suffices key:Ret (loop (m_mp o (sts C n) C.flatten) 0) (fun r=>r=.inl ()) by
  obtain ⟨r,r1,rfl⟩:=key
  rw [bindS r1]
 refine Q0 n (fun k (t:Int)=>t=k) rfl ?_
 rintro k _ hk rfl
 unfold m_mp
 by_cases ou:k < n
 ·obtain ⟨c,c1,c2,c3⟩:=hC.col k ou
  have e5:(k:Int) < (o.length:Int):=n0
  have h1:=Z7 c1
  have h2:=Ya (C:=C) (k:=k+1)
  have e6:¬ ((lens (C.take (k+1)):Nat):Int) < ((lens (C.take k):Nat):Int):=n0
  have e7:decide (((C.flatten.length:Nat):Int) < ((lens (C.take (k+1)):Nat):Int))=false:=by rw [Z6]; simp; omega
  have e8:¬ ((((k:Int)::c).length:Nat):Int)=0:=by simp; omega
  have g1:getI ((k:Int)::c) 0=some (k:Int):=rfl
  have Hv:c.length+1≤n:=asc_len (n:=n) (l:=(k:Int)::c) (z6.2 ⟨fun x hx=>(c3 x hx).1,c2⟩) fun x hx=>by
   rcases G3.1 hx with rfl | hx
   ·omega
   ·have:=c3 x hx; omega
  have IE:((k:Int)::c).Pairwise (· < ·):=z6.2 ⟨fun x hx=>(c3 x hx).1,c2⟩
  have hr:∀ x,x∈(k:Int)::c→x < (n:Int):=fun x hx=>by
   rcases G3.1 hx with rfl | hx
   ·omega
   ·have:=c3 x hx; omega
  have WI:∃ y,getI ((k:Int)::c) (ws .i64 ((((k:Int)::c).length:Nat):Int) 1)=some y∧y < n:=by
   rw [H3 n0 (by simp; omega),show ((((k:Int)::c).length:Nat):Int) - 1=((c.length:Nat):Int) by rw [B4]; omega]
   refine ⟨_,getI_lt (show c.length < ((k:Int)::c).length by simp),hr _ (Z1 _)⟩
  obtain ⟨y,y1,y2⟩:=WI
  have e9:decide (((o.length:Nat):Int)≤y)=false:=by simp; omega
  rw [I0 e5]
  simp only [O0,U1 (D8 (C:=C) (n:=n) (k:=k) n0),U1 (lh (C:=C) ou n0),J0 e6,e7,D2,if_false,K0,U1 (VA c1),J0 e8,U1 g1,decide_true,U4,U1 y1,e9]
  suffices key:Ret (loop (m_mo ((k:Int)::c)) 1) (fun r=>r=.inl ()) by
   refine Y4 key ?_
   rintro _ rfl
   simp only [K0,T0,wa1 (show k < 4611686018427387904 by omega)]
   exact ⟨ou,trivial⟩
  refine Q0 c.length (fun q (t:Int)=>t=((q+1:Nat):Int)) rfl ?_
  rintro q _ hq rfl
  unfold m_mo
  generalize hd:(k:Int)::c=d at*
  have DK:d.length=c.length+1:=by rw [← hd]; rfl
  by_cases iw:q+1 < d.length
  ·have f5:((q+1:Nat):Int) < (d.length:Int):=n0
   have f6:ws .i64 ((q+1:Nat):Int) 1=(q:Int):=by rw [H3 n0 n0]; omega
   have f7:=J8.1 IE q (q+1) n0 iw n0
   rw [I0 f5]
   simp only [O0,f6,U1 (getI_lt (show q < d.length by omega)),U1 (getI_lt iw)]
   rw [A0,K0,T0,wa1 n0]
   exact ⟨n0,rfl⟩
  ·have f5:¬ ((q+1:Nat):Int) < (d.length:Int):=n0
   rw [J0 f5,K0,E1]
 ·have e5:¬ (k:Int) < (o.length:Int):=n0
  rw [J0 e5,K0,E1]
theorem oC {C V:L2} {o:LI} (hn:n≤200) (ho:Pm o n) (hC:Pat n C) (hV:Va n n C V) (hl:lens V=lens C) (hb:lens C≤100000):m_mt o (sts C n) C.flatten V.flatten=some 0:=by
 have QD:=ho.len
 have hlt:∀ k,k≤n→lens (V.take k)=lens (C.take k):=by
  intro k
  induction k with
  | zero=>intro _; rfl
  | succ k ih=>
   intro hk
   obtain ⟨c,c1,_⟩:=hC.col k n0
   obtain ⟨w,w1,w2⟩:=hV.2.2 k _ n0 c1
   rw [Z7 c1,Z7 w1,ih n0,w2.1]
 unfold m_mt
 rw [A0,bindS (fA n0 ho),I0 rfl,QD,J0 (by
  rw [po,wa1 n0,Z6,Z6,hl]; simp),bindS (vw hn QD hC),I0 rfl]
 have k1:Ret (loop (m_ms V.flatten) 0) (fun r=>r=.inl ()):=by
  refine Q0 (lens V) (fun k (t:Int)=>t=k) rfl ?_ n0
  rintro k _ hk rfl
  unfold m_ms
  have DG:=Z6 V
  by_cases ou:k < V.flatten.length
  ·have hf:m_dh V.flatten[k]=some true:=by
    have hm:=Z1 ou
    rw [nj] at hm
    obtain ⟨w,w1,w2⟩:=hm
    obtain ⟨q,hq⟩:=D9.1 w1
    have iw:q < n:=by have:=(C2.1 hq).1; have:=hV.1; omega
    obtain ⟨c,c1,_⟩:=hC.col q iw
    obtain ⟨w',w3,w4⟩:=hV.2.2 q _ iw c1
    rw [hq] at w3
    cases w3
    exact w4.2.1 _ w2
   rw [B0]
   simp only [O0,U1 (getI_lt ou),U1 hf,if_true,K0,T0,wa1 (show k < 4611686018427387904 by omega)]
   exact ⟨n0,trivial⟩
  ·rw [A0,K0,E1]
 have k2:Ret (loop (m_mr o (sts C n) V.flatten) 0) (fun r=>r=.inl ()):=by
  refine Q0 n (fun k (t:Int)=>t=k) rfl ?_
  rintro k _ hk rfl
  unfold m_mr
  by_cases ou:k < n
  ·obtain ⟨c,c1,_⟩:=hC.col k ou
   obtain ⟨w,w1,w2⟩:=hV.2.2 k _ ou c1
   have ZG:0 < w.length:=by rw [w2.1]; simp
   have g2:getI V.flatten (lens (C.take k):Int)=some w[0]:=by
    have:=di w1 0 ZG
    rw [hlt k n0,l7] at this
    rw [Y9,this]; simp [ZG]
   obtain ⟨d,sg,d1,d2,d3⟩:=w2.2.2 w[0] (by simp [ZG])
   rw [B0]
   simp only [O0,U1 (D8 (C:=C) (n:=n) (k:=k) n0),U1 g2,U1 d1,U1 d2]
   rw [A0,K0,T0,wa1 n0]
   exact ⟨ou,rfl⟩
  ·rw [A0,K0,E1]
 obtain ⟨r,r1,rfl⟩:=k1
 obtain ⟨r,r2,rfl⟩:=k2
 rw [bindS r1]
 simp only
 rw [bindS r2]
end
open Km Lm
def Lb (b:Nat) (u:Int):Prop:=-(2 ^ b) < u∧u < 2 ^ b
theorem Lb.mono {b b':Nat} {u:Int} (h:Lb b u) (hb:b≤b'):Lb b' u:=by
 have:=H6 hb
 exact ⟨by have:=h.1; omega,by have:=h.2; omega⟩
theorem Lb.neg {b:Nat} {u:Int} (h:Lb b u):Lb b (-u):=⟨by have:=h.2; omega,by have:=h.1; omega⟩
theorem Lb.len {b m:Nat} {u:Int} (h:Lb b u) (hm:b≤32*m) {s:Bool} {l:LI} (hB:Bg u s l):l.length≤m:=by
 have h1:=H6 hm
 rw [← Z8] at h1
 exact hB.len (by have:=h.1; omega) (by have:=h.2; omega)
theorem Lb.mul {a b:Nat} {u v:Int} (hu:Lb a u) (hv:Lb b v):Lb (a+b) (u*v):=by
 have hp:(0:Int) < 2 ^ a:=C3 n0
 have hq:(0:Int) < 2 ^ b:=C3 n0
 have key:(u*v).natAbs < ((2:Int) ^ (a+b)).natAbs:=by
  rw [jd,S4,jd]
  have h1:u.natAbs < ((2:Int) ^ a).natAbs:=by have:=hu.1; have:=hu.2; omega
  have h2:v.natAbs < ((2:Int) ^ b).natAbs:=by have:=hv.1; have:=hv.2; omega
  exact Nat.mul_lt_mul'' h1 h2
 have hr:(0:Int) < 2 ^ (a+b):=C3 n0
 exact ⟨n0,n0⟩
def Dn (b e:Nat) (d:DY):Prop:=d.1=false∧∃ u:Int,Bg u d.2.1 d.2.2.1∧Lb b u∧-(e:Int)≤d.2.2.2∧d.2.2.2≤e
theorem Dn.mono {b b' e e':Nat} {d:DY} (h:Dn b e d) (hb:b≤b') (he:e≤e'):Dn b' e' d:=by
 obtain ⟨h1,u,h2,h3,h4,h5⟩:=h
 exact ⟨h1,u,h2,h3.mono hb,n0,n0⟩
theorem Dn.zero (b e:Nat):Dn b e (false,false,[],0):=⟨rfl,0,w9,⟨by have:(0:Int) < 2 ^ b:=C3 n0; omega,C3 n0⟩,by simp only; omega,by simp only; omega⟩
theorem gz (x:Int):m_jk false false [] x=some (false,false,[],0,true):=by
 have h1:m_ix false []=some (false,[]):=H0
 have h2:m_iy false []=some 0:=H0
 unfold m_jk
 rw [J0 G0,h1,obs,h2,obs,I0 rfl]
theorem De {b:Nat} {s:Bool} {l:LI} {u x:Int} (hB:Bg u s l) (hu:Lb b u) (hb:b≤6400) (hx: -20000≤x∧x≤20000):
  ∃ (r:DY) (u':Int) (z:Nat),m_jk false s l x=some (r.1,r.2.1,r.2.2.1,r.2.2.2,true)∧r.1=false∧Bg u' r.2.1 r.2.2.1∧u=2 ^ z*u'∧z≤b∧Lb b u'∧(u=0∧r.2.2.2=0∨u≠0∧r.2.2.2=x+z):=by
 by_cases h0:u=0
 ·subst h0
  obtain ⟨rfl,rfl⟩:=hB.uniq w9
  exact ⟨(false,false,[],0),0,0,gz x,rfl,w9,rfl,n0,hu,.inl ⟨rfl,rfl⟩⟩
 ·obtain ⟨r,r1,⟨r2,z,v,r3,r4,r5⟩,r6⟩:=Ep (s:=s) hB.1 (by have:=hu.len (m:=200) n0 hB; omega) (by rw [hB.sv]; exact h0) hx
  rw [hB.sv] at r3
  have hp:(0:Int) < 2 ^ z:=C3 n0
  have hv:Lb b (2*v+1):=by
   have key:(2*v+1).natAbs≤u.natAbs:=by
    rw [r3,jd]
    exact dD _ n0
   have:=hu.1
   have:=hu.2
   exact ⟨n0,n0⟩
  have hz:z≤b:=by
   refine O2 fun hc=>?_
   have h1:=H6 (N:=b) (M:=z) n0
   have h2:((2:Int) ^ z).natAbs≤u.natAbs:=by
    rw [r3,jd]
    exact cD _ n0
   have:=hu.1
   have:=hu.2
   omega
  obtain ⟨a1,a2,a3,a4,a5⟩:=r
  simp only at r2 r4 r5 r6
  exact ⟨(a1,a2,a3,a4),2*v+1,z,by rw [r1,r6],r2,r4,r3,hz,hv,.inr ⟨h0,r5⟩⟩
theorem S9 {b e:Nat} {d:DY} (h:Dn b e d) (hb:b≤6400) (he:e≤20000):∃ r,m_jk d.1 d.2.1 d.2.2.1 d.2.2.2=some (r.1,r.2.1,r.2.2.1,r.2.2.2,true)∧Dn b (e+b) r:=by
 obtain ⟨h1,u,h2,h3,h4,h5⟩:=h
 obtain ⟨r,u',z,r1,r2,r3,r4,r5,r6,r7⟩:=De h2 h3 hb (x:=d.2.2.2) n0
 rw [h1]
 refine ⟨r,r1,r2,u',r3,r6,?_,?_⟩<;>rcases r7 with ⟨_,h⟩ | ⟨_,h⟩<;>omega
theorem Tp {b e:Nat} {s:Bool} {l:LI} {u x:Int} (hB:Bg u s l) (hu:Lb b u) (hb:b≤6400) (he:e≤20000) (h1: -(e:Int)≤x) (h2:x≤e):∃ r,m_jl s l x=some r∧Dn b (e+b) r:=by
 obtain ⟨r,r1,r2⟩:=S9 (d:=(false,s,l,x)) ⟨rfl,u,hB,hu,h1,h2⟩ hb he
 refine ⟨r,?_,r2⟩
 unfold m_jl
 simp only at r1
 rw [r1,obs]
theorem tz {b e:Nat} {p q:DY} (hp:Dn b e p) (hq:Dn b e q) (hb:b≤1000) (he:e≤5000):∃ r,m_kk p.1 p.2.1 p.2.2.1 p.2.2.2 q.1 q.2.1 q.2.2.1 q.2.2.2=some r∧Dn (b+b) (2*(e+b)+(b+b)) r:=by
 obtain ⟨p',p1,p2,u,p3,p4,p5,p6⟩:=S9 hp n0 n0
 obtain ⟨q',q1,q2,v,q3,q4,q5,q6⟩:=S9 hq n0 n0
 obtain ⟨m,m1,m2⟩:=Jp (s:=p'.2.1) (t:=q'.2.1) p3.1 q3.1 (by have:=p4.len (m:=400) n0 p3; omega) (by have:=q4.len (m:=400) n0 q3; omega)
 rw [p3.sv,q3.sv] at m2
 obtain ⟨r,r1,r2⟩:=Tp (e:=2*(e+b)) m2 (p4.mul q4) n0 n0 (x:=p'.2.2.2+q'.2.2.2) n0 n0
 refine ⟨r,?_,r2⟩
 unfold m_kk m_kf
 rw [p1,obs,q1,obs]
 simp only
 rw [I0 trivial,obs,obs]
 simp only
 rw [I0 trivial,m1,obs,Q2 n0 n0,r1,obs]
theorem qz {b e:Nat} {d:DY} (h:Dn b e d) (hb:b≤6400) (he:e≤20000):∃ r,m_km d.1 d.2.1 d.2.2.1 d.2.2.2=some r∧Dn b (e+b) r:=by
 obtain ⟨p,p1,p2,u,p3,p4,p5,p6⟩:=S9 h hb he
 obtain ⟨m,m1,m2⟩:=Ee (s:=p.2.1) p3.1 (by have:=p4.len (m:=200) n0 p3; omega)
 rw [p3.sv] at m2
 refine ⟨(p.1,m.1,m.2,p.2.2.2),?_,p2,-u,m2,p4.neg,p5,p6⟩
 unfold m_km
 rw [p1,obs]
 simp only
 rw [I0 trivial,m1,obs]
 rfl
theorem Ua {b e:Nat} {d:DY} (h:Dn b e d) (hb:b≤6400) (he:e≤20000):∃ u,Bg u d.2.1 d.2.2.1∧m_k2 d.1 d.2.1 d.2.2.1 d.2.2.2=some (if u < 0 then -1 else if 0 < u then 1 else 0):=by
 obtain ⟨h1,u,h2,h3,h4,h5⟩:=h
 obtain ⟨r,u',z,r1,r2,r3,r4,r5,r6,r7⟩:=De h2 h3 hb (x:=d.2.2.2) n0
 refine ⟨u,h2,?_⟩
 unfold m_k2
 rw [h1,r1,obs]
 have:=Y8 (s:=r.2.1) r3.1 (by have:=r6.len (m:=200) n0 r3; omega)
 rw [r3.sv] at this
 rw [this,obs]
 have hp:(0:Int) < 2 ^ z:=C3 n0
 congr 1
 by_cases hn:u' < 0
 ·have:u < 0:=by rw [r4]; exact Nt hp hn
  rw [I0 hn,I0 this]
 ·by_cases hq:0 < u'
  ·have:0 < u:=by rw [r4]; exact pd hp hq
   rw [J0 hn,I0 hq,A0,I0 this]
  ·have h0:u'=0:=n0
   have:u=0:=by rw [r4,h0,H9]
   rw [this,h0]
theorem Za {b N:Nat} {s:Bool} {l:LI} {u:Int} (hB:Bg u s l) (hu:Lb b u) (hb:b≤28800) (hN:N≤32000):∃ r,m_kn s l (N:Int)=some r∧Bg (u*2 ^ N) r.1 r.2:=by
 obtain ⟨r,r1,r2,r3⟩:=vo (s:=s) hB.1 (by have:=hu.len (m:=900) n0 hB; omega) hN
 rw [hB.sv] at r2
 refine ⟨(r.1,r.2.1),?_,r2⟩
 unfold m_kn
 rw [r1,obs]
theorem Lb.shift {b:Nat} {u:Int} (h:Lb b u) (N:Nat):Lb (b+N) (u*2 ^ N):=by
 have hp:(0:Int) < 2 ^ N:=C3 n0
 have h1:=Fa h.1 hp
 have h2:=Fa h.2 hp
 rw [← S4] at h2
 rw [Aj,← S4] at h1
 exact ⟨h1,h2⟩
theorem qw {l:List DY} (hl:l.length≤300) (h:∀ d,d∈l→Dn 106 2600 d):∃ s,m_ky l=some s∧Dn 5530 8300 s:=by
 obtain ⟨o,h1,L,x,rfl,h2,h3,h4,h5⟩:Ret (loop (m_kx l) ([],0,0)) (fun o=>∃ L x,o=.inl (L,x)∧L.length≤300∧-2706≤x∧x≤0∧∀ d,d∈L→Dn 106 2706 d∧x≤d.2.2.2):=by
  refine Q0 l.length (fun k (t:List DY×Int×Int)=>t.2.2=k∧t.1.length=k∧-2706≤t.2.1∧t.2.1≤0∧∀ d,d∈t.1→Dn 106 2706 d∧t.2.1≤d.2.2.2) ⟨rfl,rfl,by simp only; omega,by simp only; omega,fun d hd=>by simp at hd⟩ ?_ n0
  rintro k ⟨L,x,_⟩ hk ⟨rfl,h1,h2,h3,h4⟩
  simp only at h1 h2 h3 h4
  unfold m_kx
  by_cases ou:k < l.length
  ·have e5:(k:Int) < (l.length:Int):=n0
   have hw:wa .i64 (k:Int) 1=((k+1:Nat):Int):=wa1 n0
   obtain ⟨r,r1,r2⟩:=S9 (h l[k] (Z1 ou)) n0 n0
   have r3:imin x r.2.2.2≤x∧imin x r.2.2.2≤r.2.2.2∧-2706≤imin x r.2.2.2:=by
    obtain ⟨_,u,_,_,r5,r6⟩:=r2
    unfold imin; split<;>omega
   simp only [O0,C1,e5,U1 (getI_lt ou),U1 r1,s5,K0,T0,hw,true_implies,not_true_eq_false,false_implies,and_true,w8]
   refine ⟨n0,ou,trivial,by simp [h1],r3.2.2,n0,fun d hd=>?_⟩
   rcases I2.1 hd with hd | hd
   ·have:=h4 d hd
    exact ⟨this.1,n0⟩
   ·rw [Z2.1 hd]
    exact ⟨r2,r3.2.1⟩
  ·have e5:¬ (k:Int) < (l.length:Int):=n0
   simp only [vcD,implies_true,D2,reduceCtorEq,e5]
   exact ⟨L,x,rfl,n0,h2,h3,h4⟩
 obtain ⟨⟨a,m⟩,g1,u,g2,g3⟩:Ret (loop (m_kw L x) (false,[],0)) (fun o=>∃ u,Bg u o.1 o.2∧Lb 5530 u):=by
  have hc:(300:Int)*2 ^ 5518 < 2 ^ 5530:=by
   have e:(2:Int) ^ 5530=2 ^ 12*2 ^ 5518:=by rw [← S4]
   have hp:(0:Int) < 2 ^ 5518:=C3 n0
   rw [e,show (2:Int) ^ 12=4096 from rfl]
   generalize (2:Int) ^ 5518=P at*
   omega
  have hp:(0:Int) < 2 ^ 5518:=C3 n0
  generalize hP:(2:Int) ^ 5518=P at*
  have UD:∀ k:Nat,k≤300→∀ u:Int,-((k:Int)*P)≤u→u≤(k:Int)*P→Lb 5530 u:=fun k hk u h1 h2=>by
   have h3:(k:Int)*P≤300*P:=V3 n0 n0
   exact ⟨n0,n0⟩
  refine Q0 L.length (fun k (t:Bool×LI×Int)=>t.2.2=k∧∃ u,Bg u t.1 t.2.1∧-((k:Int)*P)≤u∧u≤(k:Int)*P) ⟨rfl,0,w9,G0,G0⟩ ?_ n0
  rintro k ⟨a,m,_⟩ hk ⟨rfl,u,g1,g2,g3⟩
  simp only at g1
  unfold m_kw
  by_cases ou:k < L.length
  ·have e5:(k:Int) < (L.length:Int):=n0
   have hw:wa .i64 (k:Int) 1=((k+1:Nat):Int):=wa1 n0
   obtain ⟨⟨_,v,v1,v2,v3,v4⟩,v5⟩:=h5 L[k] (Z1 ou)
   obtain ⟨N,hN⟩:=D3 (show 0≤L[k].2.2.2 - x by omega)
   have hw2:ws .i64 L[k].2.2.2 x=(N:Int):=by rw [H3 n0 n0,hN]
   have FJ:N≤5412:=n0
   obtain ⟨r,r1,r2⟩:=Za v1 v2 n0 (N:=N) n0
   have r3:Lb 5518 (v*2 ^ N):=(v2.shift N).mono n0
   have g4:Lb 5530 u:=UD k n0 u g2 g3
   obtain ⟨q,q1,q2⟩:=Pi (s:=a) (t:=r.1) g1.1 r2.1 (by have:=g4.len (m:=200) n0 g1; omega) (by have:=r3.len (m:=200) n0 r2; omega)
   rw [g1.sv,r2.sv] at q2
   simp only [O0,C1,e5,U1 (getI_lt ou),hw2,U1 r1,U1 q1,K0,T0,hw,true_implies,not_true_eq_false,false_implies,and_true]
   unfold Lb at r3
   rw [hP] at r3
   have e9:((k+1:Nat):Int)*P=(k:Int)*P+P:=by rw [Int.natCast_add,T8]; omega
   exact ⟨n0,trivial,_,q2,n0,n0⟩
  ·have e5:¬ (k:Int) < (L.length:Int):=n0
   simp only [vcD,implies_true,D2,reduceCtorEq,e5]
   exact ⟨u,g1,UD k n0 u g2 g3⟩
 obtain ⟨r,r1,r2⟩:=Tp (e:=2706) g2 g3 n0 n0 (x:=x) n0 n0
 refine ⟨r,?_,r2.mono n0 n0⟩
 unfold m_ky
 rw [h1,obs]
 simp only
 rw [g1,obs]
 simp only
 rw [r1,obs]
theorem Bg.lvn {u:Int} {l:LI} (h:Bg u false l):lv l=u∧0≤u:=by
 have h1:=h.sv
 have h2:=S2 h.1
 unfold sv at h1
 rw [J0 G0] at h1
 exact ⟨h1,n0⟩
theorem Ye {s e m:Nat} (hs:s < 2) (he:e < 2048) (hm:m < 4503599627370496):m_dh (Fl s e m)=some (!(decide (e=2047))):=by
 unfold m_dh m_dg
 rw [o9 hs he hm,obs,U6 n0]
 congr 2
 rw [decide_eq_decide]
 omega
theorem aA {s e m:Nat} (hs:s < 2) (he:e < 2048) (hm:m < 4503599627370496):∃ k,m_l3 (Fl s e m)=some k∧(k=0↔e=0∧m=0):=by
 unfold m_l3 m_dg
 rw [o9 hs he hm,We hs he hm,obs,U6 n0]
 simp only
 by_cases h1:e=2047
 ·by_cases h2:m=0
  ·rw [J0 (by simp [h2]),B0]
   exact ⟨_,rfl,n0⟩
  ·rw [I0 (by simp; omega)]
   exact ⟨_,rfl,n0⟩
 ·rw [J0 (by simp; omega),A0]
  by_cases h2:e=0∧m=0
  ·rw [I0 (by simp; omega)]
   exact ⟨_,rfl,by simp [h2]⟩
  ·rw [J0 (by simp; omega)]
   exact ⟨_,rfl,n0⟩
theorem Bp {s e m:Nat} (hs:s < 2) (he:e < 2048) (hm:m < 4503599627370496) {n:Nat} (hn:n < 9007199254740992) {x:Int} (hx: -1074≤x∧x≤971):∃ d u,m_jn (Fl s e m) x (n:Int)=some d∧Dn 53 1130 d∧Bg u d.2.1 d.2.2.1∧(s=0→0 < n→0 < u):=by
 have p2:pw 2=18446744073709551616:=rfl
 have YM:(2:Int) ^ 53=9007199254740992:=rfl
 obtain ⟨a,a1,a2⟩:=yq (n:=(n:Int)) n0 n0
 have key:∀ (v:Int) (q:Bool×LI),Bg v q.1 q.2→Lb 53 v→(s=0→0 < n→0 < v)→∃ d u,m_jm x q.1 q.2=some d∧Dn 53 1130 d∧Bg u d.2.1 d.2.2.1∧(s=0→0 < n→0 < u):=by
  intro v q hq hv hp
  obtain ⟨r,u',z,r1,r2,r3,r4,r5,r6,r7⟩:=De hq hv n0 (x:=x) n0
  refine ⟨r,u',?_,⟨r2,u',r3,r6,?_,?_⟩,r3,fun h1 h2=>?_⟩
  ·unfold m_jm m_jl
   rw [r1,obs,obs]
  ·rcases r7 with ⟨_,h⟩ | ⟨_,h⟩<;>omega
  ·rcases r7 with ⟨_,h⟩ | ⟨_,h⟩<;>omega
  ·have h3:=hp h1 h2
   rw [r4] at h3
   refine O2 fun hc=>?_
   have:2 ^ z*u'≤0:=pD (S6 (C3 n0)) n0
   omega
 unfold m_jn
 rw [U6 n0,a1,obs]
 unfold m_it
 rw [obs,Fh hs he hm]
 by_cases h1:s=1
 ·rw [I0 (by simpa using h1)]
  obtain ⟨b,b1,b2⟩:=Ee (s:=a.1) a2.1 (by have:=a2.len (m:=2) n0 n0; omega)
  rw [a2.sv] at b2
  rw [b1,obs]
  exact key _ b b2 ⟨n0,n0⟩ fun h=>n0
 ·rw [J0 (by simpa using h1)]
  exact key _ a a2 ⟨n0,n0⟩ fun _ h=>n0
theorem Ah {s e m:Nat} (hs:s < 2) (he:e < 2047) (hm:m < 4503599627370496):∃ d u,m_jo (Fl s e m)=some d∧Dn 53 1130 d∧Bg u d.2.1 d.2.2.1∧(s=0→(e=0→0 < m)→0 < u):=by
 unfold m_jo m_dg
 rw [obs,o9 hs n0 hm,We hs n0 hm,U6 (x:=(e:Int)) n0]
 simp only
 rw [A0]
 by_cases h0:e=0
 ·rw [B0]
  obtain ⟨d,u,h1,h2,h3,h4⟩:=Bp hs (e:=e) n0 hm (n:=m) n0 (x:=-1074) n0
  exact ⟨d,u,h1,h2,h3,fun h5 h6=>h4 h5 (h6 h0)⟩
 ·rw [A0,H3 n0 n0,ji hm]
  obtain ⟨d,u,h1,h2,h3,h4⟩:=Bp hs (e:=e) n0 hm (n:=4503599627370496+m) n0 (x:=(e:Int) - 1075) n0
  exact ⟨d,u,h1,h2,h3,fun h5 _=>h4 h5 n0⟩
theorem Ap {f:Int} (h:Fi f):∃ d,m_jo f=some d∧Dn 53 1130 d:=by
 obtain ⟨⟨h1,h2⟩,h3⟩:=h
 obtain ⟨s,e,m,hs,he,hm,rfl⟩:=Xe h1 h2
 rw [Ye hs he hm] at h3
 have h4:=P1 h3
 simp at h4
 obtain ⟨d,u,h5,h6,_⟩:=Ah hs (e:=e) n0 hm
 exact ⟨d,h5,h6⟩
theorem Ey {e m:Nat} (he:e < 2047) (hm:m < 4503599627370496) (h0:e=0→0 < m):Fp (Fl 0 e m):=by
 obtain ⟨d,u,h1,h2,h3,h4⟩:=Ah (s:=0) n0 he hm
 obtain ⟨u',h5,h6⟩:=Ua h2 n0 n0
 have hu:u'=u:=by rw [← h5.sv,h3.sv]
 have:=h4 rfl h0
 refine ⟨d,_,h1,h6,?_⟩
 rw [A0,B0]
 omega
theorem Ki {b:Nat} {u:Int} {l:LI} (h:Bg u false l) (hu:Lb b u) (hb:b≤28800):∃ k:Nat,m_i2 false l=some (k:Int)∧u < 2 ^ k∧k≤28800∧k≤32*l.length:=by
 have hl:=hu.len (m:=900) n0 h
 by_cases h0:l=[]
 ·subst h0
  have:u=0:=by rw [← (Bg.lvn h).1]; rfl
  exact ⟨0,H0,by rw [this]; decide,n0,n0⟩
 ·obtain ⟨k,k1,k2,k3⟩:=Li (s:=false) h.1 h.2.1 n0 h0
  rw [(Bg.lvn h).1] at k3
  exact ⟨k,k1,k3.1,n0,k2⟩
theorem Pw {l:LI} (hl:LW l) (hn:l.length≤900) {N:Nat} (hN:N≤32000) (h0:0 < N):Ret (m_jh false l (-(N:Int))) (fun r=>Bg (lv l / 2 ^ N) r.1 r.2.1):=by
 have hlt:=O5 hl
 have p:(0:Int) < 2 ^ N:=C3 n0
 unfold m_jh
 rw [J0 (by simp only [U5,decide_eq_true_eq]; omega),E4 hl n0,obs,A0,O0]
 have e2:wneg .i64 (-(N:Int))=(N:Int):=by
  show IntKind.wrap .i64 (- -(N:Int))=_
  rw [zj,IntWalk.i64_in _ n0]
 have:=Ci (S3 hl) n0 (q:=N / 32) (s:=N % 32) n0 n0
 rw [← n32,P9,Y1] at this
 rw [e2]
 refine this.mono fun u hu=>?_
 obtain ⟨u1,u2,u3,u4⟩:=hu
 rw [Bool.false_and,J0 G0]
 unfold m_jg
 rw [O0]
 have VF:u.1.length≤1000000:=by
  refine Q5 (Bg.len (v:=lv u.1) (m:=1000) (Bg.of (s:=false) u1 u2 G0) (by have:=S2 u1; have:=L3 1000; omega) ?_) n0
  have h1:=J4 hl
  have h2:pw l.length≤pw 1000:=C7 n0
  have h3:lv l / 2 ^ N≤lv l:=Q8 _ (S2 hl)
  omega
 refine (K6 false u1 VF).mono fun r hr=>⟨_,rfl,?_⟩
 unfold sv at hr
 rw [u3] at hr
 exact hr
theorem Kx {b N:Nat} {l:LI} {u:Int} (hB:Bg u false l) (hu:Lb b u) (hb:b≤28800) (hN:N≤32000) (h0:0 < N):∃ r,m_jj false l (N:Int)=some r∧Bg (u / 2 ^ N) r.1 r.2:=by
 obtain ⟨r,r1,r2⟩:=Pw hB.1 (by have:=hu.len (m:=900) n0 hB; omega) hN h0
 rw [(Bg.lvn hB).1] at r2
 refine ⟨(r.1,r.2.1),?_,r2⟩
 rw [Uo false l n0,r1,obs]
theorem NB {b K:Nat} {n mo:Bool} {l:LI} {u x:Int} (hB:Bg u false l) (hu:Lb b u) (hb:b≤20000) (hK:0 < K):∃ r,m_lm n false l x mo (K:Int)=some r∧∃ v,Bg v r.1 r.2.1∧0≤v∧v*2 ^ K≤u:=by
 obtain ⟨k,k1,k2,k3,_⟩:=Ki hB hu n0
 have XF:=(Bg.lvn hB).2
 unfold m_lm
 rw [k1,obs]
 by_cases pK:(k:Int) < (K:Int)
 ·rw [I0 pK]
  exact ⟨_,rfl,0,w9,n0,by rw [Ib]; exact XF⟩
 rw [J0 pK]
 obtain ⟨r,r1,r2⟩:=Kx hB hu n0 (N:=K) n0 hK
 have hp:(0:Int) < 2 ^ K:=C3 n0
 have uE:0≤u / 2 ^ K:=C5 XF n0
 have OL:u / 2 ^ K*2 ^ K≤u:=Int.ediv_mul_le u n0
 have xv:u / 2 ^ K≤u:=Q8 _ XF
 have BN:Lb b (u / 2 ^ K):=⟨by have:=hu.1; have:=hu.2; omega,by have:=hu.2; omega⟩
 obtain ⟨q,q1,q2⟩:=Za r2 BN n0 (N:=K) n0
 have aK:Lb b (u / 2 ^ K*2 ^ K):=⟨by have:=hu.2; have:=T4 uE (S6 hp); omega,by have:=hu.2; omega⟩
 obtain ⟨d,d1,d2⟩:=uw (s:=false) (t:=q.1) hB.1 q2.1 (by have:=hu.len (m:=900) n0 hB; omega) (by have:=aK.len (m:=900) n0 q2; omega)
 rw [hB.sv,q2.sv] at d2
 have h1:m_is 1=some (false,[1]):=H0
 have b1:Bg 1 false [1]:=⟨fun x hx=>by rw [Z2.1 hx]; unfold B; omega,fun x hx=>by simp at hx; omega,rfl,G0⟩
 obtain ⟨w,w1,w2⟩:=Za b1 (b:=1) ⟨by decide,by decide⟩ n0 (N:=K - 1) n0
 have vN:Lb (1+(K - 1)) (1*2 ^ (K - 1)):=Lb.shift (b:=1) ⟨by decide,by decide⟩ _
 have xM:Lb b (u - u / 2 ^ K*2 ^ K):=⟨by have:=hu.2; omega,by have:=hu.2; have:=T4 uE (S6 hp); omega⟩
 obtain ⟨cc,c1⟩:∃ c,m_lg d.1 d.2 w.1 w.2=some c:=⟨_,Pr (s:=d.1) (t:=w.1) d2.1 w2.1 (by have:=xM.len (m:=900) n0 d2; omega) (by have:=vN.len (m:=1000) n0 w2; omega)⟩
 have s1:=Y8 (s:=d.1) d2.1 (by have:=xM.len (m:=900) n0 d2; omega)
 rw [r1,obs,q1,obs,d1,obs,h1,obs,H3 n0 n0,show ((K:Int) - 1)=((K - 1:Nat):Int) by omega]
 simp only
 rw [w1,obs,c1,obs]
 have fin:∀ c:Int,∃ r',m_ll d mo r c=some r'∧∃ v,Bg v r'.1 r'.2.1∧0≤v∧v*2 ^ K≤u:=fun c=>by
  unfold m_ll
  rw [s1,obs]
  generalize (if sv d.1 d.2 < 0 then (-1:Int) else if 0 < sv d.1 d.2 then 1 else 0)=g
  by_cases hg:g=0
  ·rw [I0 hg]; exact ⟨_,rfl,_,r2,uE,OL⟩
  ·rw [J0 hg]; exact ⟨_,rfl,_,r2,uE,OL⟩
 split
 ·exact fin _
 ·exact fin _
theorem Qn {n w:Bool} {v:Int} {a:Bool×LI} (hB:Bg v a.1 a.2) (h0:0≤v) (h1:v < 9007199254740992):∃ r N,m_lp a.1 a.2 n w=some r∧Bg (if n=true then -N else N) r.1 r.2∧0≤N∧N≤9007199254740992:=by
 have p2:pw 2=18446744073709551616:=rfl
 have key:∀ (N:Int) (q:Bool×LI),Bg N q.1 q.2→0≤N→N≤9007199254740992→∃ r N,m_lo n q.1 q.2=some r∧Bg (if n=true then -N else N) r.1 r.2∧0≤N∧N≤9007199254740992:=by
  intro N q hq g0 g1
  unfold m_lo m_ln
  cases n with
  | true=>
   obtain ⟨r,r1,r2⟩:=Ee (s:=q.1) hq.1 (by have:=hq.len (m:=2) n0 n0; omega)
   rw [hq.sv] at r2
   rw [I0 rfl,r1,obs]
   exact ⟨r,N,rfl,r2,g0,g1⟩
  | false=>
   rw [J0 G0]
   exact ⟨q,N,rfl,hq,g0,g1⟩
 unfold m_lp
 cases w with
 | true=>
  have h2:m_is 1=some (false,[1]):=H0
  have b1:Bg 1 false [1]:=⟨fun x hx=>by rw [Z2.1 hx]; unfold B; omega,fun x hx=>by simp at hx; omega,rfl,G0⟩
  obtain ⟨r,r1,r2⟩:=Pi (s:=a.1) (t:=false) hB.1 b1.1 (by have:=hB.len (m:=2) n0 n0; omega) G0
  rw [hB.sv,b1.sv] at r2
  rw [I0 rfl,h2,obs,r1,obs]
  exact key _ r r2 n0 n0
 | false=>
  rw [J0 G0]
  exact key _ a hB h0 n0
theorem Kp {n ex:Bool} {v c:Int} {a:Bool×LI} (hB:Bg v a.1 a.2) (h0:0≤v) (h1:v < 9007199254740992):∃ r N,m_lt n 0 a.1 a.2 c ex=some r∧Bg (if n=true then -N else N) r.1 r.2∧0≤N∧N≤9007199254740992:=by
 have p2:pw 2=18446744073709551616:=rfl
 have bD:a.2.length≤2:=hB.len n0 n0
 unfold m_lt
 cases ex with
 | true=>rw [I0 rfl]; exact Qn hB h0 h1
 | false=>
  rw [J0 G0,A0,A0,A0]
  unfold m_ls m_lr m_lq
  suffices h:∃ w,(if (0:Int) < c then some true else (if c=0 then (m_iy a.1 a.2).bind fun r433=>some (!(decide (r433=0))) else some false).bind fun r430=>(if r430=true then (m_i0 a.1 a.2).bind fun r438=>some (decide (r438=0)) else some false).bind fun r435=>some r435)=some w by
   obtain ⟨w,hw⟩:=h
   rw [hw,obs]
   exact Qn hB h0 h1
  split
  ·exact ⟨_,rfl⟩
  ·split
   ·have s1:=Y8 (s:=a.1) hB.1 n0
    rw [hB.sv] at s1
    rw [s1,obs,obs]
    by_cases hv:v=0
    ·rw [hv]; exact ⟨_,rfl⟩
    ·obtain ⟨z,z1,_⟩:=Xn (s:=a.1) hB.1 n0 (N9 hB hv).1
     rw [J0 (show ¬ v < 0 by omega),I0 (show 0 < v by omega),I0 (by decide),z1]
     exact ⟨_,rfl⟩
   ·exact ⟨_,rfl⟩
theorem Si {u:Int} {s:Bool} {l:LI} (h:Bg u s l) (hl:l.length≤1000000):∃ a,m_lv s l=some a∧a.1=false∧Bg (if u < 0 then -u else u) false a.2:=by
 obtain ⟨a,a1,a2⟩:=K6 false h.1 hl
 have e1:sv false l=if u < 0 then -u else u:=by
  unfold sv
  rw [J0 G0,h.abs]
 rw [e1] at a2
 have ha:a.1=false:=by
  cases h:a.1 with
  | false=>rfl
  | true=>have:=a2.neg.1 h; split at this<;>omega
 refine ⟨a,?_,ha,by rw [← ha]; exact a2⟩
 unfold m_lv
 rw [lf hl,obs,a1,obs]
theorem rz {b k:Nat} {n mo:Bool} {l:LI} {u x q:Int} (hB:Bg u false l) (hu:Lb b u) (hb:b≤20000) (hk:u < 2 ^ k) (hx: -100000≤x∧x≤100000) (hq:x+k - 53≤q) (GE:q≤200000) (RN:x - 100≤q):∃ r N,m_lu n false l x mo q 0=some r∧Bg (if n=true then -N else N) r.1 r.2∧0≤N∧N≤9007199254740992:=by
 have XF:=(Bg.lvn hB).2
 have YM:(2:Int) ^ 53=9007199254740992:=rfl
 unfold m_lu
 by_cases fH:q≤x
 ·obtain ⟨N,hN⟩:=D3 (show 0≤x - q by omega)
  obtain ⟨r,r1,r2⟩:=Za hB hu n0 (N:=N) n0
  have hp:(0:Int) < 2 ^ N:=C3 n0
  have h1:u*2 ^ N < 9007199254740992:=by
   have h2:u*2 ^ N < 2 ^ k*2 ^ N:=Fa hk hp
   rw [← S4] at h2
   have h3:=H6 (N:=k+N) (M:=53) n0
   omega
  rw [I0 fH,H3 n0 n0,hN]
  show ∃ r N',((m_kn false l (N:Int)).bind fun r440=>m_lt n 0 r440.1 r440.2 (-1) true)=some r∧_
  rw [r1,obs]
  exact Kp r2 (T4 XF n0) h1
 ·obtain ⟨N,hN⟩:=D3 (show 0≤q - x by omega)
  obtain ⟨r,r1,v,r2,r3,r4⟩:=NB (n:=n) (mo:=mo) (x:=x) hB hu hb (K:=N) n0
  have hp:(0:Int) < 2 ^ N:=C3 n0
  have h1:v < 9007199254740992:=by
   refine O2 fun hc=>?_
   have h2:9007199254740992*2 ^ N≤v*2 ^ N:=V3 n0 n0
   rw [← YM,← S4] at h2
   have h3:=H6 (N:=k) (M:=53+N) n0
   omega
  rw [J0 fH,H3 n0 n0,hN]
  show ∃ r N',((m_lm n false l x mo (N:Int)).bind fun r442=>m_lt n 0 r442.1 r442.2.1 r442.2.2.1 r442.2.2.2)=some r∧_
  rw [r1,obs]
  exact Kp (a:=(r.1,r.2.1)) r2 r3 h1
theorem jA {r:Int} (h1:r≤9007199254740992) {l:LI} (h:Bg r false l):m_lx false l=some (r,true):=by
 have p2:pw 2=18446744073709551616:=rfl
 have hB:B=4294967296:=rfl
 obtain ⟨hr,h0⟩:=Bg.lvn h
 have hle:l.length≤2:=Bg.len h n0 n0
 unfold m_lx
 rw [E4 h.1 n0,obs,gh h.1 h.2.1,A0]
 have hL:loop (m_lw l) (0,0)=some r:=by
  refine Ret.eq (Q0 l.length (fun k (t:Int×Int)=>t.2=(k:Int)∧t.1=lv (l.take k)) ⟨rfl,rfl⟩ ?_ n0)
  rintro k ⟨a,_⟩ hk ⟨rfl,ha⟩
  simp only at ha
  subst ha
  unfold m_lw
  simp only
  by_cases ou:k < l.length
  ·have hx:=h.1 l[k] (Z1 ou)
   have dM:(l.take k).length=k:=by simp; omega
   have yO:=S2 (LW.take h.1 k)
   have oE:=J4 (LW.take h.1 k)
   rw [dM] at oE
   have JF:k=0∨k=1:=n0
   have HH:pw k=2 ^ (32*k):=Z8 k
   have XL:pw k=1∨pw k=4294967296:=by rcases JF with rfl | rfl; exact .inl rfl; exact .inr rfl
   have hm:wm .i64 32 (k:Int)=((32*k:Nat):Int):=by rw [Ka n0 n0]; omega
   have hs:wshl .u64 (wc .u64 l[k]) ((32*k:Nat):Int)=some (l[k]*pw k):=by
    rw [I3 ⟨hx.1,n0⟩]
    unfold wshl
    rw [A0,H1]
    show some (IntKind.u64.wrap (l[k]*2 ^ (min (32*k) 64)))=_
    rw [show min (32*k) 64=32*k by omega,← HH,IntWalk.u64_in _ (by rcases XL with e | e<;>rw [e]<;>omega)]
   have ho:wor .u64 (lv (l.take k)) (l[k]*pw k)=lv (l.take (k+1)):=by
    have e1:lv (l.take (k+1))=lv (l.take k)+pw k*l[k]:=by rw [tks (J2 ou),L7,dM]
    obtain ⟨p,hp⟩:=D3 yO
    obtain ⟨y,hy⟩:=D3 hx.1
    have QE:l[k]*pw k=((2 ^ (32*k)*y:Nat):Int):=by rw [HH,hy,cd,Zc,I4]; rfl
    have gG:((2 ^ (32*k)*y:Nat):Int) < 18446744073709551616:=by rw [← QE]; rcases XL with e | e<;>rw [e]<;>omega
    have pF:p < 2 ^ (32*k):=by
     have h9:((2 ^ (32*k):Nat):Int)=pw k:=by rw [HH,Zc]; rfl
     omega
    rw [e1,hp,QE,Mb n0 n0,Mf,← A9 pF y]
    have:pw k*l[k]=((2 ^ (32*k)*y:Nat):Int):=by rw [I4]; exact QE
    omega
   rw [B0]
   simp only [O0,U1 (getI_lt ou),hm,U1 hs,ho,K0,T0,wa1 (show k < 4611686018427387904 by omega)]
   exact ⟨n0,trivial,trivial⟩
  ·rw [A0,K0,E1,P4 n0]
   exact hr
 rw [hL,obs,J0 G0,I0 (by simp; omega),U6 n0]
theorem oh {e m:Nat} (he:e < 2048) (hm:m < 4503599627370496) (n:Bool):∃ s,s < 2∧m_ly (Fl 0 e m) n=some (Fl s e m)∧(n=false→s=0):=by
 unfold m_ly
 cases n with
 | true=>exact ⟨1,n0,by rw [I0 rfl,YA he hm],G0⟩
 | false=>exact ⟨0,n0,by rw [J0 G0],fun _=>rfl⟩
theorem So {b:Nat} {n mo:Bool} {l:LI} {u x:Int} (hB:Bg u false l) (hu:Lb b u) (hb:b≤20000) (hx: -50000≤x∧x≤50000):∃ s e m,s < 2∧e < 2048∧m < 4503599627370496∧m_l1 n false l x mo 0=some (Fl s e m)∧(n=false→s=0):=by
 have p2:pw 2=18446744073709551616:=rfl
 obtain ⟨k,k1,k2,k3,_⟩:=Ki hB hu n0
 have uL:m_lj n false l x mo=some (x+k - 1):=by
  unfold m_lj
  rw [k1,obs,Q2 n0 n0,H3 n0 n0]
 obtain ⟨q,hq,HE,GE,RN⟩:∃ q,imax (ws .i64 (x+k - 1) 52) (-1074)=q∧x+k - 53≤q∧-1074≤q∧q≤200000:=by
  refine ⟨_,rfl,?_⟩
  rw [H3 n0 n0]
  unfold imax
  split<;>omega
 obtain ⟨r,N,r1,r2,r3,r4⟩:=rz (n:=n) (mo:=mo) hB hu hb k2 n0 HE n0 n0
 have eB:r.2.length≤2:=r2.len (by split<;>omega) (by split<;>omega)
 have CI:=Si r2 n0
 rw [show (if (if n=true then -N else N) < 0 then -(if n=true then -N else N) else (if n=true then -N else N))=N by cases n<;>simp<;>omega] at CI
 obtain ⟨a,a1,a2,a3⟩:=CI
 have key:∀ (N q:Int),0≤N→N < 9007199254740992→-1074≤q→q≤200001→∃ s e m,s < 2∧e < 2048∧m < 4503599627370496∧m_l0 n 0 q N=some (Fl s e m)∧(n=false→s=0):=by
  intro N q g0 g1 g2 g3
  obtain ⟨M,rfl⟩:=D3 g0
  unfold m_l0
  by_cases h1:(M:Int) < 4503599627370496
  ·obtain ⟨s,s1,s2,s3⟩:=oh (e:=0) (m:=M) n0 n0 n
   have e1:Fl 0 0 M=(M:Int):=by unfold Fl Fn_; omega
   rw [e1] at s2
   rw [I0 h1,s2,obs]
   exact ⟨s,0,M,s1,n0,n0,rfl,s3⟩
  ·rw [J0 h1,Q2 n0 n0]
   by_cases h2:(2047:Int)≤q+1075
   ·obtain ⟨s,s1,s2,s3⟩:=oh (e:=2047) (m:=0) n0 n0 n
    have e1:Fl 0 2047 0=9218868437227405312:=rfl
    rw [e1] at s2
    rw [I0 h2]
    unfold m_lz
    rw [J0 G0,s2,obs,obs]
    exact ⟨s,2047,0,s1,n0,n0,rfl,s3⟩
   ·obtain ⟨e,he⟩:=D3 (show 0≤q+1075 by omega)
    obtain ⟨s,s1,s2,s3⟩:=oh (e:=e) (m:=M - 4503599627370496) n0 n0 n
    have e2:ws .u64 (M:Int) 4503599627370496=((M - 4503599627370496:Nat):Int):=by
     unfold ws
     rw [IntWalk.u64_in _ n0]; omega
    rw [J0 h2,he,I3 n0,e2]
    show ∃ s' e' m',s' < 2∧e' < 2048∧m' < 4503599627370496∧((m_ly (wor .u64 (wslc .u64 (e:Int) 52) ((M - 4503599627370496:Nat):Int)) n).bind fun r21=>some r21)=some (Fl s' e' m')∧_
    rw [aB n0 n0,s2,obs]
    exact ⟨s,e,M - 4503599627370496,s1,n0,n0,rfl,s3⟩
 unfold m_l1
 rw [uL,obs,hq,r1,obs,a1,obs,a2,jA n0 a3,obs]
 simp only
 rw [I3 n0]
 by_cases hN:N=9007199254740992
 ·rw [I0 hN,Q2 n0 n0]
  exact key _ _ n0 n0 n0 n0
 ·rw [J0 hN]
  exact key _ _ r3 n0 GE n0
theorem isq (m:Nat):∃ s,s*s≤m∧m < (s+1)*(s+1):=by
 induction m with
 | zero=>exact ⟨0,n0,n0⟩
 | succ m ih=>
  obtain ⟨s,h1,h2⟩:=ih
  by_cases h:m+1 < (s+1)*(s+1)
  ·exact ⟨s,n0,h⟩
  ·exact ⟨s+1,n0,by
    have:(s+1+1)*(s+1+1)=(s+1)*(s+1)+2*(s+1)+1:=by grind
    omega⟩
theorem mz {m s X:Int} (hs:0 < s) (h1:s*s≤m) (h2:m < (s+1)*(s+1)) (hX:s≤X):s≤(X+m / X) / 2∧(s < X→2*((X+m / X) / 2 - s)≤X - s):=by
 have FM:0 < X:=n0
 constructor
 ·have h3:(2*s - X)*X≤m:=by
   have e:(2*s - X)*X=s*s - (X - s)*(X - s):=by grind
   have:0≤(X - s)*(X - s):=T4 n0 n0
   omega
  have h4:2*s - X≤m / X:=Int.le_ediv_of_mul_le FM h3
  omega
 ·intro hlt
  have h3:(s+1)*(s+1)≤(s+1)*X:=X3 n0 n0
  have h4:m / X < s+1:=m6 FM n0
  omega
theorem Gx {b:Nat} {l:LI} {m:Int} (hB:Bg m false l) (hm:0 < m) (hu:Lb b m) (hb:b≤6000):∃ r v,m_le l=some r∧Bg v false r∧0 < v∧Lb 6100 v:=by
 obtain ⟨_,Bu⟩:=N9 hB n0
 have hl:=hu.len (m:=188) n0 hB
 obtain ⟨k,k1,k2,k3,k4⟩:=aq hB.1 hB.2.1 n0 Bu
 rw [(Bg.lvn hB).1] at k3 k4
 have bD:0 < l.length:=G7.2 Bu
 obtain ⟨s,s1,s2⟩:=isq m.toNat
 have s1':(s:Int)*s≤m:=by
  have h9:((s*s:Nat):Int)≤m:=n0
  rwa [cd] at h9
 have s2':m < ((s:Int)+1)*(s+1):=by
  have h9:m < (((s+1)*(s+1):Nat):Int):=n0
  rw [cd] at h9
  push_cast at h9
  exact h9
 have FH:0 < (s:Int):=by
  refine O2 fun hc=>?_
  have:s=0:=n0
  rw [this] at s2'
  simp at s2'
  omega
 have dP:(2:Int) ^ k≤2 ^ (b+1):=by
  have:(2:Int) ^ (b+1)=2 ^ b*2:=Vf ..
  have:=hu.2
  omega
 have mK:k≤b+1:=by
  refine O2 fun hc=>?_
  have h1:=H6 (N:=b+2) (M:=k) n0
  have h2:(2:Int) ^ (b+2)=2 ^ (b+1)*2:=Vf ..
  have h3:(0:Int) < 2 ^ (b+1):=C3 n0
  omega
 obtain ⟨N,hN⟩:∃ N,N=(k+1) / 2:=⟨_,rfl⟩
 have zH:wqc .i64 (wa .i64 (k:Int) 1) 2=(N:Int):=by
  rw [Q2 n0 n0]
  show IntKind.wrap .i64 (((k:Int)+1).tdiv 2)=_
  rw [Xc n0,IntWalk.i64_in _ n0]
  omega
 have one_lw:LW [1]:=fun x hx=>by rw [Z2.1 hx]; unfold B; omega
 obtain ⟨x0,x1,x2,x3,x4⟩:=fh one_lw G0 G0 (q:=N / 32) (s:=N % 32) n0 n0
 rw [← n32] at x1
 rw [P9] at x4
 have x4':lv x0=2 ^ N:=by rw [x4]; simp [lv]
 have MN:(s:Int)≤2 ^ N:=by
  refine O2 fun hc=>?_
  have h1:(2:Int) ^ N*2 ^ N≤(s:Int)*s:=ud n0 n0 (S6 (C3 n0)) n0
  rw [← S4] at h1
  have h2:=H6 (N:=k) (M:=N+N) n0
  omega
 have TO:Bg (2 ^ N) false x0:=by
  have:=Bg.of (s:=false) x2 x3 G0
  refine this.cast ?_
  unfold sv
  rw [J0 G0,x4']
 unfold m_le
 rw [A0,k1,obs,zH,x1,obs]
 have FJ:N≤3001:=n0
 suffices key:Ret (loop (m_ld l) x0) (fun r=>∃ v,Bg v false r∧0 < v∧Lb 6100 v) by
  obtain ⟨r,r1,v,r2,r3,r4⟩:=key
  exact ⟨r,v,by rw [r1,obs],r2,r3,r4⟩
 have UD:∀ v:Int,0≤v→v≤2*2 ^ N+m→Lb 6100 v:=fun v h0 h1=>by
  have h2:=H6 (N:=N) (M:=6000) n0
  have h3:=H6 (N:=b) (M:=6000) n0
  have h4:(2:Int) ^ 6002=2 ^ 6000*4:=S4 2 6000 2
  have h5:=H6 (N:=6002) (M:=6100) n0
  have h6:=hu.2
  generalize (2:Int) ^ 6000=P at*
  generalize (2:Int) ^ 6002=P2 at*
  unfold Lb
  generalize (2:Int) ^ 6100=P3 at*
  exact ⟨n0,n0⟩
 refine Q0 (N+1) (fun j (t:LI)=>∃ X,Bg X false t∧(s:Int)≤X∧X≤2 ^ N∧2 ^ j*(X - s)≤2 ^ N) ⟨_,TO,MN,Int.le_refl _,by rw [show (2:Int) ^ 0=1 from rfl]; omega⟩ ?_ n0
 rintro j t hj ⟨X,t1,t2,t3,t4⟩
 have kG:0 < X:=n0
 have BO:=(UD X n0 n0).len (m:=191) n0 t1
 obtain ⟨q,r,d1,d2,d3,d4,d5,d6,d7⟩:=xr hB.1 t1.1 hB.2.1 t1.2.1 (N9 t1 n0).2 n0 n0
 rw [(Bg.lvn hB).1,(Bg.lvn t1).1] at d6
 have PN:m / X≤m:=Q8 _ n0
 have YD:0≤m / X:=C5 n0 n0
 have QK:Bg (m / X) false q:=by
  refine (Bg.of (s:=false) d2 d3 G0).cast ?_
  unfold sv
  rw [J0 G0,d6]
 have gH:=(UD _ YD n0).len (m:=191) n0 QK
 obtain ⟨p,p1,p2,p3,p4⟩:=zh t1.1 d2 n0 n0
 rw [(Bg.lvn t1).1,d6] at p4
 have UO:Bg (X+m / X) false p:=by
  refine (Bg.of (s:=false) p2 p3 G0).cast ?_
  unfold sv
  rw [J0 G0,p4]
 have pF:=(UD (X+m / X) n0 n0).len (m:=191) n0 UO
 obtain ⟨y,y1,y2,y3,y4⟩:=sr p2 n0 (s:=1) n0
 rw [p4,show (2:Int) ^ 1=2 from rfl] at y4
 have WM:Bg ((X+m / X) / 2) false y.1:=by
  refine (Bg.of (s:=false) y2 y3 G0).cast ?_
  unfold sv
  rw [J0 G0,y4]
 have LJ:=(UD ((X+m / X) / 2) n0 n0).len (m:=191) n0 WM
 obtain ⟨n1,n2⟩:=mz FH s1' s2' t2
 have hc:=Ab y2 t1.1 y3 t1.2.1 n0 n0
 rw [y4,(Bg.lvn t1).1] at hc
 have y1':m_jb p 1=some y:=y1
 unfold m_ld
 rw [d1,obs]
 simp only
 rw [p1,obs,y1',obs,hc,obs]
 by_cases hlt:(X+m / X) / 2 < X
 ·rw [I0 hlt,A0,K0,T0]
  have n3:=n2 n0
  refine ⟨?_,_,WM,n1,n0,?_⟩
  ·refine Nat.lt_of_le_of_ne hj fun e=>?_
   subst e
   have h1:(2:Int) ^ (N+1)*1≤2 ^ (N+1)*(X - s):=X3 n0 (S6 (C3 n0))
   have h2:(2:Int) ^ (N+1)=2 ^ N*2:=Vf ..
   have h3:(0:Int) < 2 ^ N:=C3 n0
   omega
  ·have h1:(2:Int) ^ j*(2*((X+m / X) / 2 - s))≤2 ^ j*(X - s):=X3 n3 (S6 (C3 n0))
   have h2:(2:Int) ^ (j+1)*((X+m / X) / 2 - s)=2 ^ j*(2*((X+m / X) / 2 - s)):=by rw [Vf,O8]
   omega
 ·rw [J0 hlt]
  rw [I0 (by split<;>omega),K0,E1]
  exact ⟨X,t1,kG,UD X n0 n0⟩
theorem Aw {b:Nat} {l:LI} {m:Int} (hB:Bg m false l) (hm:0 < m) (hu:Lb b m) (hb:b≤6000):∃ r v,m_lf false l=some (false,r,0)∧Bg v false r∧0 < v∧Lb 6100 v:=by
 have hl:=hu.len (m:=188) n0 hB
 obtain ⟨r,v,r1,r2,r3,r4⟩:=Gx hB hm hu hb
 have s1:=Y8 (s:=false) hB.1 n0
 rw [hB.sv,A0,I0 hm] at s1
 have eB:=r4.len (m:=191) n0 r2
 obtain ⟨a,a1,a2⟩:=K6 false r2.1 n0
 rw [r2.sv] at a2
 obtain ⟨e1,e2⟩:=a2.uniq r2
 refine ⟨r,v,?_,r2,r3,r4⟩
 unfold m_lf
 rw [s1,obs,A0,E4 hB.1 n0,obs,gh hB.1 hB.2.1,r1,obs,a1,obs,e1,e2]
theorem Fx {b N:Nat} {l:LI} {u x:Int} (hB:Bg u false l) (h0:0 < u) (hu:Lb b u) (hb:b≤5800) (hN:N≤150) (hx: -20000≤x∧x≤20000):∃ r y mo v,m_lh false l x (N:Int)=some (false,false,r,y,mo)∧Bg v false r∧Lb 6100 v∧-20000≤y∧y≤20000:=by
 obtain ⟨a,a1,a2⟩:=Za hB hu n0 (N:=N) n0
 have hp:(0:Int) < 2 ^ N:=C3 n0
 have bB:0 < u*2 ^ N:=pd h0 hp
 have CM:a.1=false:=by
  cases h:a.1 with
  | false=>rfl
  | true=>have:=a2.neg.1 h; omega
 rw [CM] at a2
 obtain ⟨r,v,r1,r2,r3,r4⟩:=Aw a2 bB (hu.shift N) n0
 have eB:=r4.len (m:=191) n0 r2
 obtain ⟨p,p1,p2⟩:=Jp (s:=false) (t:=false) r2.1 r2.1 n0 n0
 rw [r2.sv] at p2
 have pF:=(r4.mul r4).len (m:=390) n0 p2
 obtain ⟨cc,c1⟩:∃ c,m_lg p.1 p.2 false a.2=some c:=⟨_,Pr (s:=p.1) (t:=false) p2.1 a2.1 n0 (by have:=(hu.shift N).len (m:=191) n0 a2; omega)⟩
 refine ⟨r,wqc .i64 (ws .i64 x (N:Int)) 2,!(decide (cc=0)),v,?_,r2,r4,?_⟩
 ·unfold m_lh
  rw [a1,obs,CM,r1,obs]
  simp only
  rw [p1,obs,c1,obs]
 ·have ht: -20000≤(x - (N:Int)).tdiv 2∧(x - (N:Int)).tdiv 2≤20000:=by
   by_cases h:0≤x - (N:Int)
   ·rw [Xc h]; omega
   ·rw [show x - (N:Int)= -((N:Int) - x) by omega,Int.neg_tdiv,Xc n0]; omega
  rw [H3 n0 n0]
  have e:wqc .i64 (x - (N:Int)) 2=(x - N).tdiv 2:=by
   show IntKind.wrap .i64 ((x - (N:Int)).tdiv 2)=_
   rw [IntWalk.i64_in _ n0]
  rw [e]
  exact ht
theorem UA {s e m:Nat} (hs:s < 2) (he:e < 2048) (hm:m < 4503599627370496):∃ d,m_jo (Fl s e m)=some d∧((!(decide (e=2047)))=true→Dn 53 1130 d):=by
 by_cases h:e=2047
 ·subst h
  refine ⟨(true,false,[],0),?_,G0⟩
  unfold m_jo m_dg
  rw [obs,o9 hs he hm,U6 n0]
  rfl
 ·obtain ⟨d,u,h1,h2,_⟩:=Ah hs (e:=e) n0 hm
  exact ⟨d,h1,fun _=>h2⟩
theorem Jn {s e m:Nat} (hs:s < 2) (he:e < 2048) (hm:m < 4503599627370496):W64 (Fl s e m):=gi hs he hm
theorem PA {d:DY} {g:Int} (h:Dn 5530 8300 d) (hg:m_k2 d.1 d.2.1 d.2.2.1 d.2.2.2=some g) (h0:0 < g):∃ e m,e < 2048∧m < 4503599627370496∧m_l2 d.1 d.2.1 d.2.2.1 d.2.2.2 0=some (Fl 0 e m):=by
 obtain ⟨w,w1,w2⟩:=Ua h n0 n0
 rw [hg] at w2
 have hw:0 < w:=by
  have:=P1 w2
  split at this
  ·omega
  ·split at this<;>omega
 obtain ⟨h1,u,h2,h3,h4,h5⟩:=h
 have TJ:u=w:=by rw [← h2.sv,w1.sv]
 obtain ⟨r,u',z,r1,r2,r3,r4,r5,r6,r7⟩:=De h2 h3 n0 (x:=d.2.2.2) n0
 have YF:0 < u':=by
  refine O2 fun hc=>?_
  have:2 ^ z*u'≤0:=pD (S6 (C3 n0)) n0
  omega
 have xP:=r7.resolve_left n0
 have hN:m_k3 d.1 d.2.1 d.2.2.1 d.2.2.2=some r:=by
  unfold m_k3
  rw [h1,r1,obs]
 have hS:m_k2 r.1 r.2.1 r.2.2.1 r.2.2.2=some 1:=by
  obtain ⟨q,q1,q2⟩:=Ua (d:=r) (b:=5530) (e:=14000) ⟨r2,u',r3,r6,n0,n0⟩ n0 n0
  have:q=u':=by rw [← q1.sv,r3.sv]
  rw [q2,this,A0,I0 YF]
 have RL:r.2.1=false:=by
  cases h:r.2.1 with
  | false=>rfl
  | true=>have:=r3.neg.1 h; omega
 unfold m_l2
 rw [hN,obs,J0 (by rw [r2]; simp),hS,obs,obs,J0 G0,obs,A0]
 rw [RL] at r3
 obtain ⟨k,k1,k2,k3,k4⟩:=Ki r3 r6 n0
 have key:∀ N:Nat,N≤150→∃ e m,e < 2048∧m < 4503599627370496∧((m_lh false r.2.2.1 r.2.2.2 (N:Int)).bind fun r18=>(m_l1 r18.1 r18.2.1 r18.2.2.1 r18.2.2.2.1 r18.2.2.2.2 0).bind fun r20=>some r20)=some (Fl 0 e m):=by
  intro N hN
  obtain ⟨l,y,mo,v,y1,y2,y3,y4,y5⟩:=Fx r3 YF r6 n0 hN (x:=r.2.2.2) n0
  obtain ⟨s,e,m,z1,z2,z3,z4,z5⟩:=So (n:=false) (mo:=mo) y2 y3 n0 (x:=y) n0
  obtain rfl:=z5 rfl
  refine ⟨e,m,z2,z3,?_⟩
  rw [y1,obs]
  simp only
  rw [z4,obs]
 have hn:∃ N:Nat,imax 0 (ws .i64 (wm .i64 2 (wa .i64 56 3)) (k:Int))=(N:Int)∧N≤118:=by
  rw [show wm .i64 2 (wa .i64 56 3)=118 by kernel_rfl,H3 n0 n0]
  unfold imax
  split
  ·exact ⟨(118 - (k:Int)).toNat,n0,n0⟩
  ·exact ⟨0,rfl,n0⟩
 obtain ⟨N,n1,n2⟩:=hn
 unfold m_li
 rw [RL,k1,obs,n1]
 split
 ·exact key N n0
 ·rw [Q2 n0 n0]
  exact key (N+1) n0
theorem QA {a d:DY} (ha:Dn 5530 8300 a) (hd:Dn 53 1130 d):∃ s e m,s < 2∧e < 2048∧m < 4503599627370496∧m_l7 a.1 a.2.1 a.2.2.1 a.2.2.2 d.1 d.2.1 d.2.2.1 d.2.2.2 0=some (Fl s e m):=by
 obtain ⟨p,p1,p2⟩:=S9 ha n0 n0
 obtain ⟨q,q1,q2⟩:=S9 hd n0 n0
 obtain ⟨w,w1,w2⟩:=Ua p2 n0 n0
 obtain ⟨v,v1,v2⟩:=Ua q2 n0 n0
 have hP:m_k3 a.1 a.2.1 a.2.2.1 a.2.2.2=some p:=by
  unfold m_k3
  rw [p1,obs]
 have hQ:m_k3 d.1 d.2.1 d.2.2.1 d.2.2.2=some q:=by
  unfold m_k3
  rw [q1,obs]
 unfold m_l7
 rw [hP,obs,hQ,obs,J0 (by rw [p2.1,q2.1]; simp),v2,obs,obs]
 by_cases hv:v=0
 ·rw [I0 (by rw [hv]; decide)]
  exact ⟨0,2047,2251799813685248,n0,n0,n0,rfl⟩
 rw [J0 (by by_cases h:v < 0<;>simp [h]<;>omega),w2,obs]
 by_cases hw:w=0
 ·rw [I0 (by rw [hw]; decide)]
  exact ⟨0,0,0,n0,n0,n0,rfl⟩
 rw [J0 (by by_cases h:w < 0<;>simp [h]<;>omega)]
 obtain ⟨p3,pu,p4,p5,p6,p7⟩:=p2
 obtain ⟨q3,qu,q4,q5,q6,q7⟩:=q2
 obtain rfl:pu=w:=by rw [← p4.sv,w1.sv]
 obtain rfl:qu=v:=by rw [← q4.sv,v1.sv]
 have pF:=p5.len (m:=173) n0 p4
 have gH:=q5.len (m:=2) n0 q4
 obtain ⟨A,a1,a2,a3⟩:=Si p4 n0
 obtain ⟨D,d1,d2,d3⟩:=Si q4 n0
 have XM:Lb 5530 (if pu < 0 then -pu else pu):=by split; exact p5.neg; exact p5
 have NK:Lb 53 (if qu < 0 then -qu else qu):=by split; exact q5.neg; exact q5
 have SK:0≤(if pu < 0 then -pu else pu):=by split<;>omega
 have OK:0 < (if qu < 0 then -qu else qu):=by split<;>omega
 generalize (if pu < 0 then -pu else pu)=PU at*
 generalize (if qu < 0 then -qu else qu)=QU at*
 have bits:∀ {s:Bool} {l:LI} {u:Int} {b:Nat},Bg u s l→Lb b u→b≤28800→∃ k:Nat,m_i2 s l=some (k:Int)∧k≤32*l.length:=by
  intro s l u b hB hu hb
  by_cases h0:l=[]
  ·subst h0
   refine ⟨0,?_,n0⟩
   cases s<;>kernel_rfl
  ·obtain ⟨k,k1,k2,k3⟩:=Li (s:=s) hB.1 hB.2.1 (by have:=hu.len (m:=900) n0 hB; omega) h0
   exact ⟨k,k1,k2⟩
 obtain ⟨k,k1,k2⟩:=bits q4 q5 n0
 obtain ⟨j,j1,j2⟩:=bits p4 p5 n0
 have hn:∃ N:Nat,imax 0 (ws .i64 (wa .i64 (wa .i64 56 3) (k:Int)) (j:Int))=(N:Int)∧N≤123:=by
  rw [show wa .i64 56 3=59 by kernel_rfl,Q2 n0 n0,H3 n0 n0]
  unfold imax
  split
  ·exact ⟨(59+(k:Int) - j).toNat,n0,n0⟩
  ·exact ⟨0,rfl,n0⟩
 obtain ⟨N,n1,n2⟩:=hn
 obtain ⟨L,l1,l2⟩:=Za (s:=A.1) (l:=A.2) (by rw [a2]; exact a3) XM n0 (N:=N) n0
 have UD:=XM.shift N
 have QM:0≤PU*2 ^ N:=T4 SK (S6 (C3 n0))
 obtain ⟨T,t1,t2,t3,t4⟩:=EB (s:=L.1) (t:=D.1) (a:=L.2) (b:=D.2) l2.1 d3.1 (by have:=UD.len (m:=200) n0 l2; omega) (by have:=NK.len (m:=2) n0 d3; omega) (by rw [d2,d3.sv]; omega)
 rw [l2.sv,d2,d3.sv] at t2 t3
 have YD:0≤PU*2 ^ N / QU:=C5 QM n0
 have nL:PU*2 ^ N / QU≤PU*2 ^ N:=Q8 _ QM
 have aK:Lb (5530+N) (PU*2 ^ N / QU):=⟨by have:=UD.2; omega,by have:=UD.2; omega⟩
 have KM:T.1=false:=by
  cases h:T.1 with
  | false=>rfl
  | true=>have:=t2.neg.1 h; omega
 rw [KM] at t2
 have EF:=n4 (PU*2 ^ N) (show QU≠0 by omega)
 have XD:=D4 (PU*2 ^ N) OK
 have s1:=Y8 (s:=T.2.2.1) t3.1 (by have:=(show Lb 53 (PU*2 ^ N % QU) from ⟨by have:=NK.2; omega,by have:=NK.2; omega⟩).len (m:=2) n0 t3; omega)
 obtain ⟨s,e,m,z1,z2,z3,z4,z5⟩:=So (n:=(!((p.2.1 == q.2.1)))) (mo:=(!(decide ((if sv T.2.2.1 T.2.2.2.1 < 0 then (-1:Int) else if 0 < sv T.2.2.1 T.2.2.2.1 then 1 else 0)=0)))) t2 aK n0 (x:=p.2.2.2 - N - q.2.2.2) n0
 refine ⟨s,e,m,z1,z2,z3,?_⟩
 unfold m_l6
 rw [k1,obs,j1,obs,a1,obs,n1,l1,obs,d1,obs,t1,obs,s1,obs,obs]
 simp only
 rw [H3 (x:=p.2.2.2) (y:=(N:Int)) n0 n0,H3 n0 n0,KM,z4,obs]
theorem ar:Ar (Dn 53 1130) (Dn 106 2600) (Dn 5530 8300) where
 zero:=Dn.zero _ _
 dp:=fun d h=>h.mono n0 n0
 of:=fun f h=>Ap h
 mul:=fun a b ha hb=>by
  obtain ⟨c,c1,c2⟩:=tz ha hb n0 n0
  obtain ⟨d,d1,d2⟩:=qz (c2.mono (b':=106) (e':=2472) n0 n0) n0 n0
  obtain ⟨_,u,c3,c4,c5,c6⟩:=c2
  exact ⟨c,d,c1,d1,d2.mono n0 n0⟩
 sum:=fun l h1 h2=>qw h1 h2
 sign:=fun s h=>by
  obtain ⟨u,_,h1⟩:=Ua h n0 n0
  exact ⟨_,h1⟩
 root:=fun s g h1 h2 h3=>by
  obtain ⟨e,m,e1,m1,f1⟩:=PA h1 h2 h3
  obtain ⟨k,k1,k2⟩:=aA (s:=0) n0 e1 m1
  obtain ⟨d,d1,d2⟩:=UA (s:=0) n0 e1 m1
  refine ⟨_,k,_,f1,k1,Ye n0 e1 m1,Jn n0 e1 m1,⟨d,d1,d2⟩,fun h4 h5=>?_⟩
  have h6:e≠2047:=by simpa using h5
  exact Ey n0 m1 fun h0=>by
   refine Nat.pos_of_ne_zero fun hm=>h4 (k2.2 ⟨h0,hm⟩)
 quo:=fun s d h1 h2=>by
  obtain ⟨s',e,m,s1,e1,m1,f1⟩:=QA h1 h2
  exact ⟨_,_,f1,Ye s1 e1 m1,Jn s1 e1 m1⟩
end Ts
namespace Pd
open Pl Sx Go M Vc
theorem MA:∃ k,FUEL=k+1000:=⟨9223372036854774808,rfl⟩
theorem uz:((List.range 1001).all fun n=>m_ed 1 (n:Int) == some (0,(n:Int)))=true:=H0
theorem mul_one {n:Nat} (hn:n≤1000):m_ee 1 (n:Int)=some (0,(n:Int)):=by
 have h:=Q6.1 uz n (m7.2 n0)
 have h':m_ed 1 (n:Int)=some (0,(n:Int)):=by simpa using h
 unfold m_ee
 rw [bindS h']
theorem Dr {β:Type} {l m:List β} {lo hi:Nat} (h1:lo≤hi) (h2:hi≤l.length):cpI l (lo:Int) (hi:Int) m=some (l.take lo++m.take (hi - lo)++l.drop (lo+min m.length (hi - lo)),((min m.length (hi - lo):Nat):Int)):=by
 unfold cpI
 rw [B0]
 simp only [H1]
theorem wh {n:Nat} (hn:n≤1000) (x:Int):m_ei [x] (n:Int)=some (List.replicate n x):=by
 unfold m_ei m_eh m_eg
 have e1:wc .u64 (([x]:LI).length:Int)=1:=rfl
 have e2:wc .u64 (n:Int)=(n:Int):=IntWalk.u64_in _ n0
 have e3:wc .i64 (n:Int)=(n:Int):=IntWalk.i64_in _ n0
 have e4:(decide ((0:Int) < 0) || decide ((9223372036854775807:Int) < (n:Int)))=false:=by simp; omega
 rw [A0,e1,e2,bindS (mul_one hn)]
 simp only [e3,e4,D2,if_false]
 rw [bindS (G4 0 n n0)]
 have eB:(List.replicate n (0:Int)).length=n:=by simp
 have e5:cpI (List.replicate n (0:Int)) 0 (((List.replicate n (0:Int)).length:Nat):Int) [x]=some (List.replicate (min 1 n) x++List.replicate (n - min 1 n) 0,((min 1 n:Nat):Int)):=by
  have:=Dr (l:=List.replicate n (0:Int)) (m:=[x]) (lo:=0) (hi:=n) n0 G0
  rw [eB]
  rw [show ((0:Nat):Int)=0 from rfl] at this
  rw [this]
  congr 2
  simp only [ua,v8,p8,o8,w8,Ba]
  cases n with
  | zero=>simp
  | succ n=>simp [n5]
 rw [bindS e5]
 simp only
 by_cases h0:n=0
 ·subst h0
  have:loop m_ef (List.replicate (min 1 0) x++List.replicate (0 - min 1 0) 0,((min 1 0:Nat):Int))=some []:=by
   refine Ret.eq ?_
   refine Q0 0 (fun k (t:LI×Int)=>t=([],0)) rfl ?_
   rintro k _ hk rfl
   unfold m_ef
   simp only [vcD,implies_true,D2,reduceCtorEq]
   simp
  rw [bindS this]; rfl
 ·have hm:min 1 n=1:=n0
  rw [hm]
  have:loop m_ef (List.replicate 1 x++List.replicate (n - 1) 0,((1:Nat):Int))=some (List.replicate n x):=by
   refine Ret.eq ?_
   refine Q0 n (fun j (t:LI×Int)=>∃ k:Nat,t=(List.replicate k x++List.replicate (n - k) 0,(k:Int))∧k≤n∧j+1≤k) ⟨1,rfl,n0,n0⟩ ?_
   rintro j _ hj ⟨k,rfl,FP,JF⟩
   unfold m_ef
   have hlen:(List.replicate k x++List.replicate (n - k) (0:Int)).length=n:=by simp; omega
   simp only [hlen]
   by_cases ou:k < n
   ·have e6:(k:Int) < (n:Int):=n0
    have s1:sli (List.replicate k x++List.replicate (n - k) (0:Int)) (k:Int) (n:Int)=some (List.replicate (n - k) 0):=by
     unfold sli subL
     rw [I0 (by rw [hlen]; omega),H1,H1,P4 n0]
     rw [vj G0]
    have s2:sli (List.replicate k x++List.replicate (n - k) (0:Int)) 0 (k:Int)=some (List.replicate k x):=by
     unfold sli subL
     rw [I0 (by rw [hlen]; omega),H1,Kc G0]
     rfl
    have s3:=Dr (l:=List.replicate k x++List.replicate (n - k) (0:Int)) (m:=List.replicate k x) (lo:=k) (hi:=n) n0 n0
    rw [Kc G0] at s3
    have s4:List.replicate k x++(List.replicate k x).take (n - k)++(List.replicate k x++List.replicate (n - k) (0:Int)).drop (k+min (List.replicate k x).length (n - k))=List.replicate (k+min k (n - k)) x++List.replicate (n - (k+min k (n - k))) 0:=by
     rw [List.take_replicate,T5,← G9,vj G0,Ba,jj,Nat.min_comm (n - k) k]
     congr 2
     omega
    rw [s4,T5] at s3
    have hw:wa .i64 (k:Int) ((min k (n - k):Nat):Int)=((k+min k (n - k):Nat):Int):=by rw [Q2 n0 n0]; omega
    simp only [vcD,implies_true,D2,reduceCtorEq,e6,s1,s2,s3,hw]
    exact ⟨n0,k+min k (n - k),rfl,n0,n0⟩
   ·have e6:¬ (k:Int) < (n:Int):=n0
    have:k=n:=n0
    subst this
    simp only [vcD,implies_true,D2,reduceCtorEq,e6]
    simp
  rw [bindS this]
theorem concat_ok {L:L2} (hL:L.length≤1000) (hl:∀ l,l∈L→l.length≤1000):m_ey L=some L.flatten:=by
 unfold m_ey
 have fl:∀ k,k≤L.length→(L.take k).flatten.length≤k*1000:=by
  intro k hk
  induction k with
  | zero=>simp
  | succ k ih=>
   obtain ⟨x,hx⟩:∃ x,L[k]?=some x:=⟨L[k],by simp [show k < L.length by omega]⟩
   have e:(L.take (k+1)).flatten.length=(L.take k).flatten.length+x.length:=by
    rw [tks hx,j6,H2,jD]
   have:=ih n0
   have:=hl x (X2 hx)
   omega
 have h1:loop (m_ex L) (0,0)=some (L.flatten.length:Int):=by
  refine Ret.eq ?_
  refine Q0 L.length (fun k (t:Int×Int)=>t=(((L.take k).flatten.length:Int),(k:Int))) rfl ?_
  rintro k _ hk rfl
  unfold m_ex m_ew
  simp only
  have hf:=fl k hk
  by_cases Cu:k < L.length
  ·obtain ⟨x,hx⟩:∃ x,L[k]?=some x:=⟨L[k],by simp [Cu]⟩
   have hw:wa .i64 (k:Int) 1=((k+1:Nat):Int):=wa1 n0
   have yH:=hl x (X2 hx)
   have e1:getI L (k:Int)=some x:=hx
   have hw2:wa .i64 ((L.take k).flatten.length:Int) (x.length:Int)=(((L.take (k+1)).flatten.length:Nat):Int):=by
    rw [wa_in (by constructor<;>omega),tks hx,j6,H2,jD]
    omega
   rw [B0,bindS e1,hw2,A0,hw,K0,T0]
   exact ⟨Cu,rfl⟩
  ·rw [A0,K0,E1,O3 n0]
 have hF:=fl L.length (O4 _)
 rw [M6] at hF
 have h2:m_eu (L.flatten.length:Int)=some []:=by
  unfold m_eu m_et m_es
  rw [A0]
  have e0:ws .i64 0 0=0:=by rw [ws_in (by constructor<;>omega)]; rfl
  have e1:ws .i64 (L.flatten.length:Int) 0=(L.flatten.length:Int):=by rw [ws_in (by constructor<;>omega)]; omega
  rw [e0,e1]
  by_cases h:(0:Int) < (L.flatten.length:Int)
  ·rw [I0 h]
   unfold mkLp
   rw [I0 h,bindS (G4 0 _ n0)]
   rfl
  ·rw [J0 h]
 have h3:loop (m_ev L) ([],0)=some L.flatten:=by
  refine Ret.eq ?_
  refine Q0 L.length (fun k (t:LI×Int)=>t=((L.take k).flatten,(k:Int))) rfl ?_
  rintro k _ hk rfl
  unfold m_ev
  simp only
  have hf:=fl k hk
  by_cases Cu:k < L.length
  ·obtain ⟨x,hx⟩:∃ x,L[k]?=some x:=⟨L[k],by simp [Cu]⟩
   have hw:wa .i64 (k:Int) 1=((k+1:Nat):Int):=wa1 n0
   have yH:=hl x (X2 hx)
   have e1:getI L (k:Int)=some x:=hx
   have e2:app (L.take k).flatten x=some (L.take (k+1)).flatten:=by
    unfold app BIG
    rw [B0,tks hx,j6]; simp
   rw [B0,bindS e1,bindS e2,hw,K0,T0]
   exact ⟨Cu,rfl⟩
  ·rw [A0,K0,E1,O3 n0]
 rw [bindS h1,bindS h2,bindS h3]
def sd (side:LI) (v:Nat):Int:=side[v]?.getD 0
theorem Vw {side:LI} {v:Nat} {x:Int} (h:side[v]?=some x):sd side v=x:=by unfold sd; rw [h]; rfl
theorem z7 {n:Nat} {side:LI} (hs:side.length=n) {v:Nat} (hv:v < n):side[v]?=some (sd side v):=by
 obtain ⟨x,hx⟩:∃ x,side[v]?=some x:=⟨side[v]'(n0),by simp [show v < side.length by omega]⟩
 rw [Vw hx]; exact hx
def S01 (side:LI):Prop:=∀ x,x∈side→x=0∨x=1
theorem S01.set {s:LI} (h:S01 s) {k:Nat} {y:Int} (hy:y=0∨y=1):S01 (s.set k y):=fun x hx=>by
 rcases Pf hx with hx | rfl
 ·exact h x hx
 ·exact hy
theorem oe {l:LI} {x:Int} (y:Int) (hx:0≤x) (hl:x < l.length):setI l x y=some (l.set x.toNat y):=by
 obtain ⟨k,rfl⟩:=D3 hx
 rw [setI_lt n0]; rfl
def ql (adj:L2) (c:LI):L2:=((m_e7 adj (c.headD 0)).bind (m_e8 adj)).getD []
structure PartP (adj:L2) (n:Nat) (c:LI):Prop where
 ex:∃ (r:Int) (p:Int),getI c 0=some r∧m_e7 adj r=some p∧m_e8 adj p=some (ql adj c)
 ln:(ql adj c).length≤1000
 sz:∀ l,l∈ql adj c→l.length≤1000
 rg:∀ l,l∈ql adj c→∀ x,x∈l→0≤x∧x < n
theorem Oy {adj:L2} (hG:Gr adj) (hn:adj.length≤30) {out:L2} (hC:CS adj adj.length out) {c:LI} (hc:c∈out):PartP adj adj.length c:=by
 obtain ⟨r,hr,ZH,hh⟩:=hC.cls c hc
 obtain ⟨a,lev,seen,c',a1,a2,a3,a4⟩:=ic hG hn hr
 obtain ⟨p,p0,q,b,r',w,rfl,hq,_⟩:=Jy hG hn hr a1
 obtain ⟨o,lev',seen',c'',o1,o2,o3,o4⟩:=ic hG hn hq
 obtain ⟨k1,k2,k3,k4,k5⟩:=Mi o2 hq hn
 have hL:m_e8 adj (q:Int)=some o:=by
  unfold m_e8 m_e3
  have RG:=F8 hG (show adj.length≤200 by omega)
  have e2:(q:Int) < (adj.length:Int):=n0
  have e3:(0:Int)≤(q:Int):=n0
  simp [RG,e2,e3,o1]
 have hp:ql adj c=o:=by
  unfold ql
  rw [List.headD_eq_head?_getD,hh,Kf,p0,y6,hL,Kf]
 have hg:getI c 0=some (r:Int):=by
  cases c with
  | nil=>cases hh
  | cons x c=>simp at hh; subst hh; rfl
 exact ⟨⟨r,q,hg,p0,by rw [hp]; exact hL⟩,by rw [hp]; omega,by rw [hp]; exact k5,by rw [hp]; exact k4⟩
theorem XA {L:L2}:∀ {a:Nat},L.length≤a→(∀ l,l∈L→l.length≤1000)→L.flatten.length≤a*1000:=by
 induction L with
 | nil=>intros; simp
 | cons x L ih=>
  intro a ha hl
  have h1:=hl x G0
  have h2:=ih (a:=a - 1) (by simp at ha; omega) (fun l h=>hl l (by simp [h]))
  rw [Hb,H2]
  simp at ha
  omega
theorem Vv {vx:LI} (hl:vx.length≤1000):Ret (m_em vx) (fun _=>True):=by
 unfold m_em
 rw [O0]
 simp only [K0]
 refine Q0 vx.length (fun k (t:Int×Int)=>t.2=k) rfl ?_
 rintro k ⟨a,b⟩ hk hb
 simp only at hb
 subst hb
 unfold m_el
 simp only
 by_cases ou:k < vx.length
 ·have hw:wa .i64 (k:Int) 1=((k+1:Nat):Int):=wa1 n0
  rw [B0,bindS (getI_lt ou),hw,K0,T0]
  exact ⟨ou,rfl⟩
 ·rw [A0,K0,E1]
  trivial
def stp:(LI×Int)⊕LI→LI
 | .inl p=>p.1
 | .inr s=>s
def out1:LI⊕LI→LI
 | .inl s=>s
 | .inr s=>s
theorem JA {n:Nat} {vx:LI} (hv:vx.length=n) (T:Int) {l:LI} (hl:l.length≤1000000) (hr:∀ x,x∈l→0≤x∧x < n) {s:LI} {g:Int} (hs:s.length=n) (zF:S01 s):
  Ret (loop (m_e9 l T vx) (s,g,0)) (fun o=>(stp o).length=n∧S01 (stp o)):=by
 refine Q0 l.length (fun k (t:LI×Int×Int)=>t.2.2=k∧t.1.length=n∧S01 t.1) ⟨rfl,hs,zF⟩ ?_
 rintro k ⟨a,b,i⟩ hk ⟨hi,h1,h2⟩
 simp only at hi h1 h2
 subst hi
 unfold m_e9
 simp only
 by_cases Cu:k < l.length
 ·have fE:=hr _ (Z1 Cu)
  have hw:wa .i64 (k:Int) 1=((k+1:Nat):Int):=wa1 n0
  have e2:getI vx l[k]=some (sd vx l[k].toNat):=Pl.getI_of fE.1 (z7 hv n0)
  rw [B0,bindS (getI_lt Cu)]
  by_cases hT:T≤wm .i64 2 b
  ·rw [I0 hT,K0,E1]
   exact ⟨h1,h2⟩
  ·rw [J0 hT,bindS (oe _ fE.1 n0),bindS e2,hw,K0,T0]
   exact ⟨Cu,rfl,by simp [h1],h2.set (.inl rfl)⟩
 ·rw [A0,K0,E1]
  exact ⟨h1,h2⟩
theorem KA {n:Nat} (hn:n≤200) {vx:LI} (hv:vx.length=n) (T:Int) {adj:L2} {C:L2} (hC:C.length≤1000) (hP:∀ c,c∈C→PartP adj n c) {s:LI} {g:Int} (hs:s.length=n) (zF:S01 s):
  Ret (loop (m_fa C adj T vx) (s,g,0)) (fun o=>(out1 o).length=n∧S01 (out1 o)):=by
 refine Q0 C.length (fun k (t:LI×Int×Int)=>t.2.2=k∧t.1.length=n∧S01 t.1) ⟨rfl,hs,zF⟩ ?_
 rintro k ⟨a,b,i⟩ hk ⟨hi,h1,h2⟩
 simp only at hi h1 h2
 subst hi
 unfold m_fa
 simp only
 by_cases Cu:k < C.length
 ·have hw:wa .i64 (k:Int) 1=((k+1:Nat):Int):=wa1 n0
  obtain ⟨⟨r,p,c1,c2,c4⟩,q1,q2,q3⟩:=hP _ (Z1 Cu)
  obtain ⟨o,e1,e2,e3⟩:=JA hv T (l:=(ql adj C[k]).flatten) (by have:=XA q1 q2; omega) (fun x hx=>by obtain ⟨l,l1,l2⟩:=nj.1 hx; exact q3 l l1 x l2) (s:=a) (g:=b) h1 h2
  rw [B0,bindS (getI_lt Cu),bindS c1,bindS c2,bindS c4,bindS (concat_ok q1 q2),bindS e1]
  cases o with
  | inl p=>
   simp only [stp] at e2 e3
   simp only
   rw [hw,K0,T0]
   exact ⟨Cu,rfl,e2,e3⟩
  | inr s'=>
   simp only
   rw [K0,E1]
   exact ⟨e2,e3⟩
 ·rw [A0,K0,E1]
  exact ⟨h1,h2⟩
theorem AA {adj:L2} (hG:Gr adj) {vx:LI} (xv:vx.length=adj.length) (ed:L2) (hn:adj.length≤30):∃ s,m_fb adj vx ed=some s∧s.length=adj.length∧S01 s:=by
 obtain ⟨C,c1,c2⟩:=VB hG hn
 have Hv:=c2.len
 have hP:∀ c,c∈C→PartP adj adj.length c:=fun c hc=>Oy hG hn c2 hc
 obtain ⟨T,tot,_⟩:=Vv (vx:=vx) n0
 obtain ⟨o,o1,o2,o3⟩:=KA n0 xv T n0 hP (s:=List.replicate adj.length 1) (g:=0) G0 (fun x hx=>.inr (M8 hx))
 refine ⟨_,?_,o2,o3⟩
 unfold m_fb
 rw [xv,bindS (wh n0 1),bindS tot,bindS c1,bindS o1]
 cases o<;>rfl
def onesE (adj:L2):L2:=adj.map fun l=>List.replicate l.length 1
theorem Yy {adj:L2} {v:Nat} {l:LI} (h:adj[v]?=some l):(onesE adj)[v]?=some (List.replicate l.length 1):=by
 simp [onesE,h]
theorem Qv {adj:L2} (hG:Gr adj) (hn:adj.length≤200):m_ek adj=some (adj,List.replicate adj.length 1,onesE adj):=by
 unfold m_ek
 have h1:loop (m_ej adj) ([],0)=some (onesE adj):=by
  refine Ret.eq ?_
  refine Q0 adj.length (fun k (t:L2×Int)=>t=((adj.take k).map (fun l=>List.replicate l.length 1),(k:Int))) G0 ?_
  rintro k _ hk rfl
  unfold m_ej
  simp only
  by_cases ou:k < adj.length
  ·have hw:wa .i64 (k:Int) 1=((k+1:Nat):Int):=wa1 n0
   have hl:=hG.len (J2 ou)
   rw [B0,bindS (getI_lt ou),bindS (wh n0 1),bindS (app_small (by simp; omega)),hw,K0,T0]
   refine ⟨ou,?_⟩
   rw [Qa ou,o7]
   rfl
  ·rw [A0,K0,E1,O3 n0]
   rfl
 rw [bindS (wh n0 1),bindS h1]
section
variable {n:Nat} {vx side z:LI}
theorem ws01 {x:Int} (h:x=0∨x=1):ws .i64 1 x=1 - x:=by rw [ws_in (by constructor<;>omega)]
theorem Gw (hn:n≤200) (hs:side.length=n) (zF:S01 side) (hv:vx.length=n):Ret (loop (m_fh side vx) ([0,0],0)) (fun o=>o.length=2):=by
 refine Q0 n (fun k (t:LI×Int)=>t.2=k∧t.1.length=2) ⟨rfl,rfl⟩ ?_
 rintro k ⟨z,i⟩ hk ⟨hi,h1⟩
 simp only at hi h1
 subst hi
 unfold m_fh
 simp only
 by_cases ou:k < n
 ·have hw:wa .i64 (k:Int) 1=((k+1:Nat):Int):=wa1 n0
  have hx:=zF _ (Z1 (l:=side) (n:=k) n0)
  have g1:getI z side[k]=some (sd z side[k].toNat):=Pl.getI_of n0 (z7 h1 n0)
  rw [B0,bindS (getI_lt n0),bindS g1,bindS (getI_lt n0),bindS (oe _ n0 n0),hw,K0,T0]
  exact ⟨ou,rfl,by simp [h1]⟩
 ·rw [A0,K0,E1]; exact h1
theorem HA {adj:L2} (hG:Gr adj) (hn:adj.length≤200) (hs:side.length=adj.length) {v:Nat} {l:LI} (hl:adj[v]?=some l) (x:Int):Ret (loop (m_fe l side x (onesE adj) (v:Int)) (0,0)) (fun _=>True):=by
 have ax:=hG.len hl
 have ho:getI (onesE adj) (v:Int)=some (List.replicate l.length 1):=Yy hl
 refine Q0 l.length (fun k (t:Int×Int)=>t.2=k) rfl ?_
 rintro k ⟨g,i⟩ hk hi
 simp only at hi
 subst hi
 unfold m_fe m_fd
 simp only
 by_cases ou:k < l.length
 ·have hw:wa .i64 (k:Int) 1=((k+1:Nat):Int):=wa1 n0
  have hr:=hG.rng v l _ hl (Z1 ou)
  have g1:getI side l[k]=some (sd side l[k].toNat):=Pl.getI_of n0 (z7 hs n0)
  have g2:getI (List.replicate l.length (1:Int)) (k:Int)=some 1:=by
   show (List.replicate l.length (1:Int))[k]?=some 1
   simp [ou]
  rw [B0,bindS (getI_lt ou),bindS g1]
  split
  ·rw [bindS ho,bindS g2,hw,K0,T0]; exact ⟨ou,rfl⟩
  ·rw [bindS ho,bindS g2,hw,K0,T0]; exact ⟨ou,rfl⟩
 ·rw [A0,K0,E1]; trivial
theorem Ny {adj:L2} (hG:Gr adj) (hn:adj.length≤200) (hv:vx.length=adj.length) (a b:Int) {L:LI} (hL:L.length=adj.length) {m:Bool} (hs:side.length=adj.length) (zF:S01 side) (hz:z.length=2):
  Ret (loop (m_ff L adj (onesE adj) vx a b) (side,z,m,0)) (fun o=>o.1.length=adj.length∧S01 o.1∧o.2.1.length=2):=by
 refine Q0 adj.length (fun k (t:LI×LI×Bool×Int)=>t.2.2.2=k∧t.1.length=adj.length∧S01 t.1∧t.2.1.length=2) ⟨rfl,hs,zF,hz⟩ ?_
 rintro k ⟨side,z,m,i⟩ hk ⟨hi,h1,h2,h3⟩
 simp only at hi h1 h2 h3
 subst hi
 unfold m_ff m_fc
 simp only
 rw [hL]
 by_cases ou:k < adj.length
 ·have hw:wa .i64 (k:Int) 1=((k+1:Nat):Int):=wa1 n0
  have hx:=h2 _ (Z1 (l:=side) (n:=k) n0)
  have gx:getI side (k:Int)=some (side[k]'(n0)):=getI_lt n0
  generalize side[k]'(n0)=x at hx gx
  obtain ⟨g,g1,_⟩:=HA hG hn h1 (J2 ou) x
  have q1:∀ {z:LI},z.length=2→getI z (1 - x)=some (sd z (1 - x).toNat):=fun hz=>Pl.getI_of n0 (z7 hz n0)
  have q0:getI z x=some (sd z x.toNat):=Pl.getI_of n0 (z7 h3 n0)
  have gv:getI vx (k:Int)=some (sd vx k):=z7 hv ou
  rw [B0,bindS gx,bindS (getI_lt ou),bindS g1,ws01 hx,hw]
  have hm:Ret (do
    let x807 ← setI side (k:Int) (1 - x)
    let x808 ← getI z x
    let x809 ← getI vx (k:Int)
    let x810 ← setI z x (ws .i64 x808 x809)
    let x811 ← getI x810 (1 - x)
    let x812 ← getI vx (k:Int)
    let x813 ← setI x810 (1 - x) (wa .i64 x811 x812)
    some (Sum.inl (x807,x813,true,((k+1:Nat):Int)))) (VQ (fun t':LI×LI×Bool×Int=>k < adj.length∧t'.2.2.2=((k+1:Nat):Int)∧t'.1.length=adj.length∧S01 t'.1∧t'.2.1.length=2) (fun o:LI×LI×Bool=>o.1.length=adj.length∧S01 o.1∧o.2.1.length=2)):=by
   show Ret ((setI side (k:Int) (1 - x)).bind _) _
   rw [bindS (setI_lt n0)]
   show Ret ((getI z x).bind _) _
   rw [bindS q0]
   show Ret ((getI vx (k:Int)).bind _) _
   rw [bindS gv]
   show Ret ((setI z x _).bind _) _
   rw [bindS (oe _ n0 n0)]
   show Ret ((getI _ (1 - x)).bind _) _
   rw [bindS (q1 (by simp [h3]))]
   show Ret ((getI vx (k:Int)).bind _) _
   rw [bindS gv]
   show Ret ((setI _ (1 - x) _).bind _) _
   rw [bindS (oe _ n0 (by simp [h3]; omega)),K0,T0]
   exact ⟨ou,rfl,by simp [h1],h2.set n0,by simp [h3]⟩
  by_cases hg:0 < g
  ·rw [I0 hg,bindS (q1 h3),bindS gv,obs]
   split
   ·exact hm
   ·rw [K0,T0]; exact ⟨ou,rfl,h1,h2,h3⟩
  ·rw [J0 hg,obs,J0 G0,K0,T0]
   exact ⟨ou,rfl,h1,h2,h3⟩
 ·rw [A0,K0,E1]
  exact ⟨h1,h2,h3⟩
theorem Ux {adj:L2} (hG:Gr adj) (hn:adj.length≤200) (hv:vx.length=adj.length) (hs:side.length=adj.length) (zF:S01 side):∃ o,m_fi adj vx (onesE adj) side=some o∧o.length=adj.length∧S01 o:=by
 obtain ⟨z,z1,z2⟩:=Gw hn hs zF hv
 have ga:getI z 0=some (sd z 0):=Pl.getI_of n0 (z7 (v:=0) z2 n0)
 have gb:getI z 1=some (sd z 1):=Pl.getI_of n0 (z7 (v:=1) z2 n0)
 have hl:Ret (loop (m_fg adj (onesE adj) vx (sd z 0) (sd z 1)) (side,z,0)) (fun o=>(out1 o).length=adj.length∧S01 (out1 o)):=by
  refine Q0 4 (fun k (t:LI×LI×Int)=>t.2.2=k∧t.1.length=adj.length∧S01 t.1∧t.2.1.length=2) ⟨rfl,hs,zF,z2⟩ ?_
  rintro k ⟨s,z',i⟩ hk ⟨hi,h1,h2,h3⟩
  simp only at hi h1 h2 h3
  subst hi
  unfold m_fg
  simp only
  by_cases ou:k < 4
  ·have hw:wa .i64 (k:Int) 1=((k+1:Nat):Int):=wa1 n0
   obtain ⟨⟨s',z'',m⟩,p1,p2,p3,p4⟩:=Ny hG hn hv (sd z 0) (sd z 1) (L:=s) h1 (m:=false) h1 h2 h3
   simp only at p2 p3 p4
   rw [B0,bindS p1]
   simp only
   split
   ·rw [hw,K0,T0]; exact ⟨ou,rfl,p2,p3,p4⟩
   ·rw [K0,E1]; exact ⟨p2,p3⟩
  ·rw [A0,K0,E1]; exact ⟨h1,h2⟩
 obtain ⟨o,o1,o2,o3⟩:=hl
 refine ⟨_,?_,o2,o3⟩
 unfold m_fi
 rw [bindS z1,bindS ga,bindS gb,bindS o1]
 cases o<;>rfl
end
theorem Iw {adj:L2} (hG:Gr adj) (hn:adj.length≤8):∃ o,m_fk adj (List.replicate adj.length 1) (onesE adj)=some (o,true)∧o.length=adj.length∧S01 o:=by
 obtain ⟨s,s1,s2,s3⟩:=AA hG (vx:=List.replicate adj.length 1) G0 (onesE adj) n0
 obtain ⟨o,o1,o2,o3⟩:=Ux hG n0 (vx:=List.replicate adj.length 1) G0 s2 s3
 refine ⟨o,?_,o2,o3⟩
 unfold m_fk m_fj
 rw [bindS s1,J0 (by simp; omega),bindS o1]
end Pd
namespace Km
open Pl Sx Go M Vc
structure KB (R C:Nat) (E:L2):Prop where
 len:E.length=C
 rng:∀ (j:Nat) l,E[j]?=some l→∀ i,i∈l→0≤i∧i < (R:Int)
 sz:∀ (j:Nat) l,E[j]?=some l→l.length≤100000
def inE (E:L2) (c i:Nat):Prop:=∃ l,E[c]?=some l∧(i:Int)∈l
def mkd (m:BL) (i:Nat):Prop:=m[i]?=some true
structure Cs (R C:Nat) (E:L2) (a b:LI) (x:Int):Prop where
 al:a.length=C
 bl:b.length=R
 cr:∀ (i:Nat) c,b[i]?=some c→c≠-1→0≤c∧c < (C:Int)
 col:∀ (i:Nat) c,b[i]?=some c→c≠-1→(i:Int)≠x→a[c.toNat]?=some (i:Int)∧inE E c.toNat i
 row:∀ (c:Nat) i,a[c]?=some i→i≠-1→0≤i∧i < (R:Int)∧b[i.toNat]?=some (c:Int)∧i≠x
def Dead (E:L2) (b:LI) (D:Nat→Prop):Prop:=∀ i,D i→∃ c:Nat,b[i]?=some (c:Int)∧∀ i',inE E c i'→D i'
structure TryF (R:Nat) (E:L2) (a b:LI) (m:BL) (a' b':LI) (m':BL):Prop where
 ea:a'=a
 eb:b'=b
 new:∀ i,mkd m' i→¬ mkd m i→∃ c:Nat,b[i]?=some (c:Int)∧∀ i',inE E c i'→mkd m' i'
structure TryT (R C:Nat) (E:L2) (a b:LI) (m:BL) (j:Nat) (x:Int) (a' b':LI):Prop where
 cs:Cs R C E a' b' x
 at_:∃ i:Nat,a'[j]?=some (i:Int)
 ca:∀ c:Nat,c≠j→a'[c]?≠a[c]?→∃ i,¬ mkd m i∧b[i]?=some (c:Int)
 cb:∀ i,mkd m i→b'[i]?=b[i]?
 kb:∀ (i:Nat) c,b[i]?=some c→c≠-1→∃ c',b'[i]?=some c'∧c'≠-1
 ka:∀ (c:Nat) i,a[c]?=some i→i≠-1→∃ i',a'[c]?=some i'∧i'≠-1
structure TryO (R C:Nat) (E:L2) (a b:LI) (m:BL) (j:Nat) (x:Int) (o:LI×LI×BL×Bool):Prop where
 ml:o.2.2.1.length=R
 mono:∀ i,mkd m i→mkd o.2.2.1 i
 all:o.2.2.2=false→∀ i,inE E j i→mkd o.2.2.1 i
 f:o.2.2.2=false→TryF R E a b m o.1 o.2.1 o.2.2.1
 t:o.2.2.2=true→TryT R C E a b m j x o.1 o.2.1
 dead:∀ D:Nat→Prop,Dead E b D→((∀ i,inE E j i→D i)→o.2.2.2=false)∧∀ i,D i→o.2.1[i]?=b[i]?
theorem Mp {m:BL} {i k:Nat} (hi:i < m.length):mkd (m.set i true) k↔k=i∨mkd m k:=by
 unfold mkd
 rw [B3]
 by_cases h:i=k
 ·subst h; simp [hi]
 ·rw [J0 h]
  constructor
  ·exact .inr
  ·rintro (rfl | h')
   ·exact absurd rfl h
   ·exact h'
theorem Bc:∀ {m:BL} {i:Nat},m[i]?=some false→(m.set i true).count false+1=m.count false
 | [],i,h=>by simp at h
 | x::m,0,h=>by
  have:x=false:=by simpa using h
  subst this
  simp
 | x::m,i+1,h=>by
  have:=Bc (m:=m) (i:=i) (by simpa using h)
  rw [List.set_cons_succ,xj,xj]
  omega
theorem Er:∀ {m m':BL},m'.length=m.length→(∀ i:Nat,mkd m i→mkd m' i)→m'.count false≤m.count false
 | [],m',h,_=>by
  have:m'=[]:=P6 (by simpa using h)
  subst this; simp
 | x::m,m',h,hm=>by
  cases m' with
  | nil=>simp at h
  | cons y m'=>
   have h1:=Er (m:=m) (m':=m') (by simpa using h) (fun i hi=>by
    have:=hm (i+1) (by simpa [mkd] using hi)
    simpa [mkd] using this)
   have h2:=hm 0
   simp only [mkd,pj,w6] at h2
   rw [xj,xj]
   cases x<;>cases y<;>simp_all<;>omega
theorem eo {R C:Nat} {E:L2} {a b:LI} {m:BL} {j i:Nat} {x:Int} (Zw:Cs R C E a b (-1)) (hj:j < C) (hi:i < R) (hx:a[j]?=some x) (sG:x= -1∨mkd m x.toNat) (mH:¬ mkd m i) (TE:inE E j i)
  {a' b':LI} (hb:Cs R C E a' b' (if b[i]?=some (-1) then -1 else (i:Int))) (IK:a'[j]?=a[j]?) (wO:b'[i]?=b[i]?)
  (uO:∀ c:Nat,a'[c]?≠a[c]?→∃ i,¬ mkd m i∧b[i]?=some (c:Int)) (AJ:∀ i,mkd m i→b'[i]?=b[i]?)
  (mK:∀ (i:Nat) c,b[i]?=some c→c≠-1→∃ c',b'[i]?=some c'∧c'≠-1) (SH:∀ (c:Nat) i,a[c]?=some i→i≠-1→∃ i',a'[c]?=some i'∧i'≠-1):
  TryT R C E a b m j x (a'.set j (i:Int)) (b'.set i (j:Int)):=by
 have bD:=hb.al
 have VE:=hb.bl
 have mN:x≠(i:Int):=by
  rintro rfl
  rcases sG with h | h
  ·omega
  ·exact mH (by simpa using h)
 have hold:∀ r:Nat,b'[r]?=some (j:Int)→r≠i→(r:Int)=x:=by
  intro r hr vE
  have h1:(r:Int)≠(if b[i]?=some (-1) then -1 else (i:Int)):=by split<;>omega
  have h2:=(hb.col r j hr n0 h1).1
  simp only [H1] at h2
  rw [IK,hx] at h2
  exact (P1 h2).symm
 have XI:∀ (c:Nat) r,a'[c]?=some r→r≠-1→r=(i:Int)→False:=by
  intro c r hr XD vE
  obtain ⟨h1,h2,h3,h4⟩:=hb.row c r hr XD
  subst vE
  by_cases hf:b[i]?=some (-1)
  ·simp only [H1] at h3
   rw [wO,hf] at h3
   have:=P1 h3
   omega
  ·rw [J0 hf] at h4
   exact h4 rfl
 refine ⟨⟨by simp [bD],by simp [VE],fun r c hr hc=>?_,fun r c hr hc NN=>?_,fun c r hr XD=>?_⟩,⟨i,by simp [bD,hj]⟩,fun c hc Bu=>?_,fun r hr=>?_,fun r c hr hc=>?_,fun c r hr XD=>?_⟩
 ·rw [B3] at hr
  split at hr
  ·split at hr
   ·have:=P1 hr; omega
   ·cases hr
  ·exact hb.cr r c hr hc
 ·rw [B3] at hr
  by_cases vE:i=r
  ·subst vE
   rw [I0 rfl,B0] at hr
   have:=P1 hr
   subst this
   exact ⟨by simp [bD,hj],by simpa using TE⟩
  ·rw [J0 vE] at hr
   have h1:(r:Int)≠(if b[i]?=some (-1) then -1 else (i:Int)):=by split<;>omega
   obtain ⟨h2,h3⟩:=hb.col r c hr hc h1
   obtain ⟨h4,h5⟩:=hb.cr r c hr hc
   refine ⟨?_,h3⟩
   rw [B3]
   by_cases lE:j=c.toNat
   ·exfalso
    apply NN
    refine hold r ?_ (fun e=>vE e.symm)
    rw [hr]
    congr 1
    omega
   ·rw [J0 lE]; exact h2
 ·rw [B3] at hr
  by_cases lE:j=c
  ·subst lE
   rw [I0 rfl,B0] at hr
   have:=P1 hr
   subst this
   exact ⟨n0,n0,by simp [VE,hi],fun e=>mN e.symm⟩
  ·rw [J0 lE] at hr
   obtain ⟨h1,h2,h3,h4⟩:=hb.row c r hr XD
   have vE:r≠(i:Int):=fun e=>XI c r hr XD e
   refine ⟨h1,h2,?_,?_⟩
   ·rw [B3,A0]; exact h3
   ·rintro rfl
    have h5:=(Zw.row j r hx XD).2.2.1
    rcases sG with h | h
    ·exact XD h
    ·rw [← AJ _ h,h3] at h5
     have:=P1 h5
     omega
 ·refine uO c ?_
  rw [B3,J0 (fun e=>hc e.symm)] at Bu
  exact Bu
 ·rw [B3,J0]
  ·exact AJ r hr
  ·rintro rfl; exact mH hr
 ·rw [B3]
  by_cases vE:i=r
  ·subst vE
   exact ⟨j,by rw [I0 rfl,B0],n0⟩
  ·rw [J0 vE]; exact mK r c hr hc
 ·rw [B3]
  by_cases lE:j=c
  ·subst lE
   exact ⟨i,by rw [I0 rfl,B0],n0⟩
  ·rw [J0 lE]; exact SH c r hr XD
theorem Sv (k:Nat):m_fz (k+1)=m_fy (m_fz k):=by simp only [m_fz]
theorem Tv {R C:Nat} {E:L2} (hE:KB R C E):∀ (k:Nat) {a b:LI} {m:BL} {j:Nat} {x:Int},Cs R C E a b (-1)→m.length=R→j < C→a[j]?=some x→(x= -1∨mkd m x.toNat)→m.count false < k→
  Ret (m_fz k E a b m (j:Int)) (TryO R C E a b m j x):=by
 intro k
 induction k with
 | zero=>intros; omega
 | succ k ih=>
  intro a b m j x Zw Ev hj hx sG hk
  rw [Sv]
  unfold m_fy
  obtain ⟨l,hl⟩:∃ l,E[j]?=some l:=⟨E[j]'(by rw [hE.len]; exact hj),by simp [hE.len,hj]⟩
  have tF:getI E (j:Int)=some l:=hl
  have dG:=hE.rng j l hl
  have ax:=hE.sz j l hl
  have bD:=Zw.al
  have VE:=Zw.bl
  rw [bindS tF,O0]
  refine Y4 (P:=fun o=>match o with
   | .inl s=>TryO R C E a b m j x (s.1,s.2.1,s.2.2,false)
   | .inr s=>TryO R C E a b m j x (s.1,s.2.1,s.2.2,true)) ?_ ?_
  ·refine Q0 l.length (fun t (s:LI×LI×BL×Int)=>s.1=a∧s.2.1=b∧s.2.2.2=(t:Int)∧s.2.2.1.length=R∧(∀ i,mkd m i→mkd s.2.2.1 i)∧(∀ i:Nat,(i:Int)∈l.take t→mkd s.2.2.1 i)∧TryF R E a b m s.1 s.2.1 s.2.2.1)
    ⟨rfl,rfl,rfl,Ev,fun _ h=>h,fun i hi=>by simp at hi,rfl,rfl,fun i h1 h2=>absurd h1 h2⟩ ?_
   rintro t ⟨a',b',m',t'⟩ ht ⟨e1,e2,e3,sF,Eu,QH,hF⟩
   simp only at e1 e2 e3 sF Eu QH hF
   subst e1; subst e2; subst e3
   unfold m_fx m_fw
   simp only
   by_cases RE:t < l.length
   ·have hw:wa .i64 (t:Int) 1=((t+1:Nat):Int):=wa1 n0
    obtain ⟨i,hi⟩:∃ i:Nat,l[t]?=some (i:Int):=by
     have:=dG _ (Z1 RE)
     exact ⟨l[t].toNat,by rw [J2 RE]; congr 1; omega⟩
    have KF:getI l (t:Int)=some (i:Int):=hi
    have BG:i < R:=by have:=dG _ (X2 hi); omega
    have TE:inE E j i:=⟨l,hl,X2 hi⟩
    rw [B0,bindS KF,hw]
    obtain ⟨q,hq⟩:∃ q,m'[i]?=some q:=⟨m'[i]'(n0),by simp [sF,BG]⟩
    have YD:getI m' (i:Int)=some q:=hq
    rw [bindS YD]
    cases q with
    | true=>
     rw [I0 rfl,K0,T0]
     refine ⟨RE,rfl,rfl,rfl,sF,Eu,fun r hr=>?_,hF⟩
     rcases (mts hi).1 hr with h | h
     ·exact QH r h
     ·have:r=i:=n0
      subst this; exact hq
    | false=>
     have pL:¬ mkd m' i:=by unfold mkd; rw [hq]; simp
     have nJ:¬ mkd m i:=fun h=>pL (Eu i h)
     obtain ⟨c,hc⟩:∃ c,b'[i]?=some c:=⟨b'[i]'(n0),by simp [VE,BG]⟩
     have aI:getI b' (i:Int)=some c:=hc
     rw [J0 G0,bindS (setI_lt n0),bindS aI]
     have JE:∀ r,mkd (m'.set i true) r↔r=i∨mkd m' r:=fun r=>Mp n0
     have QG:=Bc hq
     have XH:=Er (m:=m) (m':=m') n0 Eu
     by_cases hf:c= -1
     ·subst hf
      rw [I0 rfl]
      rw [obs]
      simp only [if_true]
      rw [bindS (setI_lt n0),bindS (setI_lt n0),K0,E1]
      have hT:=eo (a':=a') (b':=b') Zw hj BG hx sG nJ TE (by rw [I0 hc]; exact Zw) rfl rfl (fun c h=>absurd rfl h) (fun _ _=>rfl) (fun i c h1 h2=>⟨c,h1,h2⟩) (fun c i h1 h2=>⟨i,h1,h2⟩)
      refine ⟨by simp [sF],fun r hr=>(JE r).2 (.inr (Eu r hr)),fun h=>(by cases h),fun h=>(by cases h),fun _=>hT,fun D hD=>?_⟩
      have GF:¬ D i:=by
       intro h
       obtain ⟨c,c1,_⟩:=hD i h
       rw [hc] at c1
       have:=P1 c1
       omega
      refine ⟨fun h=>absurd (h i TE) GF,fun r hr=>?_⟩
      simp only
      rw [B3,J0]
      rintro rfl; exact GF hr
     ·obtain ⟨cx,uv⟩:=Zw.cr i c hc hf
      obtain ⟨c,rfl⟩:∃ c':Nat,c=(c':Int):=⟨c.toNat,n0⟩
      obtain ⟨YE,vL⟩:=Zw.col i c hc hf n0
      simp only [H1] at YE vL
      rw [J0 hf,bindS aI,O0,O0]
      refine Y4 (ih (a:=a') (b:=b') (m:=m'.set i true) (j:=c) (x:=(i:Int)) Zw (by simp [sF]) n0 YE (.inr (by simpa using (JE i).2 (.inl rfl))) n0) ?_
      rintro ⟨a2,b2,m2,ok⟩ hO
      have o1:=hO.ml; have o2:=hO.mono; have o3:=hO.all; have o4:=hO.f; have o5:=hO.t; have o6:=hO.dead
      simp only at o1 o2 o3 o4 o5 o6
      simp only [K0]
      cases ok with
      | true=>
       have hT:=o5 rfl
       simp only [if_true]
       have XP:=hT.cs.al
       have YP:=hT.cs.bl
       have uK:j≠c:=by
        rintro rfl
        rw [YE] at hx
        have:=P1 hx
        rcases sG with h | h
        ·omega
        ·rw [← this] at h; exact nJ (by simpa using h)
       have IK:a2[j]?=a'[j]?:=by
        by_cases he:a2[j]?=a'[j]?
        ·exact he
        ·exfalso
         obtain ⟨r,r1,r2⟩:=hT.ca j uK he
         have h3:=(Zw.col r j r2 n0 n0).1
         simp only [H1] at h3
         rw [hx] at h3
         have:=P1 h3
         rcases sG with h | h
         ·omega
         ·rw [this] at h
          exact r1 ((JE r).2 (.inr (Eu r (by simpa using h))))
       rw [bindS (setI_lt n0),bindS (setI_lt n0),K0,E1]
       have EJ:=eo (a':=a2) (b':=b2) Zw hj BG hx sG nJ TE (by rw [J0 (by rw [hc]; intro h; have:=P1 h; omega)]; exact hT.cs) IK (hT.cb i ((JE i).2 (.inl rfl)))
        (fun c' h=>by
         by_cases ZH:c'=c
         ·subst ZH; exact ⟨i,nJ,hc⟩
         ·obtain ⟨r,r1,r2⟩:=hT.ca c' ZH h
          exact ⟨r,fun hr=>r1 ((JE r).2 (.inr (Eu r hr))),r2⟩)
        (fun r hr=>hT.cb r ((JE r).2 (.inr (Eu r hr)))) hT.kb hT.ka
       refine ⟨o1,fun r hr=>o2 r ((JE r).2 (.inr (Eu r hr))),fun h=>(by cases h),fun h=>(by cases h),fun _=>EJ,fun D hD=>?_⟩
       obtain ⟨d1,d2⟩:=o6 D hD
       have GF:¬ D i:=by
        intro h
        obtain ⟨c',c1,c3⟩:=hD i h
        rw [hc] at c1
        have:=P1 c1
        have:c'=c:=n0
        subst this
        have:=d1 c3
        cases this
       refine ⟨fun h=>absurd (h i TE) GF,fun r hr=>?_⟩
       simp only
       rw [B3,J0]
       ·exact d2 r hr
       ·rintro rfl; exact GF hr
      | false=>
       have nO:=o4 rfl
       obtain ⟨f1,f2,f3⟩:=nO
       subst f1; subst f2
       simp only [if_false,D2]
       rw [K0,T0]
       refine ⟨RE,rfl,rfl,rfl,o1,fun r hr=>o2 r ((JE r).2 (.inr (Eu r hr))),fun r hr=>?_,rfl,rfl,fun r r1 r2=>?_⟩
       ·rcases (mts hi).1 hr with h | h
        ·exact o2 r ((JE r).2 (.inr (QH r h)))
        ·have:r=i:=n0
         subst this; exact o2 r ((JE r).2 (.inl rfl))
       ·by_cases vE:r=i
        ·subst vE
         exact ⟨c,hc,o3 rfl⟩
        ·by_cases ZJ:mkd m' r
         ·obtain ⟨c',c1,c2⟩:=hF.new r ZJ r2
          exact ⟨c',c1,fun i' h=>o2 i' ((JE i').2 (.inr (c2 i' h)))⟩
         ·exact f3 r r1 (fun h=>((JE r).1 h).elim vE ZJ)
   ·rw [A0,K0,E1]
    rw [O3 n0] at QH
    refine ⟨sF,Eu,fun _ i hi=>?_,fun _=>hF,fun h=>(by cases h),fun D hD=>⟨fun _=>rfl,fun _ _=>rfl⟩⟩
    obtain ⟨l',h1,h2⟩:=hi
    rw [hl] at h1
    cases h1
    exact QH i h2
  ·rintro (⟨a',b',m'⟩ | ⟨a',b',m'⟩) h
   ·simp only [K0]; exact h
   ·simp only [K0]; exact h
def Fin (R C:Nat) (E:L2) (a b:LI) (D:Nat→Prop):Prop:=Cs R C E a b (-1)∧Dead E b D∧∀ c,c < C→a[c]?=some (-1)→∀ i,inE E c i→D i
theorem vq {n:Nat} (hn:n≤100000) (x:Int):m_fv (n:Int) x=some (List.replicate n x):=by
 unfold m_fv
 have h1:loop (m_fu (List.replicate n 0) x) (List.replicate n 0,0)=some (List.replicate n x):=by
  refine Ret.eq ?_
  refine Q0 n (fun k (t:LI×Int)=>t=(List.replicate k x++List.replicate (n - k) 0,(k:Int))) G0 ?_
  rintro k _ hk rfl
  unfold m_fu
  simp only
  by_cases ou:k < n
  ·have hw:wa .i64 (k:Int) 1=((k+1:Nat):Int):=wa1 n0
   rw [I0 (by simp; omega),bindS (setI_lt (by simp; omega)),hw,K0,T0]
   refine ⟨ou,?_⟩
   congr 1
   rw [gj _ _ G0,T5,Fb,show n - k=(n - (k+1))+1 by omega,ij,List.set_cons_zero,Nc,u7]
   rfl
  ·rw [J0 (by simp; omega),K0,E1,show k=n by omega]
   simp
 rw [bindS (G4 0 n n0),bindS h1]
theorem RB (n:Nat):(List.replicate n false).count false=n:=by simp
structure Mx (R C:Nat) (E:L2) (k:Nat) (a b:LI) (m:BL) (D:Nat→Prop):Prop where
 cs:Cs R C E a b (-1)
 dd:Dead E b D
 dn:∀ c,c < k→a[c]?=some (-1)→∀ i,inE E c i→D i
 td:∀ c,k≤c→c < C→a[c]?=some (-1)
theorem Cx {R C:Nat} {E:L2} {k:Nat} {a b:LI} {m0:BL} {D:Nat→Prop} (hM:Mx R C E k a b m0 D) (ou:k < C) {o:LI×LI×BL×Bool} (hO:TryO R C E a b (List.replicate R false) k (-1) o):∃ D',Mx R C E (k+1) o.1 o.2.1 o.2.2.1 D':=by
 obtain ⟨a',b',m',ok⟩:=o
 have Zw:=hM.cs
 have o3:=hO.all; have o4:=hO.f; have o5:=hO.t; have o6:=hO.dead
 simp only at o3 o4 o5 o6
 have Xw:∀ i,¬ mkd (List.replicate R false) i:=by
  intro i h
  have:=M8 (X2 h)
  cases this
 cases ok with
 | true=>
  obtain ⟨t1,t2,t3,t4,t5,t6⟩:=o5 rfl
  obtain ⟨_,d2⟩:=o6 D hM.dd
  simp only
  refine ⟨D,t1,fun i hi=>?_,fun c hc YE i hi=>?_,fun c h1 h2=>?_⟩
  ·obtain ⟨c,c1,c2⟩:=hM.dd i hi
   exact ⟨c,by rw [d2 i hi]; exact c1,c2⟩
  ·by_cases HG:c=k
   ·subst HG
    obtain ⟨r,r1⟩:=t2
    rw [YE] at r1
    have:=P1 r1
    omega
   ·obtain ⟨q,hq⟩:∃ q,a[c]?=some q:=⟨a[c]'(by rw [Zw.al]; omega),by simp [Zw.al,show c < C by omega]⟩
    by_cases HE:q= -1
    ·subst HE
     exact hM.dn c n0 hq i hi
    ·obtain ⟨q',h1,h2⟩:=t6 c q hq HE
     rw [YE] at h1
     exact absurd (P1 h1).symm h2
  ·have h3:=hM.td c n0 h2
   by_cases he:a'[c]?=a[c]?
   ·rw [he]; exact h3
   ·obtain ⟨r,r1,r2⟩:=t3 c n0 he
    have:=(Zw.col r c r2 n0 n0).1
    simp only [H1] at this
    rw [h3] at this
    have:=P1 this
    omega
 | false=>
  obtain ⟨f1,f2,f3⟩:=o4 rfl
  have f4:=o3 rfl
  subst f1; subst f2
  simp only
  refine ⟨fun i=>D i∨mkd m' i,Zw,fun i hi=>?_,fun c hc YE i hi=>?_,fun c h1 h2=>hM.td c n0 h2⟩
  ·rcases hi with h | h
   ·obtain ⟨c,c1,c2⟩:=hM.dd i h
    exact ⟨c,c1,fun i' h'=>.inl (c2 i' h')⟩
   ·obtain ⟨c,c1,c2⟩:=f3 i h (Xw i)
    exact ⟨c,c1,fun i' h'=>.inr (c2 i' h')⟩
  ·by_cases HG:c=k
   ·subst HG; exact .inr (f4 i hi)
   ·exact .inl (hM.dn c n0 YE i hi)
theorem Dx {R C:Nat} {E:L2}:Mx R C E 0 (List.replicate C (-1)) (List.replicate R (-1)) [] (fun _=>False):=
 ⟨⟨G0,G0,fun i c h1 h2=>absurd (M8 (X2 h1)) h2,fun i c h1 h2=>absurd (M8 (X2 h1)) h2,fun i c h1 h2=>absurd (M8 (X2 h1)) h2⟩,fun i h=>h.elim,fun c h=>n0,fun c h1 h2=>by simp [h2]⟩
theorem NA:∃ f,FUEL=f+100001:=⟨FUEL - 100001,by unfold FUEL; omega⟩
theorem xx {R C:Nat} {E:L2} (hE:KB R C E) (hR:R≤100000) (hC:C≤100000):
  Ret (loop (m_f0 (C:Int) (R:Int) E) (List.replicate C (-1),List.replicate R (-1),[],0)) (fun o=>∃ D,Fin R C E o.1 o.2.1 D):=by
 obtain ⟨f,hf⟩:=NA
 refine Q0 C (fun k (t:LI×LI×BL×Int)=>t.2.2.2=(k:Int)∧∃ D,Mx R C E k t.1 t.2.1 t.2.2.1 D) ⟨rfl,_,Dx⟩ ?_
 rintro k ⟨a,b,m,t⟩ hk ⟨e1,D,hM⟩
 simp only at e1 hM
 subst e1
 unfold m_f0
 simp only
 have Zw:=hM.cs
 by_cases ou:k < C
 ·have hw:wa .i64 (k:Int) 1=((k+1:Nat):Int):=wa1 n0
  rw [B0,bindS (G4 false R n0),O0]
  refine Y4 (Tv hE FUEL Zw G0 ou (hM.td k n0 ou) (.inl rfl) (by rw [RB]; omega)) ?_
  intro o hO
  rw [K0,hw,T0]
  exact ⟨ou,rfl,Cx hM ou hO⟩
 ·rw [A0,K0,E1]
  have:k=C:=n0
  subst this
  exact ⟨D,Zw,hM.dd,hM.dn⟩
def tr (l:BL) (i:Nat):Prop:=l[i]?=some true
structure Clo (E:L2) (a b:LI) (C:Nat) (X Y:Nat→Prop):Prop where
 s:∀ c,c < C→a[c]?=some (-1)→X c
 r:∀ c i,X c→inE E c i→Y i
 c:∀ (i c:Nat),Y i→b[i]?=some (c:Int)→X c
structure Rch (R C:Nat) (E:L2) (a b:LI) (rows cols:BL):Prop where
 rl:rows.length=R
 cl:cols.length=C
 clo:Clo E a b C (tr cols) (tr rows)
 lst:∀ X Y:Nat→Prop,Clo E a b C X Y→(∀ c,tr cols c→X c)∧∀ i,tr rows i→Y i
theorem de {l:BL} {i k:Nat} (hi:i < l.length):tr (l.set i true) k↔k=i∨tr l k:=Mp hi
structure Rw (R C:Nat) (E:L2) (a b:LI) (rows cols:BL) (todo:LI):Prop where
 rl:rows.length=R
 cl:cols.length=C
 td:∀ c,c∈todo→0≤c∧c < (C:Int)
 s:∀ c,c < C→a[c]?=some (-1)→tr cols c
 r:∀ c i,tr cols c→(c:Int)∉todo→inE E c i→tr rows i
 c:∀ (i c:Nat),tr rows i→b[i]?=some (c:Int)→tr cols c
 lst:∀ X Y:Nat→Prop,Clo E a b C X Y→(∀ c,tr cols c→X c)∧(∀ i,tr rows i→Y i)
 tc:∀ c:Nat,(c:Int)∈todo→tr cols c
 bd:todo.length+cols.count false≤C
theorem Rw.done {R C:Nat} {E:L2} {a b:LI} {rows cols:BL} (h:Rw R C E a b rows cols []):Rch R C E a b rows cols:=
 ⟨h.rl,h.cl,⟨h.s,fun c i h1 h2=>h.r c i h1 G0 h2,h.c⟩,h.lst⟩
structure Ri (R C:Nat) (E:L2) (a b:LI) (j:Nat) (p:LI) (rows cols:BL) (todo:LI) (B:Nat):Prop where
 rl:rows.length=R
 cl:cols.length=C
 td:∀ c,c∈todo→0≤c∧c < (C:Int)
 s:∀ c,c < C→a[c]?=some (-1)→tr cols c
 r:∀ c i,tr cols c→(c:Int)∉todo→c≠j→inE E c i→tr rows i
 rj:∀ i:Nat,(i:Int)∈p→tr rows i
 c:∀ (i c:Nat),tr rows i→b[i]?=some (c:Int)→tr cols c
 lst:∀ X Y:Nat→Prop,Clo E a b C X Y→(∀ c,tr cols c→X c)∧(∀ i,tr rows i→Y i)
 tc:∀ c:Nat,(c:Int)∈todo→tr cols c
 bd:todo.length+cols.count false≤B
 cj:tr cols j
theorem Ri.step {R C:Nat} {E:L2} {a b:LI} (Zw:Cs R C E a b (-1)) {j:Nat} {p:LI} {rows cols:BL} {todo:LI} {B:Nat} (h:Ri R C E a b j p rows cols todo B) {i:Nat} (hi:i < R) (TE:inE E j i) {c:Int} (hc:b[i]?=some c):
  (c= -1∨(∃ d:Nat,c=(d:Int)∧tr cols d)→Ri R C E a b j (p++[(i:Int)]) (rows.set i true) cols todo B)∧(∀ d:Nat,c=(d:Int)→d < C→cols[d]?=some false→∀ todo':LI,todo'.length=todo.length+1→(∀ x,x∈todo'↔x∈todo∨x=(d:Int))→Ri R C E a b j (p++[(i:Int)]) (rows.set i true) (cols.set d true) todo' B):=by
 have eB:=h.rl
 have Hv:=h.cl
 have hR:∀ k,tr (rows.set i true) k↔k=i∨tr rows k:=fun k=>de n0
 constructor
 ·intro ZH
  refine ⟨by simp [eB],Hv,h.td,h.s,fun c' i' h1 h2 h3 h4=>(hR i').2 (.inr (h.r c' i' h1 h2 h3 h4)),fun k hk=>(hR k).2 ?_,fun k c' h1 h2=>?_,fun X Y jG=>?_,h.tc,h.bd,h.cj⟩
  ·rcases I2.1 hk with hk | hk
   ·exact .inr (h.rj k hk)
   ·simp at hk; exact .inl n0
  ·rcases (hR k).1 h1 with rfl | h1
   ·rw [hc] at h2
    have:=P1 h2
    rcases ZH with h5 | ⟨d,h5,h6⟩
    ·omega
    ·have:d=c':=n0
     subst this; exact h6
   ·exact h.c k c' h1 h2
  ·obtain ⟨l1,l2⟩:=h.lst X Y jG
   refine ⟨l1,fun k hk=>?_⟩
   rcases (hR k).1 hk with rfl | hk
   ·exact jG.r j k (l1 j h.cj) TE
   ·exact l2 k hk
 ·intro d hd OP qO todo' RE jJ
  subst hd
  have hT:∀ k,tr (cols.set d true) k↔k=d∨tr cols k:=fun k=>de n0
  refine ⟨by simp [eB],by simp [Hv],fun x hx=>?_,fun c' h1 h2=>(hT c').2 (.inr (h.s c' h1 h2)),fun c' i' h1 h2 h3 h4=>(hR i').2 (.inr ?_),fun k hk=>(hR k).2 ?_,fun k c' h1 h2=>(hT c').2 ?_,fun X Y jG=>?_,fun c' Hu=>(hT c').2 ?_,?_,(hT j).2 (.inr h.cj)⟩
  ·rcases (jJ x).1 hx with hx | rfl
   ·exact h.td x hx
   ·omega
  ·have h5:c'≠d:=by
    rintro rfl
    exact h2 ((jJ _).2 (.inr rfl))
   rcases (hT c').1 h1 with h6 | h6
   ·exact absurd h6 h5
   ·exact h.r c' i' h6 (fun h7=>h2 ((jJ _).2 (.inl h7))) h3 h4
  ·rcases I2.1 hk with hk | hk
   ·exact .inr (h.rj k hk)
   ·simp at hk; exact .inl n0
  ·rcases (hR k).1 h1 with rfl | h1
   ·rw [hc] at h2
    have:=P1 h2
    exact .inl n0
   ·exact .inr (h.c k c' h1 h2)
  ·obtain ⟨l1,l2⟩:=h.lst X Y jG
   have EM:=jG.r j i (l1 j h.cj) TE
   refine ⟨fun k hk=>?_,fun k hk=>?_⟩
   ·rcases (hT k).1 hk with rfl | hk
    ·exact jG.c i k EM hc
    ·exact l1 k hk
   ·rcases (hR k).1 hk with rfl | hk
    ·exact EM
    ·exact l2 k hk
  ·rcases (jJ _).1 Hu with h5 | h5
   ·exact .inr (h.tc c' h5)
   ·exact .inl n0
  ·have:=Bc qO
   have:=h.bd
   omega
theorem Zx {R C:Nat} {E:L2} {a b:LI} {mm:BL} (Zw:Cs R C E a b (-1)) (hE:KB R C E) (hC:C≤100000) {j:Nat} {l:LI} (hl:E[j]?=some l) {rows cols:BL} {todo:LI} {B:Nat} (hB:B≤1000000) (h:Ri R C E a b j [] rows cols todo B):
  Ret (loop (m_f3 l (E,a,b,mm)) (rows,cols,todo,0)) (fun o=>Ri R C E a b j l o.1 o.2.1 o.2.2 B):=by
 have ax:=hE.sz j l hl
 refine Q0 l.length (fun k (t:BL×BL×LI×Int)=>t.2.2.2=(k:Int)∧Ri R C E a b j (l.take k) t.1 t.2.1 t.2.2.1 B) ⟨rfl,by simpa using h⟩ ?_
 rintro k ⟨r,c,q,t⟩ hk ⟨e1,hI⟩
 simp only at e1 hI
 subst e1
 unfold m_f3 m_f2
 simp only
 by_cases Cu:k < l.length
 ·have hw:wa .i64 (k:Int) 1=((k+1:Nat):Int):=wa1 n0
  obtain ⟨i,hi⟩:∃ i:Nat,l[k]?=some (i:Int):=by
   have:=hE.rng j l hl _ (Z1 Cu)
   exact ⟨l[k].toNat,by rw [J2 Cu]; congr 1; omega⟩
  have KF:getI l (k:Int)=some (i:Int):=hi
  have BG:i < R:=by have:=hE.rng j l hl _ (X2 hi); omega
  have TE:inE E j i:=⟨l,hl,X2 hi⟩
  have eB:=hI.rl
  have Hv:=hI.cl
  have VE:=Zw.bl
  have hq:=hI.bd
  obtain ⟨d,hd⟩:∃ d,b[i]?=some d:=⟨b[i]'(n0),by simp [VE,BG]⟩
  have kE:getI b (i:Int)=some d:=hd
  obtain ⟨s1,s2⟩:=hI.step Zw BG TE hd
  rw [← tks hi] at s1 s2
  rw [B0,bindS KF,bindS (setI_lt n0),bindS kE,hw]
  by_cases dE:d= -1
  ·rw [I0 dE,obs,J0 G0,K0,T0]
   exact ⟨Cu,rfl,s1 (.inl dE)⟩
  ·obtain ⟨d1,d2⟩:=Zw.cr i d hd dE
   obtain ⟨d,rfl⟩:∃ d':Nat,d=(d':Int):=⟨d.toNat,n0⟩
   rw [J0 dE]
   obtain ⟨z,hz⟩:∃ z,c[d]?=some z:=⟨c[d]'(n0),by simp [show d < c.length by omega]⟩
   have rG:getI c (d:Int)=some z:=hz
   rw [bindS rG,obs]
   cases z with
   | true=>
    rw [J0 G0,K0,T0]
    exact ⟨Cu,rfl,s1 (.inr ⟨d,rfl,hz⟩)⟩
   | false=>
    have aI:=Bc hz
    rw [I0 G0,bindS (setI_lt n0),bindS (app_small (by simp; omega)),K0,T0]
    exact ⟨Cu,rfl,s2 d rfl n0 hz _ G0 (fun x=>by simp)⟩
 ·rw [A0,K0,E1]
  rw [O3 n0] at hI
  exact hI
theorem Rw.enter {R C:Nat} {E:L2} {a b:LI} {rows cols:BL} {todo todo':LI} {j:Nat} (h:Rw R C E a b rows cols todo) (hj:(j:Int)∈todo) (hm:∀ x,x∈todo↔x∈todo'∨x=(j:Int)) (hl:todo'.length+1=todo.length):
  Ri R C E a b j [] rows cols todo' (C - 1):=by
 have:=h.bd
 refine ⟨h.rl,h.cl,fun c hc=>h.td c ((hm c).2 (.inl hc)),h.s,fun c i h1 h2 h3 h4=>h.r c i h1 (fun h5=>?_) h4,fun i hi=>by simp at hi,h.c,h.lst,fun c hc=>h.tc c ((hm _).2 (.inl hc)),n0,h.tc j hj⟩
 rcases (hm _).1 h5 with h6 | h6
 ·exact h2 h6
 ·exact h3 n0
theorem Ri.leave {R C:Nat} {E:L2} {a b:LI} {rows cols:BL} {todo:LI} {j:Nat} {l:LI} (hl:E[j]?=some l) {B:Nat} (hB:B+1≤C) (h:Ri R C E a b j l rows cols todo B):Rw R C E a b rows cols todo:=by
 have:=h.bd
 refine ⟨h.rl,h.cl,h.td,h.s,fun c i h1 h2 h4=>?_,h.c,h.lst,h.tc,n0⟩
 by_cases lE:c=j
 ·subst lE
  obtain ⟨l',e1,e2⟩:=h4
  rw [hl] at e1
  cases e1
  exact h.rj i e2
 ·exact h.r c i h1 h2 lE h4
theorem Yx {R C:Nat} {E:L2} {a b:LI} {mm:BL} (Zw:Cs R C E a b (-1)) (hE:KB R C E) (hC:C≤100000) {rows cols:BL} {todo:LI} (h:Rw R C E a b rows cols todo):
  Ret (loop (m_f4 (E,a,b,mm)) (rows,cols,todo)) (fun o=>Rch R C E a b o.1 o.2):=by
 refine Q0 C (fun k (t:BL×BL×LI)=>Rw R C E a b t.1 t.2.1 t.2.2∧t.2.2.length+t.2.1.count false+k≤C) ⟨h,by have:=h.bd; simpa using this⟩ ?_
 rintro k ⟨r,c,q⟩ hk ⟨hI,hb⟩
 simp only at hI hb
 unfold m_f4
 simp only
 cases q with
 | nil=>
  rw [J0 G0,K0,E1]
  exact hI.done
 | cons x q=>
  have hx:=hI.td x G0
  obtain ⟨j,rfl⟩:∃ j:Nat,x=(j:Int):=⟨x.toNat,n0⟩
  have VE:=hI.bd
  simp only [B4] at hb VE
  obtain ⟨l,hl⟩:∃ l,E[j]?=some l:=⟨E[j]'(by rw [hE.len]; omega),by simp [hE.len,show j < C by omega]⟩
  have tF:getI E (j:Int)=some l:=hl
  have kx:sli ((j:Int)::q) 1 ((((j:Int)::q).length:Nat):Int)=some q:=by
   unfold sli subL
   rw [I0 (by simp; omega)]
   simp
  have hg:getI ((j:Int)::q) 0=some (j:Int):=rfl
  rw [I0 G0,bindS hg,bindS kx,bindS tF,O0]
  have PE:=hI.enter (todo':=q) (j:=j) G0 (fun x=>by simp [or_comm]) G0
  have RO:Ri R C E a b j [] r c q (C - 1 - k):=⟨PE.rl,PE.cl,PE.td,PE.s,PE.r,PE.rj,PE.c,PE.lst,PE.tc,n0,PE.cj⟩
  refine Y4 (Zx Zw hE hC hl n0 RO) ?_
  rintro ⟨r2,c2,q2⟩ h2
  simp only at h2
  rw [K0,T0]
  have:=h2.bd
  exact ⟨n0,h2.leave hl n0,by simp only; omega⟩
theorem Xx {R C:Nat} {E:L2} {a b:LI} {mm:BL} (Zw:Cs R C E a b (-1)) (hC:C≤100000):
  Ret (loop (m_f6 (E,a,b,mm)) (List.replicate C false,[],0)) (fun o=>Rw R C E a b (List.replicate R false) o.1 o.2):=by
 have bD:=Zw.al
 have Xw:∀ (n i:Nat),¬ tr (List.replicate n false) i:=by
  intro n i h
  have:=M8 (X2 h)
  cases this
 refine Q0 C (fun k (t:BL×LI×Int)=>t.2.2=(k:Int)∧t.1.length=C∧(∀ c,tr t.1 c↔c < k∧a[c]?=some (-1))∧(∀ x,x∈t.2.1↔∃ c:Nat,x=(c:Int)∧c < k∧a[c]?=some (-1))∧t.2.1.length+t.1.count false≤C)
  ⟨rfl,G0,fun c=>⟨fun h=>absurd h (Xw _ _),fun h=>n0⟩,fun x=>⟨fun h=>by simp at h,fun ⟨c,_,h,_⟩=>n0⟩,G0⟩ ?_
 rintro k ⟨c,q,t⟩ hk ⟨e1,e2,e3,e4,e5⟩
 simp only at e1 e2 e3 e4 e5
 subst e1
 unfold m_f6 m_f5
 simp only
 by_cases ou:k < C
 ·have hw:wa .i64 (k:Int) 1=((k+1:Nat):Int):=wa1 n0
  obtain ⟨z,hz⟩:∃ z,a[k]?=some z:=⟨a[k]'(n0),by simp [bD,ou]⟩
  have rG:getI a (k:Int)=some z:=hz
  rw [B0,bindS rG,hw]
  by_cases mF:z= -1
  ·subst mF
   have iM:c[k]?=some false:=by
    have h1:¬ tr c k:=fun h=>by have:=(e3 k).1 h; omega
    unfold tr at h1
    rw [J2 n0] at h1 ⊢
    congr 1
    cases h2:c[k]<;>simp_all
   have oy:=Bc iM
   rw [I0 rfl,bindS (setI_lt n0),bindS (app_small (by simp; omega)),K0,T0]
   refine ⟨ou,rfl,by simp [e2],fun c'=>?_,fun x=>?_,by simp; omega⟩
   ·rw [de n0,e3]
    constructor
    ·rintro (rfl | h)
     ·exact ⟨n0,hz⟩
     ·exact ⟨n0,h.2⟩
    ·rintro ⟨h1,h2⟩
     by_cases h3:c'=k
     ·exact .inl h3
     ·exact .inr ⟨n0,h2⟩
   ·rw [I2,e4,Z2]
    constructor
    ·rintro (⟨c',h1,h2,h3⟩ | rfl)
     ·exact ⟨c',h1,n0,h3⟩
     ·exact ⟨k,rfl,n0,hz⟩
    ·rintro ⟨c',h1,h2,h3⟩
     by_cases h4:c'=k
     ·subst h4; exact .inr h1
     ·exact .inl ⟨c',h1,n0,h3⟩
  ·rw [J0 mF,K0,T0]
   refine ⟨ou,rfl,e2,fun c'=>?_,fun x=>?_,e5⟩
   ·simp only
    rw [e3]
    constructor
    ·rintro ⟨h1,h2⟩; exact ⟨n0,h2⟩
    ·rintro ⟨h1,h2⟩
     refine ⟨?_,h2⟩
     by_cases h3:c'=k
     ·subst h3; rw [hz] at h2; exact absurd (P1 h2) mF
     ·omega
   ·simp only
    rw [e4]
    constructor
    ·rintro ⟨c',h1,h2,h3⟩; exact ⟨c',h1,n0,h3⟩
    ·rintro ⟨c',h1,h2,h3⟩
     refine ⟨c',h1,?_,h3⟩
     by_cases h4:c'=k
     ·subst h4; rw [hz] at h3; exact absurd (P1 h3) mF
     ·omega
 ·rw [A0,K0,E1]
  have:k=C:=n0
  subst this
  refine ⟨G0,e2,fun x hx=>?_,fun c' h1 h2=>(e3 c').2 ⟨h1,h2⟩,fun c' i h1 h2 h3=>?_,fun i c' h1 h2=>absurd h1 (Xw _ _),fun X Y jG=>⟨fun c' h=>?_,fun i h=>absurd h (Xw _ _)⟩,fun c' h=>?_,e5⟩
  ·obtain ⟨c',h1,h2,h3⟩:=(e4 x).1 hx
   omega
  ·exact absurd ((e4 _).2 ⟨c',rfl,(e3 c').1 h1⟩) h2
  ·exact jG.s c' ((e3 c').1 h).1 ((e3 c').1 h).2
  ·obtain ⟨c'',h1,h2⟩:=(e4 _).1 h
   have:c''=c':=n0
   subst this
   exact (e3 c'').2 h2
structure Mat (R C:Nat) (E:L2) (a b:LI) (rows cols:BL):Prop where
 fin:∃ D,Fin R C E a b D
 rch:Rch R C E a b rows cols
theorem Vx {x1 x2:Int} {x3 x5 x7:LI} {R C:Nat} {E:L2} (hE:KB R C E) (hR:R≤100000) (hC:C≤100000) (h1:x1=(R:Int)) (h2:x2=(C:Int)) (QO:m_ft x1 x2 x3 x5 x7=some E):
  Ret (m_f7 x1 x2 x3 x5 x7) (fun o=>∃ a b mm,m_f1 x1 x2 x3 x5 x7=some (E,a,b,mm)∧Mat R C E a b o.1 o.2):=by
 subst h1; subst h2
 obtain ⟨⟨a,b,mm⟩,r1,D,r2⟩:=xx hE hR hC
 simp only at r2
 have hm:m_f1 (R:Int) (C:Int) x3 x5 x7=some (E,a,b,mm):=by
  unfold m_f1
  rw [bindS QO,bindS (vq hC _),bindS (vq hR _),bindS r1]
 obtain ⟨⟨c,q⟩,s1,s2⟩:=Xx (mm:=mm) (E:=E) r2.1 hC
 obtain ⟨⟨r',c'⟩,t1,t2⟩:=Yx (mm:=mm) r2.1 hE hC s2
 refine ⟨(r',c'),?_,a,b,mm,hm,⟨D,r2⟩,t2⟩
 unfold m_f7
 rw [bindS hm,bindS (G4 false R n0),bindS (G4 false C n0),bindS s1]
 simp only at t1 ⊢
 rw [bindS t1]
theorem Wp {l:BL} {v:Bool} (hl:l.length≤100000):m_ga l v=some (coll (fun i=>l[i]?=some v) l.length):=by
 unfold m_ga
 have h1:loop (m_f9 l v) ([],0)=some (coll (fun i=>l[i]?=some v) l.length):=by
  refine Ret.eq ?_
  refine Q0 l.length (fun k (t:LI×Int)=>t=(coll (fun i=>l[i]?=some v) k,(k:Int))) rfl ?_
  rintro k _ hk rfl
  unfold m_f9 m_f8
  simp only
  by_cases ou:k < l.length
  ·have hw:wa .i64 (k:Int) 1=((k+1:Nat):Int):=wa1 n0
   have Hv:=J6 (tm:=fun i=>l[i]?=some v) k
   rw [B0,bindS (getI_lt ou),hw]
   by_cases hv:l[k]=v
   ·rw [I0 (by simpa using hv),bindS (app_small (by simp; omega)),K0,T0]
    refine ⟨ou,?_⟩
    rw [coll,I0 (by rw [J2 ou,hv])]
   ·rw [J0 (by simpa using hv),K0,T0]
    refine ⟨ou,?_⟩
    rw [coll,J0 (by rw [J2 ou]; simpa using hv),I7]
  ·rw [A0,K0,E1,show k=l.length by omega]
 rw [bindS h1]
def off (E:L2) (j:Nat):Nat:=(E.take j).flatten.length
structure Mv (R C:Nat) (E:L2) (st ix vl:LI):Prop where
 len:E.length=C
 asc:∀ l,l∈E→l.Pairwise (· < ·)
 rng:∀ l,l∈E→∀ i,i∈l→0≤i∧i < (R:Int)
 ixe:ix=E.flatten
 sl:st.length=C+1
 ste:∀ j,j≤C→st[j]?=some (off E j:Int)
 vle:vl.length=ix.length
 fin:∀ v,v∈vl→m_di v=some false
theorem k9 {E:L2} {j:Nat} {l:LI} (h:E[j]?=some l):off E (j+1)=off E j+l.length:=by
 unfold off
 rw [tks h,j6,H2]
 simp
theorem Q9 {E:L2} {i j:Nat} (h:i≤j):off E i≤off E j:=by
 unfold off
 have:E.take i <+: E.take j:=by
  rw [show i=min i j by omega,← Jc]
  exact List.take_prefix _ _
 obtain ⟨t,ht⟩:=this
 rw [← ht,j6,H2]
 omega
theorem W7 (E:L2) {j:Nat}:off E j≤E.flatten.length:=by
 have h:=Q9 (E:=E) (i:=j) (j:=max j E.length) n0
 unfold off at h ⊢
 rw [P4 (l:=E) (i:=max j E.length) n0] at h
 exact h
theorem yp (E:L2):off E E.length=E.flatten.length:=by
 unfold off; rw [M6]
theorem Sa:∀ {E:L2} {j:Nat} {l:LI},E[j]?=some l→(E.flatten.take (off E (j+1))).drop (off E j)=l
 | [],j,l,h=>by simp at h
 | x::E,0,l,h=>by
  have:x=l:=by simpa using h
  subst this
  simp [off]
 | x::E,j+1,l,h=>by
  have h1:=Sa (E:=E) (j:=j) (l:=l) (by simpa using h)
  have e1:∀ j,off (x::E) (j+1)=x.length+off E j:=fun j=>by simp [off]
  rw [e1,e1,Hb,fD,mD]
  exact h1
theorem Mv.kb {R C:Nat} {E:L2} {st ix vl:LI} (h:Mv R C E st ix vl) (hR:R≤100000):KB R C E:=
 ⟨h.len,fun j l hl i hi=>h.rng l (X2 hl) i hi,fun j l hl=>by
  have:=asc_len (h.asc l (X2 hl)) (h.rng l (X2 hl))
  omega⟩
theorem Bi {R C:Nat} {E:L2} {st ix vl:LI} (h:Mv R C E st ix vl) (hC:C≤100000) (vJ:ix.length≤100000) (x1:Int):m_ft x1 (C:Int) st ix vl=some E:=by
 have hlen:=h.len
 have h1:loop (m_fs (List.replicate C []) st ix) (List.replicate C [],0)=some E:=by
  refine Ret.eq ?_
  refine Q0 C (fun k (t:L2×Int)=>t=(E.take k++List.replicate (C - k) [],(k:Int))) G0 ?_
  rintro k _ hk rfl
  unfold m_fs
  simp only
  by_cases ou:k < C
  ·have hw:wa .i64 (k:Int) 1=((k+1:Nat):Int):=wa1 n0
   have g1:getI st (k:Int)=some (off E k:Int):=h.ste k n0
   have g2:getI st ((k+1:Nat):Int)=some (off E (k+1):Int):=h.ste (k+1) n0
   have hl:E[k]?=some E[k]:=by simp [hlen,ou]
   have o1:=Q9 (E:=E) (i:=k) (j:=k+1) n0
   have o2:=W7 E (j:=k+1)
   have kx:sli ix (off E k:Int) (off E (k+1):Int)=some E[k]:=by
    unfold sli subL
    rw [I0 (by rw [h.ixe]; omega),h.ixe]
    simp only [H1]
    rw [Sa hl]
   rw [I0 (by simp; omega),bindS g1,hw,bindS g2,bindS kx,bindS (setI_lt (by simp; omega)),K0,T0]
   refine ⟨ou,?_⟩
   congr 1
   have:(E.take k).length=k:=by simp; omega
   rw [gj _ _ n0,this,Fb,show C - k=(C - (k+1))+1 by omega,ij,List.set_cons_zero,tks hl,u7]
   rfl
  ·rw [J0 (by simp; omega),K0,E1,O3 n0,show C - k=0 by omega]
   simp
 unfold m_ft
 rw [bindS (G4 ([]:LI) C n0),bindS h1]
theorem Bw {st:LI} (hl:st.length≤100000) (h:∀ k,∀ hk:k+1 < st.length,st[k]≤st[k+1]):m_dc st=some true:=by
 unfold m_dc
 cases st with
 | nil=>
  have h1:loop (m_db []) (ws .i64 (([]:LI).length:Int) 1)=some (.inl ()):=by
   refine Ret.eq ?_
   refine Q0 0 (fun k (t:Int)=>t= -1) (by rw [ws_in (by constructor<;>simp)]; rfl) ?_
   rintro k _ hk rfl
   unfold m_db
   rw [A0,K0,E1]
  rw [bindS h1]
 | cons x r=>
  have e0:ws .i64 (((x::r).length:Nat):Int) 1=(r.length:Int):=by
   simp only [B4] at hl ⊢
   rw [ws_in (by constructor<;>omega)]
   omega
  have eB:r.length≤100000:=by simp at hl; omega
  have h1:loop (m_db (x::r)) (ws .i64 (((x::r).length:Nat):Int) 1)=some (.inl ()):=by
   refine Ret.eq ?_
   refine Q0 r.length (fun k (t:Int)=>t=((r.length - k:Nat):Int)) (by rw [e0]; simp) ?_
   rintro k _ hk rfl
   unfold m_db
   simp only [B4] at hl
   by_cases ou:k < r.length
   ·have e1:ws .i64 ((r.length - k:Nat):Int) 1=((r.length - (k+1):Nat):Int):=by
     rw [ws_in (by constructor<;>omega)]
     omega
    have i1:r.length - k < (x::r).length:=by simp; omega
    have i2:r.length - (k+1) < (x::r).length:=by simp; omega
    have h2:=h (r.length - (k+1)) (by simp; omega)
    have h3:¬ (x::r)[r.length - k] < (x::r)[r.length - (k+1)]:=by
     have:(x::r)[r.length - (k+1)+1]'(by simp; omega)=(x::r)[r.length - k]:=by congr 1; omega
     rw [this] at h2
     omega
    rw [B0,bindS (getI_lt i1),e1,bindS (getI_lt i2),bindS (Yp _ _),J0 (by simpa using h3),K0,T0]
    exact ⟨ou,rfl⟩
   ·rw [A0,K0,E1]
  rw [bindS h1]
theorem dC {l:LI} {R:Nat} (h:l.Pairwise (· < ·)) (hr:∀ x,x∈l→0≤x∧x < (R:Int)) (hl:l.length≤100000):loop (m_dd l (R:Int)) (-1,0)=some (.inl ()):=by
 refine Ret.eq ?_
 refine Q0 l.length (fun k (t:Int×Int)=>t.2=(k:Int)∧(t.1= -1∨(0 < k∧l[k - 1]?=some t.1))∧(k=0→t.1= -1)) ⟨rfl,.inl rfl,fun _=>rfl⟩ ?_
 rintro k ⟨a,b⟩ hk ⟨e1,e2,e3⟩
 simp only at e1 e2 e3
 subst e1
 unfold m_dd
 simp only
 by_cases ou:k < l.length
 ·have hw:wa .i64 (k:Int) 1=((k+1:Nat):Int):=wa1 n0
  have hx:=hr _ (Z1 ou)
  have hlt:a < l[k]:=by
   rcases e2 with h1 | ⟨h1,h2⟩
   ·omega
   ·rw [J2 n0] at h2
    have:=y9 h (i:=k - 1) (j:=k) ou n0
    have:=P1 h2
    omega
  have hc:¬ ((decide (l[k]≤a)) || (decide ((R:Int)≤l[k])))=true:=by
   simp only [U5,decide_eq_true_eq]
   omega
  rw [B0,bindS (getI_lt ou),J0 hc,hw,K0,T0]
  exact ⟨ou,rfl,.inr ⟨n0,G0⟩,fun h=>n0⟩
 ·rw [A0,K0,E1]
theorem lz {vl:LI} (h:∀ v,v∈vl→m_di v=some false) (hl:vl.length≤100000):m_dl vl=some false:=by
 have h1:loop (m_dj vl) 0=some (.inl ()):=by
  refine Ret.eq ?_
  refine Q0 vl.length (fun k (t:Int)=>t=(k:Int)) rfl ?_
  rintro k _ hk rfl
  unfold m_dj
  by_cases ou:k < vl.length
  ·have hw:wa .i64 (k:Int) 1=((k+1:Nat):Int):=wa1 n0
   rw [B0,bindS (getI_lt ou),bindS (h _ (Z1 ou)),J0 G0,hw,K0,T0]
   exact ⟨ou,rfl⟩
  ·rw [A0,K0,E1]
 unfold m_dl m_dk
 rw [bindS h1]
 rfl
theorem Ih {R C:Nat} {E:L2} {st ix vl:LI} (h:Mv R C E st ix vl) (hR:R≤200) (hC:C≤200) (vJ:ix.length≤10000):m_dm (R:Int) (C:Int) st ix vl=some 0:=by
 have hlen:=h.len
 have kx:=h.sl
 have w1:m_c8 (R:Int) 0 200=some true:=by
  unfold m_c8
  have a1:decide ((0:Int)≤(R:Int))=true:=by simp
  have a2:decide ((R:Int)≤200)=true:=by simp; omega
  rw [a1,a2]; rfl
 have w2:m_c8 (C:Int) 0 200=some true:=by
  unfold m_c8
  have a1:decide ((0:Int)≤(C:Int))=true:=by simp
  have a2:decide ((C:Int)≤200)=true:=by simp; omega
  rw [a1,a2]; rfl
 have rE:loop (m_de (C:Int) st ix (R:Int)) 0=some (.inl ()):=by
  refine Ret.eq ?_
  refine Q0 C (fun k (t:Int)=>t=(k:Int)) rfl ?_
  rintro k _ hk rfl
  unfold m_de
  by_cases ou:k < C
  ·have hw:wa .i64 (k:Int) 1=((k+1:Nat):Int):=wa1 n0
   have g1:getI st (k:Int)=some (off E k:Int):=h.ste k n0
   have g2:getI st ((k+1:Nat):Int)=some (off E (k+1):Int):=h.ste (k+1) n0
   have hl:E[k]?=some E[k]:=by simp [hlen,ou]
   have o1:=Q9 (E:=E) (i:=k) (j:=k+1) n0
   have o2:=W7 E (j:=k+1)
   have kx:sli ix (off E k:Int) (off E (k+1):Int)=some E[k]:=by
    unfold sli subL
    rw [I0 (by rw [h.ixe]; omega),h.ixe]
    simp only [H1]
    rw [Sa hl]
   have hm:=Z1 (l:=E) (n:=k) n0
   have:=asc_len (h.asc _ hm) (h.rng _ hm)
   rw [B0,bindS g1,hw,bindS g2,bindS kx,bindS (dC (h.asc _ hm) (h.rng _ hm) n0),K0,T0]
   exact ⟨ou,rfl⟩
  ·rw [A0,K0,E1]
 have g0:getI st 0=some 0:=by
  have:=h.ste 0 n0
  exact this
 have gC:getI st (C:Int)=some (ix.length:Int):=by
  have:=h.ste C n0
  rw [← hlen,yp,← h.ixe] at this
  rw [← hlen]
  exact this
 have iL:m_dc st=some true:=by
  refine Bw n0 fun k hk=>?_
  have a1:=h.ste k n0
  have a2:=h.ste (k+1) n0
  rw [J2 n0] at a1 a2
  have:=P1 a1
  have:=P1 a2
  have:=Q9 (E:=E) (i:=k) (j:=k+1) n0
  omega
 have KE:m_df (R:Int) (C:Int) st ix vl=some true:=by
  unfold m_df
  have hw:wa .i64 (C:Int) 1=((C+1:Nat):Int):=wa1 n0
  rw [hw,B0,bindS g0,obs]
  simp only [decide_true,U4]
  rw [J0 G0,bindS iL,obs]
  simp only [U4]
  rw [J0 G0,bindS gC,obs]
  simp only [decide_true,U4]
  rw [J0 G0,obs,h.vle]
  simp only [decide_true,U4]
  rw [J0 G0,bindS rE]
 unfold m_dm
 rw [bindS w1,I0 rfl,bindS w2,obs]
 have hc:¬ ((!true) || (decide ((10000:Int) < (ix.length:Int))))=true:=by
  simp only [U5,decide_eq_true_eq,U4]
  rintro (h | h)
  ·cases h
  ·omega
 rw [J0 hc,bindS KE,I0 rfl,bindS (lz h.fin (by have:=h.vle; omega)),J0 G0]
theorem Zy:m_di 4607182418800017408=some false:=H0
open Pd
theorem Uy {n:Nat} {side:LI} (hs:side.length=n) (s:Int) {l:LI} (hr:∀ x,x∈l→0≤x∧x < (n:Int)) (hl:l.length≤100000):∃ b,m_fo l side s=some b∧(b=true↔∃ x,x∈l∧sd side x.toNat≠s):=by
 have h1:Ret (loop (m_fm l side s) 0) (fun o=>match o with | .inl ()=>∀ x,x∈l→sd side x.toNat=s | .inr i=>0≤i∧∃ x,x∈l∧sd side x.toNat≠s):=by
  refine Q0 l.length (fun k (t:Int)=>t=(k:Int)∧∀ x,x∈l.take k→sd side x.toNat=s) ⟨rfl,fun x hx=>by simp at hx⟩ ?_
  rintro k t hk ⟨rfl,hI⟩
  unfold m_fm m_fl
  by_cases ou:k < l.length
  ·have hw:wa .i64 (k:Int) 1=((k+1:Nat):Int):=wa1 n0
   have hx:=hr _ (Z1 ou)
   have hg:getI side l[k]=some (sd side l[k].toNat):=Pl.getI_of hx.1 (z7 hs n0)
   rw [B0,bindS (getI_lt ou),bindS hg,obs]
   by_cases he:sd side l[k].toNat=s
   ·rw [J0 (by simp [he]),hw,K0,T0]
    refine ⟨ou,rfl,fun x hx=>?_⟩
    rcases (mts (J2 ou)).1 hx with h | rfl
    ·exact hI x h
    ·exact he
   ·rw [I0 (by simp [he]),K0,E1]
    exact ⟨n0,_,Z1 ou,he⟩
  ·rw [A0,K0,E1]
   rw [O3 n0] at hI
   exact hI
 obtain ⟨o,o1,o2⟩:=h1
 unfold m_fo m_fn
 rw [bindS o1]
 rcases o with ⟨⟩ | i
 ·simp only at o2
  refine ⟨_,rfl,?_⟩
  constructor
  ·intro h; simp at h
  ·rintro ⟨x,hx,h⟩; exact absurd (o2 x hx) h
 ·simp only at o2
  refine ⟨_,rfl,?_⟩
  constructor
  ·intro _; exact o2.2
  ·intro _; simpa using o2.1
def Bd (adj:L2) (side:LI) (s:Int) (v:Nat):Prop:=sd side v=s∧∃ u,nbp adj v u∧sd side u≠s
open Classical in
noncomputable def bor (adj:L2) (side:LI) (s:Int):LI:=coll (fun v=>Bd adj side s v) adj.length
open Classical in
theorem ks {adj:L2} (hG:Gr adj) (hn:adj.length≤1000) {side:LI} (hs:side.length=adj.length) (s:Int):m_fr adj side s=some (bor adj side s):=by
 unfold m_fr
 have h1:loop (m_fq adj side s) ([],0)=some (bor adj side s):=by
  refine Ret.eq ?_
  refine Q0 adj.length (fun k (t:LI×Int)=>t=(coll (fun v=>Bd adj side s v) k,(k:Int))) rfl ?_
  rintro k _ hk rfl
  unfold m_fq m_fp
  simp only
  by_cases ou:k < adj.length
  ·have hw:wa .i64 (k:Int) 1=((k+1:Nat):Int):=wa1 n0
   have hl:adj[k]?=some adj[k]:=J2 ou
   have XJ:getI side (k:Int)=some (sd side k):=z7 hs ou
   obtain ⟨b,b1,b2⟩:=Uy hs s (l:=adj[k]) (fun x hx=>by have:=hG.rng k _ x hl hx; omega) (by have:=hG.len hl; omega)
   have Hv:=J6 (tm:=fun v=>Bd adj side s v) k
   rw [B0,bindS (getI_lt ou),bindS XJ,hw]
   have hb:∀ (c:Prop) [Decidable c],(c↔Bd adj side s k)→Ret (if c then (app (coll (fun v=>Bd adj side s v) k) [(k:Int)]).bind fun x70=>some (Sum.inl (x70,((k+1:Nat):Int))) else some (Sum.inl (coll (fun v=>Bd adj side s v) k,((k+1:Nat):Int)))) (VQ (fun t'=>k < adj.length∧t'=(coll (fun v=>Bd adj side s v) (k+1),((k+1:Nat):Int))) fun y=>y=bor adj side s):=by
    intro c _ hc
    by_cases h:c
    ·rw [I0 h,bindS (app_small (by simp; omega)),K0,T0]
     refine ⟨ou,?_⟩
     rw [coll,I0 (hc.1 h)]
    ·rw [J0 h,K0,T0]
     refine ⟨ou,?_⟩
     rw [coll,J0 (fun h'=>h (hc.2 h')),I7]
   by_cases lJ:sd side k=s
   ·rw [I0 lJ,bindS b1,obs]
    refine hb (b=true) ?_
    rw [b2]
    constructor
    ·rintro ⟨x,hx,h⟩
     have:=hG.rng k _ x hl hx
     exact ⟨lJ,x.toNat,⟨_,hl,by rw [z8 this.1]; exact hx⟩,h⟩
    ·rintro ⟨_,u,⟨l,l1,l2⟩,h⟩
     rw [hl] at l1
     cases l1
     exact ⟨u,l2,by simpa using h⟩
   ·rw [J0 lJ,obs]
    refine hb (false=true) ?_
    exact ⟨fun h=>(by cases h),fun h=>absurd h.1 lJ⟩
  ·rw [A0,K0,E1,show k=adj.length by omega]
   rfl
 rw [bindS h1]
theorem Ji {adj:L2} {side:LI} {s x:Int}:x∈bor adj side s↔0≤x∧x.toNat < adj.length∧Bd adj side s x.toNat:=by classical exact H4 _
theorem ns (adj:L2) (side:LI) (s:Int):(bor adj side s).length≤adj.length:=by classical exact J6 _
def rowP (adj:L2) (rs:LI) (v:Int) (i:Nat):Prop:=∃ u:Nat,rs[i]?=some (u:Int)∧nbp adj v.toNat u
open Classical in
noncomputable def colE (adj:L2) (rs:LI) (v:Int):LI:=coll (fun i=>rowP adj rs v i) rs.length
noncomputable def tabE (adj:L2) (rs cs:LI):L2:=cs.map (colE adj rs)
def ONE:Int:=4607182418800017408
theorem Nr (adj:L2) (rs:LI) (v:Int):(colE adj rs v).length≤rs.length:=by classical exact J6 _
theorem Mr {adj:L2} {rs:LI} {v x:Int}:x∈colE adj rs v↔0≤x∧x.toNat < rs.length∧rowP adj rs v x.toNat:=by classical exact H4 _
theorem ai (adj:L2) (rs:LI):∀ cs:LI,(tabE adj rs cs).flatten.length≤cs.length*rs.length
 | []=>by simp [tabE]
 | v::cs=>by
  have h1:=ai adj rs cs
  have h2:=Nr adj rs v
  simp only [tabE,F7,Hb,H2,B4] at h1 ⊢
  rw [Us]
  omega
open Classical in
theorem aC {adj:L2} (hG:Gr adj) (hn:adj.length≤200) {rs:LI} (eB:rs.length≤200) (hr:∀ x,x∈rs→0≤x∧x < (adj.length:Int)) {v:Int} (hv:0≤v∧v < (adj.length:Int)) {ix vl:LI} (h1:ix.length≤100000) (h2:vl.length≤100000):
  loop (m_gf rs adj v) (ix,vl,0)=some (ix++colE adj rs v,vl++List.replicate (colE adj rs v).length ONE):=by
 refine Ret.eq ?_
 refine Q0 rs.length (fun k (t:LI×LI×Int)=>t=(ix++coll (fun i=>rowP adj rs v i) k,vl++List.replicate (coll (fun i=>rowP adj rs v i) k).length ONE,(k:Int))) (by simp [coll]) ?_
 rintro k _ hk rfl
 unfold m_gf m_ge
 simp only
 by_cases ou:k < rs.length
 ·have hw:wa .i64 (k:Int) 1=((k+1:Nat):Int):=wa1 n0
  have hx:=hr _ (Z1 ou)
  obtain ⟨l,hl⟩:∃ l,adj[v.toNat]?=some l:=⟨adj[v.toNat]'(n0),by simp [show v.toNat < adj.length by omega]⟩
  have tF:getI adj v=some l:=Pl.getI_of hv.1 hl
  have ax:=hG.len hl
  obtain ⟨i,hi⟩:=Eo (hG.asc _ _ hl) n0 rs[k]
  have Hv:=J6 (tm:=fun i=>rowP adj rs v i) k
  have cF:rs[k]∈l↔rowP adj rs v k:=by
   constructor
   ·intro h
    exact ⟨rs[k].toNat,by rw [J2 ou]; congr 1; omega,l,hl,by rw [z8 hx.1]; exact h⟩
   ·rintro ⟨u,u1,l',l1,l2⟩
    rw [J2 ou] at u1
    rw [hl] at l1
    cases l1
    rw [P1 u1]
    exact l2
  rw [B0,bindS (getI_lt ou),bindS tF,bindS hi,hw]
  simp only
  by_cases hm:rs[k]∈l
  ·rw [decide_eq_true hm,I0 rfl,bindS (app_small (by simp; omega)),bindS (app_small (by simp; omega)),K0,T0]
   refine ⟨ou,?_⟩
   rw [coll,I0 (cF.1 hm)]
   simp [Nc,u7,ONE]
  ·rw [decide_eq_false hm,J0 G0,K0,T0]
   refine ⟨ou,?_⟩
   rw [coll,J0 (fun h=>hm (cF.2 h)),I7]
 ·rw [A0,K0,E1,show k=rs.length by omega]
  rfl
theorem Dz {adj:L2} (hG:Gr adj) (hn:adj.length≤200) {rs cs:LI} (eB:rs.length≤200) (Hv:cs.length≤200) (hr:∀ x,x∈rs→0≤x∧x < (adj.length:Int)) (hc:∀ x,x∈cs→0≤x∧x < (adj.length:Int)):
  Ret (loop (m_gg cs rs adj) ([0],[],[],0)) (fun o=>Mv rs.length cs.length (tabE adj rs cs) o.1 o.2.1 o.2.2∧o.2.2=List.replicate o.2.1.length ONE):=by
 refine Q0 cs.length (fun k (t:LI×LI×LI×Int)=>t.2.2.2=(k:Int)∧t.1.length=k+1∧(∀ j,j≤k→t.1[j]?=some (off (tabE adj rs cs) j:Int))∧t.2.1=((tabE adj rs cs).take k).flatten∧t.2.2.1=List.replicate t.2.1.length ONE)
  ⟨rfl,rfl,fun j hj=>(by have h:j=0:=n0; subst h; simp [off]),G0,G0⟩ ?_
 rintro k ⟨st,ix,vl,t⟩ hk ⟨e1,e2,e3,e4,e5⟩
 simp only at e1 e2 e3 e4 e5
 subst e1
 unfold m_gg
 simp only
 have DG:=ai adj rs cs
 have hm:cs.length*rs.length≤200*200:=F5 Hv eB
 have dK:=W7 (tabE adj rs cs) (j:=k)
 have NF:ix.length=off (tabE adj rs cs) k:=by rw [e4]; rfl
 by_cases ou:k < cs.length
 ·have hw:wa .i64 (k:Int) 1=((k+1:Nat):Int):=wa1 n0
  have hx:=hc _ (Z1 ou)
  have hE:(tabE adj rs cs)[k]?=some (colE adj rs cs[k]):=by simp [tabE,ou]
  have ZL:=k9 hE
  have FL:=Nr adj rs cs[k]
  rw [B0,bindS (getI_lt ou),bindS (aC hG hn eB hr hx n0 (by rw [e5]; simp; omega))]
  simp only
  rw [bindS (app_small (by simp; omega)),hw,K0,T0]
  refine ⟨ou,rfl,by simp [e2],fun j hj=>?_,?_,?_⟩
  ·simp only
   by_cases AG:j≤k
   ·rw [O6 n0]; exact e3 j AG
   ·have:j=k+1:=n0
    subst this
    rw [F9 n0,e2,Fb]
    simp only [pj,H2]
    congr 1
    omega
  ·simp only
   rw [tks hE,j6,e4]
   simp
  ·simp only
   rw [H2,e5,jj]
 ·rw [A0,K0,E1]
  have:k=cs.length:=n0
  subst this
  have hlen:(tabE adj rs cs).length=cs.length:=by simp [tabE]
  refine ⟨⟨hlen,fun l hl=>?_,fun l hl i hi=>?_,?_,e2,e3,by rw [e5]; simp,fun v hv=>?_⟩,e5⟩
  ·simp only [tabE,Z5] at hl
   obtain ⟨v,_,rfl⟩:=hl
   classical exact ia _
  ·simp only [tabE,Z5] at hl
   obtain ⟨v,_,rfl⟩:=hl
   have:=Mr.1 hi
   omega
  ·simp only
   rw [e4,P4 n0]
  ·rw [e5] at hv
   rw [M8 hv]
   exact Zy
theorem Pp {r:LI×LI×Int} {rs:LI} {n:Nat} (hc:r.1.length≤100000) (h1:∀ x,x∈r.1→0≤x∧x < (rs.length:Int)) (h2:∀ x,x∈rs→0≤x∧x < (n:Int)) {ch:BL} (hl:ch.length=n):
  Ret (loop (m_gd r rs) (ch,0)) (fun o=>o.length=n∧∀ v:Nat,tr o v↔tr ch v∨∃ i,i∈r.1∧rs[i.toNat]?=some (v:Int)):=by
 refine Q0 r.1.length (fun k (t:BL×Int)=>t.2=(k:Int)∧t.1.length=n∧∀ v:Nat,tr t.1 v↔tr ch v∨∃ i,i∈r.1.take k∧rs[i.toNat]?=some (v:Int)) ⟨rfl,hl,fun v=>by simp⟩ ?_
 rintro k ⟨c,t⟩ hk ⟨e1,e2,e3⟩
 simp only at e1 e2 e3
 subst e1
 unfold m_gd
 simp only
 by_cases ou:k < r.1.length
 ·have hw:wa .i64 (k:Int) 1=((k+1:Nat):Int):=wa1 n0
  have hx:=h1 _ (Z1 ou)
  have hi:r.1[k]?=some r.1[k]:=J2 ou
  obtain ⟨u,hu⟩:∃ u:Nat,rs[r.1[k].toNat]?=some (u:Int):=by
   have h3:=h2 _ (Z1 (l:=rs) (n:=r.1[k].toNat) n0)
   exact ⟨rs[r.1[k].toNat].toNat,by rw [J2 n0]; congr 1; omega⟩
  have bH:=h2 _ (X2 hu)
  rw [B0,bindS (getI_lt ou),bindS (Pl.getI_of hx.1 hu),bindS (setI_lt n0),hw,K0,T0]
  refine ⟨ou,rfl,by simp [e2],fun v=>?_⟩
  simp only
  rw [de n0,e3]
  constructor
  ·rintro (rfl | h | ⟨i,i1,i2⟩)
   ·exact .inr ⟨_,(mts hi).2 (.inr rfl),hu⟩
   ·exact .inl h
   ·exact .inr ⟨i,(mts hi).2 (.inl i1),i2⟩
  ·rintro (h | ⟨i,i1,i2⟩)
   ·exact .inr (.inl h)
   ·rcases (mts hi).1 i1 with i1 | rfl
    ·exact .inr (.inr ⟨i,i1,i2⟩)
    ·rw [hu] at i2
     exact .inl (by have:=P1 i2; omega)
 ·rw [A0,K0,E1]
  rw [O3 n0] at e3
  exact ⟨e2,e3⟩
theorem Fz {r:LI×LI×Int} {rs:LI} {n:Nat} (hc:r.2.1.length≤100000) (h1:∀ x,x∈r.2.1→0≤x∧x < (rs.length:Int)) (h2:∀ x,x∈rs→0≤x∧x < (n:Int)) {ch:BL} (hl:ch.length=n):
  Ret (loop (m_gc r rs) (ch,0)) (fun o=>o.length=n∧∀ v:Nat,tr o v↔tr ch v∨∃ i,i∈r.2.1∧rs[i.toNat]?=some (v:Int)):=
 Pp (r:=(r.2.1,[],0)) hc h1 h2 hl
structure Cov (adj:L2) (side:LI) (ch:BL):Prop where
 len:ch.length=adj.length
 mt:∃ a b rows cols mm,(∀ st ix vl,Mv (bor adj side 0).length (bor adj side 1).length (tabE adj (bor adj side 0) (bor adj side 1)) st ix vl→ix.length≤10000→m_f1 ((bor adj side 0).length:Int) ((bor adj side 1).length:Int) st ix vl=some (tabE adj (bor adj side 0) (bor adj side 1),a,b,mm))∧
  Mat (bor adj side 0).length (bor adj side 1).length (tabE adj (bor adj side 0) (bor adj side 1)) a b rows cols∧
  ∀ v:Nat,tr ch v↔(∃ i:Nat,tr rows i∧(bor adj side 0)[i]?=some (v:Int))∨∃ j:Nat,cols[j]?=some false∧(bor adj side 1)[j]?=some (v:Int)
theorem Cov.ex {adj:L2} {side:LI} {ch:BL} (h:Cov adj side ch):∃ a b rows cols,Mat (bor adj side 0).length (bor adj side 1).length (tabE adj (bor adj side 0) (bor adj side 1)) a b rows cols∧
  ∀ v:Nat,tr ch v↔(∃ i:Nat,tr rows i∧(bor adj side 0)[i]?=some (v:Int))∨∃ j:Nat,cols[j]?=some false∧(bor adj side 1)[j]?=some (v:Int):=by
 obtain ⟨a,b,rows,cols,_,_,h1,h2⟩:=h.mt
 exact ⟨a,b,rows,cols,h1,h2⟩
theorem Ez {R C:Nat} {E:L2} {st ix vl st' ix' vl':LI} (h:Mv R C E st ix vl) (h':Mv R C E st' ix' vl') (hC:C≤100000) (hx:ix.length≤10000) (pv:ix'.length≤10000):m_f1 (R:Int) (C:Int) st ix vl=m_f1 (R:Int) (C:Int) st' ix' vl':=by
 unfold m_f1
 rw [Bi h hC n0,Bi h' hC n0]
theorem QB {adj:L2} (hG:Gr adj) (hn:adj.length≤100) {side:LI} (hs:side.length=adj.length):Ret (m_gh adj side) (Cov adj side):=by
 unfold m_gh
 have l1:=ns adj side 0
 have l2:=ns adj side 1
 have r1:∀ s x,x∈bor adj side s→0≤x∧x < (adj.length:Int):=fun s x hx=>by have:=Ji.1 hx; omega
 obtain ⟨⟨st,ix,vl⟩,m1,m2,m3⟩:=Dz hG n0 n0 n0 (r1 0) (r1 1)
 simp only at m2 m3
 have NF:ix.length≤10000:=by
  rw [m2.ixe]
  have h1:=ai adj (bor adj side 0) (bor adj side 1)
  have h2:(bor adj side 1).length*(bor adj side 0).length≤100*100:=F5 n0 n0
  omega
 have hE:=Bi m2 n0 n0 ((bor adj side 0).length:Int)
 have HG:=Ih m2 n0 n0 NF
 obtain ⟨⟨rows,cols⟩,q1,a,b,mm,q2,q3⟩:=Vx (m2.kb n0) n0 n0 rfl rfl hE
 simp only at q3
 have eB:=q3.rch.rl
 have Hv:=q3.rch.cl
 have DL:m_gb ((bor adj side 0).length:Int) ((bor adj side 1).length:Int) st ix vl=some (coll (fun i=>rows[i]?=some true) rows.length,coll (fun i=>cols[i]?=some false) cols.length,0):=by
  unfold m_gb
  rw [bindS HG,I0 rfl,bindS q1]
  simp only
  rw [bindS (Wp n0),bindS (Wp n0)]
 have k1:=J6 (tm:=fun i=>rows[i]?=some true) rows.length
 have k2:=J6 (tm:=fun i=>cols[i]?=some false) cols.length
 obtain ⟨c1,p1,p2,p3⟩:=Pp (r:=(coll (fun i=>rows[i]?=some true) rows.length,coll (fun i=>cols[i]?=some false) cols.length,0)) (rs:=bor adj side 0) (n:=adj.length) (by simp only; omega) (fun x hx=>by have:=(H4 _).1 hx; omega) (r1 0) (ch:=List.replicate adj.length false) G0
 obtain ⟨c2,s1,s2,s3⟩:=Fz (r:=(coll (fun i=>rows[i]?=some true) rows.length,coll (fun i=>cols[i]?=some false) cols.length,0)) (rs:=bor adj side 1) (n:=adj.length) (by simp only; omega) (fun x hx=>by have:=(H4 _).1 hx; omega) (r1 1) (ch:=c1) p2
 rw [bindS (ks hG n0 hs 0),bindS (ks hG n0 hs 1),bindS m1]
 simp only
 rw [bindS (G4 false adj.length n0),bindS DL]
 simp only [if_true]
 rw [bindS p1,bindS s1,K0]
 refine ⟨s2,a,b,rows,cols,mm,fun st' ix' vl' h h'=>by rw [← q2]; exact Ez h m2 n0 h' NF,q3,fun v=>?_⟩
 rw [s3,p3]
 constructor
 ·rintro ((h | ⟨i,i1,i2⟩) | ⟨j,j1,j2⟩)
  ·have:=M8 (X2 h)
   cases this
  ·obtain ⟨h1,h2,h3⟩:=(H4 _).1 i1
   exact .inl ⟨i.toNat,h3,i2⟩
  ·obtain ⟨h1,h2,h3⟩:=(H4 _).1 j1
   exact .inr ⟨j.toNat,h3,j2⟩
 ·rintro (⟨i,i1,i2⟩ | ⟨j,j1,j2⟩)
  ·have:=(C2.1 i1).1
   exact .inl (.inr ⟨i,(H4 _).2 ⟨n0,by simpa using this,i1⟩,by simpa using i2⟩)
  ·have:=(C2.1 j1).1
   exact .inr ⟨j,(H4 _).2 ⟨n0,by simpa using this,j1⟩,by simpa using j2⟩
def isS (ch:BL) (v:Nat):Prop:=tr ch v
def isA (ch:BL) (side:LI) (v:Nat):Prop:=¬ tr ch v∧sd side v=0
def isB (ch:BL) (side:LI) (v:Nat):Prop:=¬ tr ch v∧sd side v≠0
open Classical in
noncomputable def lS (n:Nat) (ch:BL):LI:=coll (isS ch) n
open Classical in
noncomputable def lA (n:Nat) (ch:BL) (side:LI):LI:=coll (isA ch side) n
open Classical in
noncomputable def lB (n:Nat) (ch:BL) (side:LI):LI:=coll (isB ch side) n
open Classical in
theorem Ei {p:Nat→Prop} [DecidablePred p] {k:Nat} (h:p k):coll p (k+1)=coll p k++[(k:Int)]:=by rw [coll,I0 h]
open Classical in
theorem Bb {p:Nat→Prop} [DecidablePred p] {k:Nat} (h:¬ p k):coll p (k+1)=coll p k:=by rw [coll,J0 h,I7]
structure Sep (adj:L2) (side:LI) (ch:BL):Prop where
 sl:side.length=adj.length
 s01:S01 side
 bs:m_fk adj (List.replicate adj.length 1) (onesE adj)=some (side,true)
 cv:Cov adj side ch
open Classical in
theorem Bo {adj:L2} (hG:Gr adj) (hn:adj.length≤8):∃ side ch,Sep adj side ch∧m_gl adj=some (lA adj.length ch side,lB adj.length ch side,lS adj.length ch):=by
 obtain ⟨side,s1,s2,s3⟩:=Iw hG hn
 obtain ⟨ch,c1,c2⟩:=QB hG n0 s2
 refine ⟨side,ch,⟨s2,s3,s1,c2⟩,?_⟩
 have Hv:=c2.len
 unfold m_gl
 have h1:loop (m_gk adj ch (side,true)) ([],[],[],0)=some (lA adj.length ch side,lB adj.length ch side,lS adj.length ch):=by
  refine Ret.eq ?_
  refine Q0 adj.length (fun k (t:LI×LI×LI×Int)=>t=(coll (isA ch side) k,coll (isB ch side) k,coll (isS ch) k,(k:Int))) rfl ?_
  rintro k _ hk rfl
  unfold m_gk m_gj m_gi
  simp only
  by_cases ou:k < adj.length
  ·have hw:wa .i64 (k:Int) 1=((k+1:Nat):Int):=wa1 n0
   have XJ:getI side (k:Int)=some (sd side k):=z7 s2 ou
   have ca:=J6 (tm:=isA ch side) k
   have cb:=J6 (tm:=isB ch side) k
   have cs:=J6 (tm:=isS ch) k
   have ck:ch[k]?=some ch[k]:=J2 n0
   rw [B0,bindS (getI_lt n0),hw]
   by_cases hc:ch[k]=true
   ·have ht:tr ch k:=by unfold tr; rw [ck,hc]
    rw [I0 hc,bindS (app_small (by simp; omega)),K0,T0]
    refine ⟨ou,?_⟩
    rw [Ei (p:=isS ch) ht,Bb (p:=isA ch side) (fun h=>h.1 ht),Bb (p:=isB ch side) (fun h=>h.1 ht)]
   ·have ht:¬ tr ch k:=by unfold tr; rw [ck]; intro h; exact hc (P1 h)
    rw [J0 hc,bindS XJ]
    by_cases h0:sd side k=0
    ·rw [I0 h0,bindS (app_small (by simp; omega)),K0,T0]
     refine ⟨ou,?_⟩
     rw [Bb (p:=isS ch) ht,Ei (p:=isA ch side) ⟨ht,h0⟩,Bb (p:=isB ch side) (fun h=>h.2 h0)]
    ·rw [J0 h0,bindS (app_small (by simp; omega)),K0,T0]
     refine ⟨ou,?_⟩
     rw [Bb (p:=isS ch) ht,Bb (p:=isA ch side) (fun h=>h0 h.2),Ei (p:=isB ch side) ⟨ht,h0⟩]
  ·rw [A0,K0,E1,show k=adj.length by omega]
   rfl
 rw [bindS (Qv hG n0),bindS s1,bindS c1,bindS h1]
structure Vl (n:Nat) (l:LI):Prop where
 asc:l.Pairwise (· < ·)
 rng:∀ x,x∈l→0≤x∧x < (n:Int)
theorem Vl.len {n:Nat} {l:LI} (h:Vl n l):l.length≤n:=asc_len h.asc h.rng
open Classical in
theorem Di (p:Nat→Prop) (n:Nat):Vl n (coll p n):=⟨ia _,fun x hx=>by have:=(H4 _).1 hx; omega⟩
theorem gq (n:Nat) (ch:BL) (side:LI):Vl n (lA n ch side):=Di _ n
theorem fq (n:Nat) (ch:BL) (side:LI):Vl n (lB n ch side):=Di _ n
theorem bq (n:Nat) (ch:BL):Vl n (lS n ch):=Di _ n
theorem Se {n:Nat} {ch:BL} {side:LI} {x:Int}:x∈lA n ch side↔0≤x∧x.toNat < n∧isA ch side x.toNat:=by classical exact H4 _
theorem Re {n:Nat} {ch:BL} {side:LI} {x:Int}:x∈lB n ch side↔0≤x∧x.toNat < n∧isB ch side x.toNat:=by classical exact H4 _
theorem dq {n:Nat} {ch:BL} {x:Int}:x∈lS n ch↔0≤x∧x.toNat < n∧isS ch x.toNat:=by classical exact H4 _
structure P3 (n:Nat) (A B S:LI):Prop where
 a:Vl n A
 b:Vl n B
 s:Vl n S
 nd:(A++B++S).Nodup
 all:∀ v:Nat,v < n→(v:Int)∈A++B++S
theorem Co (n:Nat) (ch:BL) (side:LI):P3 n (lA n ch side) (lB n ch side) (lS n ch):=by
 refine ⟨gq _ _ _,fq _ _ _,bq _ _,?_,fun v hv=>?_⟩
 ·rw [K8,K8]
  refine ⟨⟨ma (gq _ _ _).asc,ma (fq _ _ _).asc,?_⟩,ma (bq _ _).asc,?_⟩
  ·rintro x hx y hy rfl
   exact (Re.1 hy).2.2.2 (Se.1 hx).2.2.2
  ·rintro x hx y hy rfl
   have hs:=(dq.1 hy).2.2
   rcases I2.1 hx with h | h
   ·exact (Se.1 h).2.2.1 hs
   ·exact (Re.1 h).2.2.1 hs
 ·rw [I2,I2]
  by_cases ht:tr ch v
  ·exact .inr (dq.2 ⟨n0,by simpa using hv,by simpa [isS] using ht⟩)
  ·by_cases h0:sd side v=0
   ·exact .inl (.inl (Se.2 ⟨n0,by simpa using hv,by simpa [isA] using ⟨ht,h0⟩⟩))
   ·exact .inl (.inr (Re.2 ⟨n0,by simpa using hv,by simpa [isB] using ⟨ht,h0⟩⟩))
theorem Hp:∀ {a b:LI},a.Nodup→(∀ x,x∈a→x∈b)→a.length≤b.length
 | [],b,_,_=>by simp
 | x::a,b,hd,hs=>by
  rw [xt] at hd
  have hx:=hs x G0
  have:=Hp (a:=a) (b:=b.erase x) hd.2 (fun y hy=>by
   have:y≠x:=by rintro rfl; exact hd.1 hy
   exact (List.mem_erase_of_ne this).2 (hs y (by simp [hy])))
  rw [List.length_erase_of_mem hx] at this
  have:=List.length_pos_of_mem hx
  simp
  omega
theorem Ip {n:Nat} {l:LI} (hd:l.Nodup) (hr:∀ x,x∈l→0≤x∧x < (n:Int)) (ha:∀ v:Nat,v < n→(v:Int)∈l):l.length=n:=by
 have h1:=T9 n l hd hr
 have h2:((List.range n).map Int.ofNat).length≤l.length:=by
  have hs:∀ x,x∈(List.range n).map Int.ofNat→x∈l:=by
   intro x hx
   obtain ⟨v,hv,rfl⟩:=Z5.1 hx
   exact ha v (m7.1 hv)
  have eK:((List.range n).map Int.ofNat).Nodup:=by
   rw [Pc,lj]
   exact (Pc.1 (List.nodup_range (n:=n))).imp fun h e=>h (Int.ofNat.inj e)
  exact Hp eK hs
 simp at h2
 omega
theorem P3.len {n:Nat} {A B S:LI} (h:P3 n A B S):A.length+B.length+S.length=n:=by
 have:=Ip h.nd (fun x hx=>by
  rcases I2.1 hx with hx | hx
  ·rcases I2.1 hx with hx | hx
   ·exact h.a.rng x hx
   ·exact h.b.rng x hx
  ·exact h.s.rng x hx) h.all
 simpa [Of] using this
open Classical in
noncomputable def ind (adj:L2) (l:LI):L2:=(List.range l.length).map fun i=>coll (fun j=>IJ adj l i j) l.length
theorem mc (adj:L2) (l:LI):(ind adj l).length=l.length:=by simp [ind]
theorem Vh {adj:L2} (hG:Gr adj) (l:LI):Gr (ind adj l):=by
 classical
 have Av:∀ (v:Nat) m,(ind adj l)[v]?=some m→v < l.length∧m=coll (fun j=>IJ adj l v j) l.length:=by
  intro v m hm
  have hv:=(C2.1 hm).1
  rw [mc] at hv
  refine ⟨hv,?_⟩
  simp only [ind,H7,Rc hv,H8,w6] at hm
  rw [← hm]
 refine ⟨fun v m hm=>?_,fun v m x hm hx=>?_,fun v m x hm hx=>?_⟩
 ·rw [(Av v m hm).2]; exact ia _
 ·obtain ⟨h1,h2⟩:=Av v m hm
  subst h2
  obtain ⟨x1,x2,x3⟩:=(H4 _).1 hx
  refine ⟨x1,by rw [mc]; omega,?_⟩
  rintro rfl
  rw [H1] at x3
  exact IJ.ne hG x3
 ·obtain ⟨h1,h2⟩:=Av v m hm
  subst h2
  obtain ⟨x1,x2,x3⟩:=(H4 _).1 hx
  refine ⟨coll (fun j=>IJ adj l x.toNat j) l.length,?_,?_⟩
  ·simp [ind,x2]
  ·exact (H4 _).2 ⟨n0,by simpa using h1,by simpa using IJ.sym hG x3⟩
theorem Iv {adj:L2} {l:LI} (hr:∀ x,x∈l→0≤x∧x < (adj.length:Int)) (hl:l.length≤100000):m_g1 l adj=some false:=by
 have h1:loop (m_gz l adj) 0=some (.inl ()):=by
  refine Ret.eq ?_
  refine Q0 l.length (fun k (t:Int)=>t=(k:Int)) rfl ?_
  rintro k _ hk rfl
  unfold m_gz m_gy m_e3
  by_cases ou:k < l.length
  ·have hw:wa .i64 (k:Int) 1=((k+1:Nat):Int):=wa1 n0
   have hx:=hr _ (Z1 ou)
   have e1:(decide ((0:Int)≤l[k]))=true:=decide_eq_true hx.1
   have e2:(decide (l[k] < (adj.length:Int)))=true:=decide_eq_true hx.2
   rw [B0,bindS (getI_lt ou),e1,e2,obs,obs,J0 G0,hw,K0,T0]
   exact ⟨ou,rfl⟩
  ·rw [A0,K0,E1]
 unfold m_g1 m_g0
 rw [bindS h1]
 rfl
theorem rp {adj:L2} (hG:Gr adj) (hn:adj.length≤200) {l:LI} (h:Vl adj.length l):m_ha adj l=some (ind adj l,0):=by
 have hl:=h.len
 have ht:m_g5 l=some false:=by rw [ao n0,decide_eq_false (fun hh=>hh (ma h.asc))]
 unfold m_ha
 rw [bindS (F8 hG hn),I0 rfl,bindS (Iv h.rng n0),J0 G0,bindS ht,J0 G0,bindS (mq hG hn n0 h.rng)]
 rfl
theorem zA {adj:L2} (hG:Gr adj) (hn:adj.length≤200):∃ T,m_gp adj=some T∧Tr T adj.length (nbp adj):=by
 have h0:Ret (loop (m_go adj) (List.replicate adj.length (List.replicate adj.length false),0)) (fun T=>Tr T adj.length (nbp adj)):=by
  refine Q0 adj.length (fun k (t:List BL×Int)=>t.2=(k:Int)∧Tr t.1 adj.length (fun a c=>nbp adj a c∧(a < k∨c < k))) ⟨rfl,Tr.congr (fun a c _ _=>by simp) (Tr.blank _)⟩ ?_
  rintro k ⟨T,t⟩ hk ⟨e1,hT⟩
  simp only at e1 hT
  subst e1
  unfold m_go
  simp only
  by_cases ou:k < adj.length
  ·have hw:wa .i64 (k:Int) 1=((k+1:Nat):Int):=wa1 n0
   have hl:adj[k]?=some adj[k]:=J2 ou
   have ax:=hG.len hl
   rw [B0,bindS (getI_lt ou),O0]
   refine Y4 (P:=fun T'=>Tr T' adj.length (fun a c=>nbp adj a c∧(a < k+1∨c < k+1))) ?_ (fun T' h=>?_)
   ·refine Q0 adj[k].length (fun m (t:List BL×Int)=>t.2=(m:Int)∧Tr t.1 adj.length (fun a c=>(nbp adj a c∧(a < k∨c < k))∨(a=k∧(c:Int)∈adj[k].take m)∨(c=k∧(a:Int)∈adj[k].take m))) ⟨rfl,Tr.congr (fun a c _ _=>by simp) hT⟩ ?_
    rintro m ⟨U,t⟩ hm ⟨e1,hU⟩
    simp only at e1 hU
    subst e1
    unfold m_gn
    simp only
    by_cases Ev:m < adj[k].length
    ·have hw2:wa .i64 (m:Int) 1=((m+1:Nat):Int):=wa1 n0
     have hx:=hG.rng k _ _ hl (Z1 Ev)
     obtain ⟨u,hu⟩:∃ u:Nat,adj[k][m]=(u:Int):=⟨adj[k][m].toNat,n0⟩
     have iH:adj[k][m]?=some (u:Int):=by rw [J2 Ev,hu]
     obtain ⟨T',j1,j2⟩:=join_ok hU (v:=k) (w:=u) ou n0
     rw [B0,bindS (getI_lt Ev),hu,bindS j1,hw2,K0,T0]
     refine ⟨Ev,rfl,Tr.congr (fun a c _ _=>?_) j2⟩
     rw [mts iH,mts iH]
     constructor
     ·rintro (⟨_,⟨rfl,rfl⟩ | ⟨rfl,rfl⟩⟩ | h | ⟨h1,h2⟩ | ⟨h1,h2⟩)
      ·exact .inr (.inl ⟨rfl,.inr rfl⟩)
      ·exact .inr (.inr ⟨rfl,.inr rfl⟩)
      ·exact .inl h
      ·exact .inr (.inl ⟨h1,.inl h2⟩)
      ·exact .inr (.inr ⟨h1,.inl h2⟩)
     ·rintro (h | ⟨h1,h2 | h2⟩ | ⟨h1,h2 | h2⟩)
      ·exact .inr (.inl h)
      ·exact .inr (.inr (.inl ⟨h1,h2⟩))
      ·exact .inl ⟨n0,.inl ⟨h1,n0⟩⟩
      ·exact .inr (.inr (.inr ⟨h1,h2⟩))
      ·exact .inl ⟨n0,.inr ⟨n0,h1⟩⟩
    ·rw [A0,K0,E1]
     rw [O3 n0] at hU
     refine Tr.congr (fun a c _ _=>?_) hU
     have kv:∀ c:Nat,(c:Int)∈adj[k]↔nbp adj k c:=fun c=>⟨fun h=>⟨_,hl,h⟩,fun ⟨l,l1,l2⟩=>by rw [hl] at l1; cases l1; exact l2⟩
     rw [kv,kv]
     constructor
     ·rintro (⟨h1,h2⟩ | ⟨rfl,h⟩ | ⟨rfl,h⟩)
      ·exact ⟨h1,n0⟩
      ·exact ⟨h,n0⟩
      ·exact ⟨U9 hG h,n0⟩
     ·rintro ⟨h1,h2⟩
      by_cases h3:a < k∨c < k
      ·exact .inl ⟨h1,h3⟩
      ·by_cases h4:a=k
       ·subst h4; exact .inr (.inl ⟨rfl,h1⟩)
       ·have:c=k:=n0
        subst this
        exact .inr (.inr ⟨rfl,U9 hG h1⟩)
   ·rw [hw,K0,T0]
    exact ⟨ou,rfl,h⟩
  ·rw [A0,K0,E1]
   exact Tr.congr (fun a c ha hc=>⟨fun h=>h.1,fun h=>⟨h,n0⟩⟩) hT
 obtain ⟨T,t1,t2⟩:=h0
 refine ⟨T,?_,t2⟩
 unfold m_gp
 rw [bindS (Eh n0),bindS t1]
def elim (R:Nat→Nat→Prop) (v:Nat) (i j:Nat):Prop:=i≠v∧j≠v∧(R i j∨(i≠j∧R v i∧R v j))
structure Sy (n:Nat) (R:Nat→Nat→Prop):Prop where
 sym:∀ i j,i < n→j < n→R i j→R j i
 irr:∀ i,i < n→¬ R i i
theorem Sy.elim {n:Nat} {R:Nat→Nat→Prop} (h:Sy n R) {v:Nat}:Sy n (elim R v):=by
 refine ⟨fun i j hi hj ⟨h1,h2,h3⟩=>⟨h2,h1,?_⟩,fun i hi ⟨_,_,h3⟩=>?_⟩
 ·rcases h3 with h3 | ⟨h3,h4,h5⟩
  ·exact .inl (h.sym i j hi hj h3)
  ·exact .inr ⟨fun e=>h3 e.symm,h5,h4⟩
 ·rcases h3 with h3 | ⟨h3,_⟩
  ·exact h.irr i hi h3
  ·exact h3 rfl
def elk (R:Nat→Nat→Prop) (v:Nat) (p:LI) (a c:Nat):Prop:=(a≠v∧c≠v∧(R a c∨(a≠c∧(a:Int)∈p∧(c:Int)∈p)))∨((a=v∨c=v)∧R a c∧(a:Int)∉p∧(c:Int)∉p)
theorem bA {n:Nat} (hn:n≤200) {T:List BL} {R:Nat→Nat→Prop} (hT:Tr T n R) {i:Nat} (hi:i < n) {p:LI} (hp:p.length≤1000) (hr:∀ x,x∈p→0≤x∧x < (n:Int)) (lH:(i:Int)∉p):
  Ret (loop (m_gr p (i:Int)) (T,0)) (fun T'=>Tr T' n (fun a c=>R a c∨(a=i∧(c:Int)∈p)∨(c=i∧(a:Int)∈p))):=by
 refine Q0 p.length (fun m (t:List BL×Int)=>t.2=(m:Int)∧Tr t.1 n (fun a c=>R a c∨(a=i∧(c:Int)∈p.take m)∨(c=i∧(a:Int)∈p.take m))) ⟨rfl,Tr.congr (fun a c _ _=>by simp) hT⟩ ?_
 rintro m ⟨U,t⟩ hm ⟨e1,hU⟩
 simp only at e1 hU
 subst e1
 unfold m_gr
 simp only
 by_cases Ev:m < p.length
 ·have hw2:wa .i64 (m:Int) 1=((m+1:Nat):Int):=wa1 n0
  have hx:=hr _ (Z1 Ev)
  obtain ⟨u,hu⟩:∃ u:Nat,p[m]=(u:Int):=⟨p[m].toNat,n0⟩
  have iH:p[m]?=some (u:Int):=by rw [J2 Ev,hu]
  have Bu:i≠u:=by
   rintro rfl
   exact lH (X2 iH)
  obtain ⟨T',j1,j2⟩:=join_ok hU (v:=i) (w:=u) hi n0
  rw [B0,bindS (getI_lt Ev),hu,bindS j1,hw2,K0,T0]
  refine ⟨Ev,rfl,Tr.congr (fun a c _ _=>?_) j2⟩
  rw [mts iH,mts iH]
  constructor
  ·rintro (⟨_,⟨rfl,rfl⟩ | ⟨rfl,rfl⟩⟩ | h | ⟨h1,h2⟩ | ⟨h1,h2⟩)
   ·exact .inr (.inl ⟨rfl,.inr rfl⟩)
   ·exact .inr (.inr ⟨rfl,.inr rfl⟩)
   ·exact .inl h
   ·exact .inr (.inl ⟨h1,.inl h2⟩)
   ·exact .inr (.inr ⟨h1,.inl h2⟩)
  ·rintro (h | ⟨h1,h2 | h2⟩ | ⟨h1,h2 | h2⟩)
   ·exact .inr (.inl h)
   ·exact .inr (.inr (.inl ⟨h1,h2⟩))
   ·exact .inl ⟨Bu,.inl ⟨h1,n0⟩⟩
   ·exact .inr (.inr (.inr ⟨h1,h2⟩))
   ·exact .inl ⟨Bu,.inr ⟨n0,h1⟩⟩
 ·rw [A0,K0,E1]
  rw [O3 n0] at hU
  exact hU
open Classical in
theorem zB {n:Nat} (hn:n≤200) {T:List BL} {R:Nat→Nat→Prop} (hT:Tr T n R) (hS:Sy n R) {v:Nat} (hv:v < n) {g:BL} (hg:g.length=n):
  ∃ T' l,m_gt T g (v:Int)=some (T',g.set v true,l)∧Tr T' n (elim R v):=by
 unfold m_gt
 have hl:=Kh hT n0 hv
 have hm:∀ u:Nat,(u:Int)∈coll (fun w=>R v w) n↔u < n∧R v u:=fun u=>by rw [H4]; simp
 have dG:∀ x,x∈coll (fun w=>R v w) n→0≤x∧x < (n:Int):=fun x hx=>by have:=(H4 _).1 hx; omega
 have aO:=J6 (tm:=fun w=>R v w) n
 have NH:(coll (fun w=>R v w) n).Nodup:=ma (ia _)
 have xv:(v:Int)∉coll (fun w=>R v w) n:=fun h=>hS.irr v hv ((hm v).1 h).2
 generalize coll (fun w=>R v w) n=l at hl hm dG aO NH xv
 have h1:Ret (loop (m_gs l (v:Int)) (T,0)) (fun T'=>Tr T' n (elim R v)):=by
  refine Q0 l.length (fun k (t:List BL×Int)=>t.2=(k:Int)∧Tr t.1 n (elk R v (l.take k))) ⟨rfl,Tr.congr (fun a c _ _=>?_) hT⟩ ?_
  ·unfold elk
   simp only [ua,qt,not_false_eq_true,and_true,and_false,or_false]
   constructor
   ·intro h
    by_cases h1:a=v∨c=v
    ·exact .inr ⟨h1,h⟩
    ·exact .inl ⟨fun e=>h1 (.inl e),fun e=>h1 (.inr e),h⟩
   ·rintro (⟨_,_,h⟩ | ⟨_,h⟩)<;>exact h
  ·rintro k ⟨U,t⟩ hk ⟨e1,hU⟩
   simp only at e1 hU
   subst e1
   unfold m_gs
   simp only
   by_cases Cu:k < l.length
   ·have hw:wa .i64 (k:Int) 1=((k+1:Nat):Int):=wa1 n0
    have hx:=dG _ (Z1 Cu)
    obtain ⟨i,hi⟩:∃ i:Nat,l[k]=(i:Int):=⟨l[k].toNat,n0⟩
    have zy:l[k]?=some (i:Int):=by rw [J2 Cu,hi]
    have aE:i < n:=n0
    have vF:i≠v:=by
     rintro rfl
     exact xv (X2 zy)
    have lH:(i:Int)∉l.take k:=by
     have:=bc NH Cu
     rwa [hi] at this
    have SJ:(v:Int)∉l.take k:=fun h=>xv (mj h)
    have kx:sli l 0 (k:Int)=some (l.take k):=by
     unfold sli subL
     rw [B0]
     simp
    have kP:R v i:=((hm i).1 (X2 zy)).2
    rw [B0,bindS (getI_lt Cu),hi,bindS kx,O0]
    refine Y4 (bA hn hU aE (by simp; omega) (fun x hx=>dG x (mj hx)) lH) ?_
    intro V hV
    obtain ⟨r1,a1,a2,a3,_⟩:=hV.row aE
    obtain ⟨r2,b1,b2,b3,_⟩:=hV.row hv
    have HM:=hV.put (j:=v) aE a2 (z:=false) (p:=False) G0
    obtain ⟨r3,c1,c2,c3,_⟩:=HM.row hv
    have EO:=HM.put (j:=i) hv c2 (z:=false) (p:=False) G0
    have dI:=hV.1
    rw [bindS a1,bindS b1,bindS (setI_lt n0),bindS (setI_lt n0),bindS c1,bindS (setI_lt n0),bindS (setI_lt (by simp; omega)),hw,K0,T0]
    refine ⟨Cu,rfl,Tr.congr (fun a c ha hc=>?_) EO⟩
    unfold elk
    rw [mts zy,mts zy]
    have q1:(a:Int)=(i:Int)↔a=i:=n0
    have q2:(c:Int)=(i:Int)↔c=i:=n0
    rw [q1,q2]
    have ZF:=hS.sym
    by_cases oE:a=v
    ·subst oE
     by_cases cx:c=a
     ·subst cx
      have:=hS.irr c hv
      simp [SJ,this,vF,Ne.symm vF]
     ·by_cases uv:c=i
      ·subst uv; simp [vF,Ne.symm vF]
      ·simp [cx,uv,SJ,vF,Ne.symm vF]
    ·by_cases cx:c=v
     ·subst cx
      by_cases ZE:a=i
      ·subst ZE; simp [vF,Ne.symm vF]
      ·simp [oE,ZE,SJ,vF,Ne.symm vF]
     ·by_cases ZE:a=i
      ·subst ZE
       by_cases uv:c=a
       ·subst uv; simp [oE,lH]
       ·simp [oE,cx,uv,Ne.symm uv,lH]
      ·by_cases uv:c=i
       ·subst uv
        simp [oE,cx,ZE,lH]
       ·simp [oE,cx,ZE,uv]
   ·rw [A0,K0,E1]
    rw [O3 n0] at hU
    refine Tr.congr (fun a c ha hc=>?_) hU
    unfold elk elim
    rw [hm,hm]
    constructor
    ·rintro (⟨h1,h2,h3⟩ | ⟨h1,h2,h3,h4⟩)
     ·refine ⟨h1,h2,?_⟩
      rcases h3 with h3 | ⟨h3,h4,h5⟩
      ·exact .inl h3
      ·exact .inr ⟨h3,h4.2,h5.2⟩
     ·exfalso
      rcases h1 with rfl | rfl
      ·exact h4 ⟨hc,h2⟩
      ·exact h3 ⟨ha,hS.sym a c ha hc h2⟩
    ·rintro ⟨h1,h2,h3⟩
     refine .inl ⟨h1,h2,?_⟩
     rcases h3 with h3 | ⟨h3,h4,h5⟩
     ·exact .inl h3
     ·exact .inr ⟨h3,⟨ha,h4⟩,hc,h5⟩
 obtain ⟨T',t1,t2⟩:=h1
 refine ⟨T',l,?_,t2⟩
 rw [bindS hl,bindS t1,bindS (setI_lt n0)]
open Classical in
noncomputable def deg (n:Nat) (R:Nat→Nat→Prop) (v:Nat):Nat:=(coll (fun w=>R v w) n).length
noncomputable def pick (n:Nat) (R:Nat→Nat→Prop) (gone:Nat→Bool):Nat→Int×Int
 | 0=>(-1,0)
 | k+1=>if gone k=false∧((pick n R gone k).1 < 0∨(deg n R k:Int) < (pick n R gone k).2) then ((k:Int),(deg n R k:Int)) else pick n R gone k
theorem kp {n:Nat} {R:Nat→Nat→Prop} {gone:Nat→Bool}:∀ k,(pick n R gone k).1= -1∨(∃ v:Nat,(pick n R gone k).1=(v:Int)∧v < k∧gone v=false)
 | 0=>.inl rfl
 | k+1=>by
  rw [pick]
  split
  ·rename_i h; exact .inr ⟨k,rfl,n0,h.1⟩
  ·rcases kp k with h | ⟨v,h1,h2,h3⟩
   ·exact .inl h
   ·exact .inr ⟨v,h1,n0,h3⟩
theorem gp {n:Nat} {R:Nat→Nat→Prop} {gone:Nat→Bool}:∀ k v,v < k→gone v=false→0≤(pick n R gone k).1
 | 0,v,h,_=>n0
 | k+1,v,h,hg=>by
  rw [pick]
  split
  ·simp
  ·rename_i h2
   by_cases hv:v=k
   ·subst hv
    have:¬ (pick n R gone v).1 < 0:=fun h3=>h2 ⟨hg,.inl h3⟩
    omega
   ·exact gp k v n0 hg
def gn_ (g:BL) (v:Nat):Bool:=g[v]?.getD true
open Classical in
theorem FC {adj:L2} {n:Nat} (hl:adj.length=n) (hn:n≤200) {T:List BL} {R:Nat→Nat→Prop} (hT:Tr T n R) {g:BL} (hg:g.length=n):
  loop (m_gv adj T g) (-1,0,0)=some (pick n R (gn_ g) n).1:=by
 refine Ret.eq ?_
 refine Q0 n (fun k (t:Int×Int×Int)=>t=((pick n R (gn_ g) k).1,(pick n R (gn_ g) k).2,(k:Int))) rfl ?_
 rintro k _ hk rfl
 unfold m_gv m_gu
 simp only
 by_cases ou:k < n
 ·have hw:wa .i64 (k:Int) 1=((k+1:Nat):Int):=wa1 n0
  have jO:g[k]?=some g[k]:=J2 n0
  have oM:gn_ g k=g[k]:=by unfold gn_; rw [jO]; rfl
  rw [B0,bindS (Kh hT n0 ou),bindS (getI_lt n0),hw]
  have hd:((coll (fun w=>R k w) n).length:Int)=(deg n R k:Int):=rfl
  rw [hd]
  by_cases hc:gn_ g k=false∧((pick n R (gn_ g) k).1 < 0∨(deg n R k:Int) < (pick n R (gn_ g) k).2)
  ·rw [I0 (by rw [oM] at hc; simpa using hc),K0,T0]
   refine ⟨ou,?_⟩
   rw [pick,I0 hc]
  ·rw [J0 (by rw [oM] at hc; simpa using hc),K0,T0]
   refine ⟨ou,?_⟩
   rw [pick,J0 hc]
 ·rw [A0,K0,E1,show k=n by omega]
structure Exo (n k:Nat) (T:List BL) (g:BL) (out:LI) (R:Nat→Nat→Prop):Prop where
 t:Tr T n R
 s:Sy n R
 gl:g.length=n
 ol:out.length=k
 nd:out.Nodup
 rg:∀ x,x∈out→0≤x∧x < (n:Int)
 go:∀ v,v < n→(gn_ g v=true↔(v:Int)∈out)
noncomputable def mdg (n:Nat):Nat→(Nat→Nat→Prop)×(Nat→Bool)→LI
 | 0,_=>[]
 | k+1,(R,g)=>(pick n R g n).1::mdg n k (elim R (pick n R g n).1.toNat,fun v=>v == (pick n R g n).1.toNat || g v)
noncomputable def mdo (adj:L2):LI:=mdg adj.length adj.length (nbp adj,gn_ (List.replicate adj.length false))
theorem EA {g:BL} {v:Nat} (hv:v < g.length):gn_ (g.set v true)=fun w=>w == v || gn_ g w:=by
 funext w
 unfold gn_
 rw [B3]
 by_cases h:v=w
 ·subst h; simp [hv]
 ·rw [J0 h]
  have:(w == v)=false:=by simp; omega
  rw [this,xd]
theorem tB {adj:L2} (hG:Gr adj) (hn:adj.length≤200):∃ o,m_gx adj=some (o,0)∧Pm o adj.length∧o=mdo adj:=by
 obtain ⟨T,t1,t2⟩:=zA hG hn
 have hS:Sy adj.length (nbp adj):=⟨fun i j _ _ h=>U9 hG h,fun i hi ⟨l,l1,l2⟩=>(hG.rng i l i l1 l2).2.2 rfl⟩
 have h1:Ret (loop (m_gw adj) (T,List.replicate adj.length false,[],0)) (fun o=>Pm o adj.length∧o=mdo adj):=by
  refine Q0 adj.length (fun k (t:List BL×BL×LI×Int)=>t.2.2.2=(k:Int)∧∃ R,Exo adj.length k t.1 t.2.1 t.2.2.1 R∧mdo adj=t.2.2.1++mdg adj.length (adj.length - k) (R,gn_ t.2.1)) ⟨rfl,_,⟨t2,hS,G0,rfl,G0,fun x hx=>by simp at hx,fun v hv=>by simp [gn_,hv]⟩,rfl⟩ ?_
  rintro k ⟨U,g,out,t⟩ hk ⟨e1,R,hX,HF⟩
  simp only at e1 hX HF
  subst e1
  unfold m_gw
  simp only
  have UE:=hX.gl
  have QD:=hX.ol
  by_cases ou:k < adj.length
  ·have hw:wa .i64 (k:Int) 1=((k+1:Nat):Int):=wa1 n0
   obtain ⟨u,CH,FN⟩:∃ u,u < adj.length∧(u:Int)∉out:=by
    refine O2 fun Xw=>?_
    have:=Ip hX.nd hX.rg (fun v hv=>O2 fun h=>Xw ⟨v,hv,h⟩)
    omega
   have gO:gn_ g u=false:=by
    cases h:gn_ g u with
    | false=>rfl
    | true=>exact absurd ((hX.go u CH).1 h) FN
   have hp:=gp (n:=adj.length) (R:=R) (gone:=gn_ g) adj.length u CH gO
   rcases kp (n:=adj.length) (R:=R) (gone:=gn_ g) adj.length with h | ⟨v,p1,p2,p3⟩
   ·omega
   ·have yN:(v:Int)∉out:=fun h=>by have:=(hX.go v p2).2 h; rw [p3] at this; cases this
    obtain ⟨T',l,q1,q2⟩:=zB hn hX.t hX.s p2 UE
    rw [B0,bindS (FC rfl hn hX.t UE),p1,bindS q1,bindS (app_small (by simp; omega)),hw,K0,T0]
    refine ⟨ou,rfl,_,⟨q2,hX.s.elim,by simp [UE],by simp [QD],?_,fun x hx=>?_,fun w hw=>?_⟩,?_⟩
    ·rw [K8]
     exact ⟨hX.nd,G0,fun x hx y hy e=>by simp at hy; subst hy; subst e; exact yN hx⟩
    ·rcases I2.1 hx with hx | hx
     ·exact hX.rg x hx
     ·simp at hx; omega
    ·have:=hX.go w hw
     simp only
     rw [I2,← this,Z2]
     unfold gn_
     rw [B3]
     by_cases aH:v=w
     ·subst aH; simp [UE,p2]
     ·rw [J0 aH]
      constructor
      ·exact .inl
      ·rintro (h | h)
       ·exact h
       ·omega
    ·simp only
     rw [HF,show adj.length - k=(adj.length - (k+1))+1 by omega,mdg,p1,EA n0,u7]
     rfl
  ·rw [A0,K0,E1]
   refine ⟨⟨n0,hX.nd,hX.rg⟩,?_⟩
   rw [HF,show adj.length - k=0 by omega,mdg,I7]
 obtain ⟨o,o1,o2,o3⟩:=h1
 refine ⟨o,?_,o2,o3⟩
 unfold m_gx m_gq
 rw [bindS (F8 hG hn),I0 rfl,bindS t1,bindS (G4 false adj.length n0),obs]
 simp only
 rw [bindS o1]
theorem oB {adj:L2} (hG:Gr adj) (hn:adj.length≤200):∃ o,m_gx adj=some (o,0)∧Pm o adj.length:=by
 obtain ⟨o,h1,h2,_⟩:=tB hG hn
 exact ⟨o,h1,h2⟩
def atL (l:LI) (x:Int):Int:=l[x.toNat]?.getD 0
theorem zr (k:Nat):m_hf (k+1)=m_he (m_hf k):=by simp only [m_hf]
theorem Hr {o l x:LI} (ho:∀ y,y∈o→0≤y∧y < (l.length:Int)) (h1:o.length≤1000) (h2:x.length≤1000):loop (m_hb o l) (x,0)=some (x++o.map (atL l)):=by
 refine Ret.eq ?_
 refine Q0 o.length (fun k (t:LI×Int)=>t=(x++(o.take k).map (atL l),(k:Int))) G0 ?_
 rintro k _ hk rfl
 unfold m_hb
 simp only
 by_cases ou:k < o.length
 ·have hw:wa .i64 (k:Int) 1=((k+1:Nat):Int):=wa1 n0
  have hy:=ho _ (Z1 ou)
  have hg:getI l o[k]=some (atL l o[k]):=by
   refine Pl.getI_of hy.1 ?_
   unfold atL
   rw [J2 n0]
   rfl
  rw [B0,bindS (getI_lt ou),bindS hg,bindS (app_small (by simp; omega)),hw,K0,T0]
  refine ⟨ou,?_⟩
  rw [Qa ou,o7,← u7]
  rfl
 ·rw [A0,K0,E1,O3 n0]
theorem Jf {n:Nat} {l o:LI} (hl:Vl n l) (h:Pm o l.length):(o.map (atL l)).length=l.length∧(o.map (atL l)).Nodup∧∀ x,x∈o.map (atL l)↔x∈l:=by
 have hg:∀ y,y∈o→∃ hy:y.toNat < l.length,atL l y=l[y.toNat]:=by
  intro y hy
  have:=h.rng y hy
  refine ⟨n0,?_⟩
  unfold atL
  rw [J2 n0]
  rfl
 refine ⟨by rw [L8,h.len],?_,fun x=>⟨fun hx=>?_,fun hx=>?_⟩⟩
 ·rw [Pc,lj]
  refine (J8.2 ?_)
  intro i j hi hj cE he
  obtain ⟨a1,a2⟩:=hg _ (Z1 hi)
  obtain ⟨b1,b2⟩:=hg _ (Z1 hj)
  rw [a2,b2] at he
  have h1:=dc (ma hl.asc) he
  have h2:=h.rng _ (Z1 hi)
  have h3:=h.rng _ (Z1 hj)
  have h4:o[i]=o[j]:=n0
  have:=dc h.nd h4
  omega
 ·obtain ⟨y,hy,rfl⟩:=Z5.1 hx
  obtain ⟨a1,a2⟩:=hg y hy
  rw [a2]
  exact Z1 a1
 ·obtain ⟨i,hi,rfl⟩:=List.getElem_of_mem hx
  have lM:(i:Int)∈o:=by
   refine O2 fun Xw=>?_
   have h1:((i:Int)::o).Nodup:=xt.2 ⟨Xw,h.nd⟩
   have h2:=T9 l.length ((i:Int)::o) h1 (fun x hx=>by
    rcases G3.1 hx with rfl | hx
    ·omega
    ·exact h.rng x hx)
   have:=h.len
   simp at h2
   omega
  refine Z5.2 ⟨(i:Int),lM,?_⟩
  obtain ⟨a1,a2⟩:=hg _ lM
  rw [a2]
  simp
structure Dsv (adj:L2) (leaf:Int) (A B S o oa ob:LI):Prop where
 fa:∀ k,A.length < k→m_hf k (ind adj A) leaf=some oa
 fb:∀ k,B.length < k→m_hf k (ind adj B) leaf=some ob
 pa:Pm oa A.length
 pb:Pm ob B.length
 eq:o=oa.map (atL A)++ob.map (atL B)++S
theorem cA {n:Nat} {A B S oa ob:LI} (h:P3 n A B S) (ha:Pm oa A.length) (hb:Pm ob B.length):Pm (oa.map (atL A)++ob.map (atL B)++S) n:=by
 obtain ⟨a1,a2,a3⟩:=Jf h.a ha
 obtain ⟨b1,b2,b3⟩:=Jf h.b hb
 have hlen:=h.len
 have hd:=h.nd
 rw [K8,K8] at hd
 obtain ⟨⟨d1,d2,d3⟩,d4,d5⟩:=hd
 refine ⟨by simp only [H2]; omega,?_,fun x hx=>?_⟩
 ·rw [K8,K8]
  refine ⟨⟨a2,b2,fun x hx y hy=>d3 x ((a3 x).1 hx) y ((b3 y).1 hy)⟩,d4,fun x hx y hy=>d5 x ?_ y hy⟩
  rcases I2.1 hx with hx | hx
  ·exact I2.2 (.inl ((a3 x).1 hx))
  ·exact I2.2 (.inr ((b3 x).1 hx))
 ·rcases I2.1 hx with hx | hx
  ·rcases I2.1 hx with hx | hx
   ·exact h.a.rng x ((a3 x).1 hx)
   ·exact h.b.rng x ((b3 x).1 hx)
  ·exact h.s.rng x hx
theorem HB:∀ (n:Nat),n≤8→∀ {adj:L2} (_:Gr adj) (_:adj.length=n) (leaf:Int),
  ∃ o,Pm o n∧(∀ k,n < k→m_hf k adj leaf=some o)∧∀ A B S,m_gl adj=some (A,B,S)→leaf < (n:Int)→A≠[]→B≠[]→∃ oa ob,Dsv adj leaf A B S o oa ob:=by
 intro n
 induction n using Nat.strongRecOn with
 | ind n ih=>
 intro hn adj hG hl leaf
 subst hl
 obtain ⟨e,e1,e2⟩:=oB hG n0
 obtain ⟨side,ch,s1,s2⟩:=Bo hG n0
 have hP:=Co adj.length ch side
 generalize lA adj.length ch side=A at s2 hP
 generalize lB adj.length ch side=B at s2 hP
 generalize lS adj.length ch=S at s2 hP
 have hlen:=hP.len
 by_cases hdiv:leaf < (adj.length:Int)∧A≠[]∧B≠[]
 ·obtain ⟨d1,d2,d3⟩:=hdiv
  have ha:0 < A.length:=G7.2 d2
  have hb:0 < B.length:=G7.2 d3
  obtain ⟨oa,a1,a2,_⟩:=ih A.length n0 n0 (Vh hG A) (mc _ _) leaf
  obtain ⟨ob,b1,b2,_⟩:=ih B.length n0 n0 (Vh hG B) (mc _ _) leaf
  have bD:=a1.len
  have VE:=b1.len
  refine ⟨oa.map (atL A)++ob.map (atL B)++S,cA hP a1 b1,fun k hk=>?_,fun A' B' S' h _ _ _=>?_⟩
  ·obtain ⟨j,rfl⟩:∃ j,k=j+1:=⟨k - 1,n0⟩
   rw [zr]
   unfold m_he m_hd
   have hc:¬ ((decide ((A.length:Int)=0)) || (decide ((B.length:Int)=0)))=true:=by
    simp only [U5,decide_eq_true_eq]
    omega
   have Nu:loop (m_hc (m_hf j) A B adj leaf) ([],0)=some (oa.map (atL A)++ob.map (atL B)):=by
    refine Ret.eq ?_
    refine Q0 2 (fun k (t:LI×Int)=>(k=0∧t=([],0))∨(k=1∧t=(oa.map (atL A),1))∨(k=2∧t=(oa.map (atL A)++ob.map (atL B),2))) (.inl ⟨rfl,rfl⟩) ?_
    rintro k _ hk (⟨rfl,rfl⟩ | ⟨rfl,rfl⟩ | ⟨rfl,rfl⟩)
    ·unfold m_hc
     have g0:getI [A,B] 0=some A:=rfl
     have hw:wa .i64 0 1=1:=by rw [wa_in (by constructor<;>omega)]; rfl
     simp only
     rw [I0 G0,bindS g0,bindS (rp hG n0 hP.a)]
     simp only
     rw [bindS (a2 j n0),bindS (Hr a1.rng n0 G0),hw,K0,T0]
     exact ⟨n0,.inr (.inl ⟨G0,G0⟩)⟩
    ·unfold m_hc
     have g0:getI [A,B] 1=some B:=rfl
     have hw:wa .i64 1 1=2:=by rw [wa_in (by constructor<;>omega)]; rfl
     simp only
     rw [I0 G0,bindS g0,bindS (rp hG n0 hP.b)]
     simp only
     rw [bindS (b2 j n0),bindS (Hr b1.rng n0 (by simp; omega)),hw,K0,T0]
     exact ⟨n0,.inr (.inr ⟨G0,G0⟩)⟩
    ·unfold m_hc
     simp only
     rw [J0 G0,K0,E1]
   rw [I0 d1,bindS s2]
   simp only
   rw [J0 hc,bindS Nu,bindS (app_small (by simp; omega))]
  ·rw [s2] at h
   cases h
   exact ⟨oa,ob,a2,b2,a1,b1,rfl⟩
 ·refine ⟨e,e2,fun k hk=>?_,fun A' B' S' h h1 h2 h3=>?_⟩
  ·obtain ⟨j,rfl⟩:∃ j,k=j+1:=⟨k - 1,n0⟩
   rw [zr]
   unfold m_he m_hd
   by_cases gK:leaf < (adj.length:Int)
   ·have hc:((decide ((A.length:Int)=0)) || (decide ((B.length:Int)=0)))=true:=by
     simp only [U5,decide_eq_true_eq]
     refine O2 fun Xw=>hdiv ⟨gK,?_,?_⟩
     ·rintro rfl; exact Xw (.inl rfl)
     ·rintro rfl; exact Xw (.inr rfl)
    rw [I0 gK,bindS s2]
    simp only
    rw [I0 hc,bindS e1]
   ·rw [J0 gK,I0 (by rfl),bindS e1]
  ·rw [s2] at h
   cases h
   exact absurd ⟨h1,h2,h3⟩ hdiv
theorem Vy {adj:L2} (hG:Gr adj) (hn:adj.length≤30) {leaf:Int} (h1:1≤leaf) (h2:leaf≤200) {o:LI} (h:∀ k,adj.length < k→m_hf k adj leaf=some o):m_hg adj leaf=some (o,0):=by
 unfold m_hg
 have hc:¬ ((decide (leaf < 1)) || (decide ((200:Int) < leaf)))=true:=by
  simp only [U5,decide_eq_true_eq]
  omega
 obtain ⟨k,hk⟩:=MA
 rw [bindS (F8 hG n0),I0 rfl,J0 hc,bindS (h FUEL n0)]
theorem Ty {adj:L2} (hG:Gr adj) (hn:adj.length≤30) {A B S:LI} (h:m_gl adj=some (A,B,S)):m_gm adj=some (A,B,S,0):=by
 unfold m_gm
 rw [bindS (F8 hG n0),I0 rfl,bindS h]
end Km
namespace Ts
open Pl Sx Go M Vc Pd Km
theorem Uw {adj:L2} (hG:Gr adj) {side:LI} {ch:BL} (h:Sep adj side ch) {u v:Nat} (hu:(u:Int)∈lA adj.length ch side) (hv:(v:Int)∈lB adj.length ch side):¬ nbp adj u v:=by
 intro hn
 obtain ⟨_,u1,u2,u3⟩:=Se.1 hu
 obtain ⟨_,v1,v2,v3⟩:=Re.1 hv
 simp only [H1] at u1 u2 u3 v1 v2 v3
 have hs:=h.sl
 have fJ:sd side v=1:=(h.s01 _ (X2 (z7 hs v1))).resolve_left v3
 have b0:(u:Int)∈bor adj side 0:=Ji.2 ⟨n0,by simpa using u1,by simpa using ⟨u3,v,hn,v3⟩⟩
 have b1:(v:Int)∈bor adj side 1:=Ji.2 ⟨n0,by simpa using v1,by simpa using ⟨fJ,u,U9 hG hn,n0⟩⟩
 obtain ⟨i,hi⟩:=D9.1 b0
 obtain ⟨j,hj⟩:=D9.1 b1
 obtain ⟨a,b,rows,cols,m1,m2⟩:=h.cv.ex
 have wK:=(C2.1 hi).1
 have zG:=(C2.1 hj).1
 have Hv:=m1.rch.cl
 have uK:tr cols j:=by
  have h0:cols[j]?=some (cols[j]'(n0)):=J2 n0
  cases hb:cols[j]'(n0) with
  | false=>exact absurd ((m2 v).2 (.inr ⟨j,by rw [h0,hb],hj⟩)) v2
  | true=>unfold tr; rw [h0,hb]
 have he:inE (tabE adj (bor adj side 0) (bor adj side 1)) j i:=⟨colE adj (bor adj side 0) (v:Int),by simp [tabE,hj],Mr.2 ⟨n0,by simpa using wK,u,by simpa using hi,by simpa using U9 hG hn⟩⟩
 exact u2 ((m2 u).2 (.inl ⟨i,m1.rch.clo.r j i uK he,hi⟩))
structure Ds (adj:L2) (A B S o:LI):Prop where
 sp:m_gm adj=some (A,B,S,0)
 od:m_hg adj 1=some (o,0)
 pm:Pm o adj.length
 len:A.length+B.length+S.length=adj.length
 ed:2≤adj.length→A≠[]→B≠[]→∀ i j:Nat,i < A.length→A.length≤j→j < A.length+B.length→¬ IJ adj o i j
theorem ds {adj:L2} (hG:Gr adj) (hn:adj.length≤8):∃ A B S o,Ds adj A B S o:=by
 obtain ⟨side,ch,s1,s2⟩:=Bo hG n0
 have hP:=Co adj.length ch side
 have hE:∀ u v:Nat,(u:Int)∈lA adj.length ch side→(v:Int)∈lB adj.length ch side→¬ nbp adj u v:=fun u v hu hv=>Uw hG s1 hu hv
 generalize lA adj.length ch side=A at s2 hP hE
 generalize lB adj.length ch side=B at s2 hP hE
 generalize lS adj.length ch=S at s2 hP
 obtain ⟨o,o1,o2,o3⟩:=HB adj.length n0 hG rfl 1
 have eM:=hP.len
 refine ⟨A,B,S,o,Ty hG n0 s2,Vy hG n0 n0 n0 o2,o1,eM,fun h2 hA hB i j hi hj yE=>?_⟩
 obtain ⟨oa,ob,hD⟩:=o3 A B S s2 n0 hA hB
 obtain ⟨a1,a2,a3⟩:=Jf hP.a hD.pa
 obtain ⟨b1,b2,b3⟩:=Jf hP.b hD.pb
 rintro ⟨x,y,hx,hy,UF⟩
 have nN:x∈A:=by
  rw [hD.eq,u7,O6 n0] at hx
  exact (a3 _).1 (X2 hx)
 have wv:y∈B:=by
  rw [hD.eq,u7,F9 n0,O6 n0] at hy
  exact (b3 _).1 (X2 hy)
 have OD:=hP.a.rng _ nN
 have iN:=hP.b.rng _ wv
 exact hE x.toNat y.toNat (by rwa [z8 OD.1]) (by rwa [z8 iN.1]) UF
theorem xf {adj:L2} {o par:LI} {R:Nat→LI} {a b n:Nat} (ho:o.length=n) (hR:Rws (ind adj o) par n R) (he:∀ i j:Nat,i < a→a≤j→j < a+b→¬ IJ adj o i j) (hG:Gr adj) {k x:Nat} (hk:k < a) (hx:(x:Int)∈col R k n):¬ (a≤x∧x < a+b):=by
 classical
 rintro ⟨h1,h2⟩
 obtain ⟨c1,c2,c3⟩:=ja.1 hx
 have lN:x < n:=n0
 simp only [H1] at c3
 have hW:=(hR.row x lN).2.on k c3 (fun q=>a≤q) h1 (fun l hl j hj GP=>?_) (fun q p hq h3 hp _=>?_)
 ·omega
 ·refine O2 fun IP=>?_
  simp only [ind,H7,Rc (show x < o.length by omega),H8,w6] at hl
  subst hl
  have:=((H4 _).1 hj).2.2
  simp only [H1] at this
  exact he j x n0 h1 h2 (IJ.sym hG this)
 ·rcases hR.inc.2 q _ hp with h4 | h4
  ·omega
  ·omega
theorem Lv {n:Nat} {C V:L2} (hC:Pat n C) (hV:Va n n C V):lens V=lens C:=by
 have key:∀ k,k≤n→lens (V.take k)=lens (C.take k):=by
  intro k
  induction k with
  | zero=>intro _; rfl
  | succ k ih=>
   intro hk
   obtain ⟨c,c1,_⟩:=hC.col k n0
   obtain ⟨w,w1,w2⟩:=hV.2.2 k _ n0 c1
   rw [Z7 c1,Z7 w1,ih n0,w2.1]
 have:=key n (O4 _)
 rwa [P4 (by have:=hV.1; omega),P4 (by have:=hC.len; omega)] at this
abbrev E3:=Int×Int×Int
def Lt3 (a b:E3):Prop:=a.2.1 < b.2.1∨a.2.1=b.2.1∧a.1 < b.1
structure Pe (R:Nat) (E:L2) (vl:LI) (k m:Nat) (l:List E3):Prop where
 len:l.length=off E k+m
 el:∀ e,e∈l→(0≤e.1∧e.1 < R)∧0≤e.2.1∧e.2.2∈vl∧inE E e.2.1.toNat e.1.toNat∧(e.2.1 < k∨e.2.1=k∧∃ c,E[k]?=some c∧e.1∈c.take m)
 ex:∀ c r,inE E c r→(c < k∨c=k∧∃ l,E[k]?=some l∧(r:Int)∈l.take m)→∃ x,((r:Int),(c:Int),x)∈l
 srt:l.Pairwise Lt3
theorem Pe.nil {R:Nat} {E:L2} {vl:LI}:Pe R E vl 0 0 []:=⟨by simp [off],G0,fun c r h h1=>by
 rcases h1 with h1 | ⟨_,l,_,h1⟩
 ·omega
 ·simp at h1,List.Pairwise.nil⟩
theorem JC {l:LI} (h:l.Pairwise (· < ·)) {m:Nat} {x:Int} (hm:l[m]?=some x):∀ y,y∈l.take m→y < x:=fun y hy=>by
 have h1:(l.take (m+1)).Pairwise (· < ·):=h.sublist (List.take_sublist _ _)
 rw [tks hm,C9] at h1
 exact h1.2.2 y hy x G0
section
variable {R C:Nat} {E:L2} {st ix vl:LI}
theorem Pe.put (h:Mv R C E st ix vl) {k m:Nat} {l:List E3} (hl:Pe R E vl k m l) {c:LI} (hc:E[k]?=some c) {r x:Int} (hr:c[m]?=some r) (hx:x∈vl):Pe R E vl k (m+1) (l++[(r,(k:Int),x)]):=by
 have GH:=h.rng c (X2 hc) r (X2 hr)
 refine ⟨by rw [H2,hl.len]; rfl,fun e he=>?_,fun c' r' hi hk=>?_,?_⟩
 ·rcases I2.1 he with he | he
  ·obtain ⟨e1,e2,e3,e4,e5⟩:=hl.el e he
   refine ⟨e1,e2,e3,e4,e5.imp id ?_⟩
   rintro ⟨e6,c',h1,h2⟩
   exact ⟨e6,c',h1,(Fe).2 (.inl h2)⟩
  ·rw [Z2.1 he]
   exact ⟨GH,by simp only; omega,hx,⟨c,by simpa using hc,by simp only; rw [z8 GH.1]; exact X2 hr⟩,.inr ⟨rfl,c,hc,Fe.2 (.inr hr)⟩⟩
 ·rcases hk with hk | ⟨rfl,c2,h1,h2⟩
  ·obtain ⟨y,hy⟩:=hl.ex c' r' hi (.inl hk)
   exact ⟨y,I2.2 (.inl hy)⟩
  ·rw [hc] at h1
   cases h1
   rcases Fe.1 h2 with h2 | h2
   ·obtain ⟨y,hy⟩:=hl.ex c' r' hi (.inr ⟨rfl,c,hc,h2⟩)
    exact ⟨y,I2.2 (.inl hy)⟩
   ·rw [hr] at h2
    cases h2
    exact ⟨x,G0⟩
 ·rw [C9]
  refine ⟨hl.srt,kj _ _,fun e he y hy=>?_⟩
  rw [Z2.1 hy]
  obtain ⟨_,_,_,_,h5 | ⟨h5,c',h6,h7⟩⟩:=hl.el e he
  ·exact .inl h5
  ·rw [hc] at h6
   cases h6
   exact .inr ⟨h5,JC (h.asc c (X2 hc)) hr _ h7⟩
theorem Pe.next {k:Nat} {l:List E3} {c:LI} (hc:E[k]?=some c) (hl:Pe R E vl k c.length l):Pe R E vl (k+1) 0 l:=by
 refine ⟨by rw [hl.len,k9 hc,l7],fun e he=>?_,fun c' r' hi hk=>?_,hl.srt⟩
 ·obtain ⟨e1,e2,e3,e4,e5⟩:=hl.el e he
  exact ⟨e1,e2,e3,e4,.inl (by rcases e5 with h | ⟨h,_⟩<;>omega)⟩
 ·rcases hk with hk | ⟨_,c2,_,h2⟩
  ·refine hl.ex c' r' hi ?_
   by_cases e:c'=k
   ·subst e
    obtain ⟨l',h1,h2⟩:=hi
    rw [hc] at h1
    cases h1
    exact .inr ⟨rfl,c,hc,by rwa [M6]⟩
   ·exact .inl n0
  ·simp at h2
structure Ent (R C:Nat) (E:L2) (vl:LI) (l:List E3):Prop where
 len:l.length≤vl.length
 rng:∀ e,e∈l→(0≤e.1∧e.1 < R)∧0≤e.2.1∧e.2.1 < C
 val:∀ e,e∈l→e.2.2∈vl
 mem:∀ c r,inE E c r↔∃ x,((r:Int),(c:Int),x)∈l
 srt:l.Pairwise Lt3
theorem Aq (h:Mv R C E st ix vl):ix.length≤R*C:=by
 rw [h.ixe,Z6,← h.len]
 exact jc fun l hl=>asc_len (h.asc l hl) (h.rng l hl)
theorem rr (h:Mv R C E st ix vl) (hC:C≤200) (hx:ix.length≤10000):Ret (loop (m_dq (C:Int) st ix vl) ([],0)) (Ent R C E vl):=by
 have hlen:=h.len
 have xv:=h.vle
 have hS:∀ j:Nat,j≤C→getI st (j:Int)=some (off E j:Int):=fun j hj=>h.ste j hj
 refine Q0 C (fun k (t:List E3×Int)=>t.2=k∧Pe R E vl k 0 t.1) ⟨rfl,Pe.nil⟩ ?_
 rintro k ⟨l,_⟩ hk ⟨hi,hl⟩
 simp only at hi hl
 subst hi
 unfold m_dq
 simp only
 by_cases ou:k < C
 ·have hc:E[k]?=some (E[k]'(n0)):=J2 n0
  generalize E[k]'(n0)=c at hc
  have hw:wa .i64 (k:Int) 1=((k+1:Nat):Int):=wa1 n0
  have ho:=k9 hc
  have ht:=W7 E (j:=k+1)
  rw [← h.ixe] at ht
  have kx:=Sa hc
  rw [← h.ixe] at kx
  have HK:∀ m,m < c.length→ix[off E k+m]?=c[m]?:=fun m hm=>by
   rw [← kx,B6,iD n0]
  rw [B0,bindS (hS k hk),O0]
  refine Y4 (P:=fun l'=>Pe R E vl k c.length l') ?_ (fun l' xE=>by rw [hw,K0,T0]; exact ⟨ou,rfl,xE.next hc⟩)
  refine Q0 c.length (fun m (t:List E3×Int)=>t.2=((off E k+m:Nat):Int)∧Pe R E vl k m t.1) ⟨rfl,hl⟩ ?_
  rintro m ⟨l',_⟩ hm ⟨hi,xE⟩
  simp only at hi xE
  subst hi
  unfold m_dp
  simp only
  rw [hw,bindS (hS (k+1) ou)]
  by_cases KE:m < c.length
  ·have g1:getI ix ((off E k+m:Nat):Int)=some c[m]:=(HK m KE).trans (J2 KE)
   have g2:getI vl ((off E k+m:Nat):Int)=some (vl[off E k+m]'(n0)):=getI_lt n0
   have ax:=xE.len
   rw [B0,bindS g1,bindS g2,bindS (app_small (by simp; omega)),K0,wa1 n0,T0]
   exact ⟨KE,rfl,Pe.put h xE hc (J2 KE) (Z1 _)⟩
  ·rw [A0,K0,E1]
   have:m=c.length:=n0
   rw [← this]; exact xE
 ·rw [A0,K0,E1]
  have:k=C:=n0
  subst this
  have hf:off E k≤ix.length:=by rw [h.ixe]; exact W7 E
  refine ⟨by rw [hl.len]; omega,fun e he=>?_,fun e he=>(hl.el e he).2.2.1,fun c r=>⟨fun hi=>?_,fun ⟨x,hx⟩=>?_⟩,hl.srt⟩
  ·obtain ⟨e1,e2,e3,e4,e5 | ⟨e5,c,h1,h2⟩⟩:=hl.el e he
   ·exact ⟨e1,e2,e5⟩
   ·simp at h2
  ·refine hl.ex c r hi (.inl ?_)
   obtain ⟨l',h1,_⟩:=hi
   have:=(C2.1 h1).1
   omega
  ·simpa using (hl.el _ hx).2.2.2.1
theorem nr (h:Mv R C E st ix vl) (hR:R≤50) (hC:C≤50):∃ l,m_dr (R:Int) (C:Int) st ix vl=some l∧m_ds (R:Int) (C:Int) st ix vl=some l∧m_dm (R:Int) (C:Int) st ix vl=some 0∧Ent R C E vl l∧l.length≤R*C:=by
 have h1:=Aq h
 have h2:R*C≤50*50:=F5 hR hC
 have hc:=Ih h n0 n0 n0
 obtain ⟨l,l1,l2⟩:=rr h n0 n0
 have he:m_dr (R:Int) (C:Int) st ix vl=some l:=by
  unfold m_dr
  rw [bindS l1]
 refine ⟨l,he,?_,hc,l2,by have:=l2.len; have:=h.vle; omega⟩
 unfold m_ds
 rw [bindS hc,I0 rfl,bindS he]
end
def ER (l:List E3) (i j:Nat):Prop:=∃ x,((i:Int),(j:Int),x)∈l
theorem Nq {l:List E3} {k:Nat} {v w:Nat} {z:Int} (h:l[k]?=some ((v:Int),(w:Int),z)) (i j:Nat):ER (l.take (k+1)) i j↔ER (l.take k) i j∨(i=v∧j=w):=by
 unfold ER
 constructor
 ·rintro ⟨x,hx⟩
  rcases (mts h).1 hx with hx | hx
  ·exact .inl ⟨x,hx⟩
  ·simp only [If] at hx
   exact .inr ⟨n0,n0⟩
 ·rintro (⟨x,hx⟩ | ⟨rfl,rfl⟩)
  ·exact ⟨x,(mts h).2 (.inl hx)⟩
  ·exact ⟨z,(mts h).2 (.inr rfl)⟩
theorem fm_p {l:List E3} {n:Nat} (hl:l.length≤100000) (hr:∀ e,e∈l→(0≤e.1∧e.1 < (n:Int))∧0≤e.2.1∧e.2.1 < (n:Int)):
  Ret (loop (m_d0 l) (List.replicate n (List.replicate n false),0)) (fun T=>Tr T n (fun i j=>i≠j∧(ER l i j∨ER l j i))):=by
 refine Q0 l.length (fun k (t:List BL×Int)=>t.2=k∧Tr t.1 n (fun i j=>i≠j∧(ER (l.take k) i j∨ER (l.take k) j i))) ⟨rfl,Tr.congr (fun i j _ _=>by simp [ER]) (Tr.blank n)⟩ ?_
 rintro k ⟨T,i⟩ hk ⟨hi,hT⟩
 simp only at hi hT
 subst hi
 unfold m_d0
 simp only
 by_cases Cu:k < l.length
 ·obtain ⟨⟨a,b,z⟩,hx⟩:∃ x,l[k]?=some x:=⟨l[k],by simp [Cu]⟩
  obtain ⟨⟨a1,a2⟩,b1,b2⟩:=hr _ (X2 hx)
  simp only at a1 a2 b1 b2
  obtain ⟨v,rfl⟩:=D3 a1
  obtain ⟨w,rfl⟩:=D3 b1
  obtain ⟨T',j1,j2⟩:=Pl.join_ok hT (show v < n by omega) (show w < n by omega)
  have e1:getI l (k:Int)=some ((v:Int),(w:Int),z):=hx
  rw [B0,bindS e1]
  simp only
  rw [bindS j1,wa1 n0,K0,T0]
  refine ⟨Cu,rfl,Tr.congr (fun i j _ _=>?_) j2⟩
  rw [Nq hx,Nq hx]
  constructor
  ·rintro (⟨h1,⟨rfl,rfl⟩ | ⟨rfl,rfl⟩⟩ | ⟨h1,h2⟩)
   ·exact ⟨h1,.inl (.inr ⟨rfl,rfl⟩)⟩
   ·exact ⟨fun h=>h1 h.symm,.inr (.inr ⟨rfl,rfl⟩)⟩
   ·exact ⟨h1,h2.imp .inl .inl⟩
  ·rintro ⟨h1,(h | ⟨rfl,rfl⟩) | (h | ⟨rfl,rfl⟩)⟩
   ·exact .inr ⟨h1,.inl h⟩
   ·exact .inl ⟨h1,.inl ⟨rfl,rfl⟩⟩
   ·exact .inr ⟨h1,.inr h⟩
   ·exact .inl ⟨fun h=>h1 h.symm,.inr ⟨rfl,rfl⟩⟩
 ·rw [A0,K0,E1]
  rwa [O3 n0] at hT
def NbE (E:L2) (v w:Nat):Prop:=v≠w∧(inE E v w∨inE E w v)
open Classical in
noncomputable def gph (n:Nat) (E:L2):L2:=(List.range n).map fun v=>coll (fun w=>NbE E v w) n
theorem oc (n:Nat) (E:L2):(gph n E).length=n:=by simp [gph]
theorem qq (n:Nat) (E:L2):Gr (gph n E):=by
 classical
 have Av:∀ (v:Nat) m,(gph n E)[v]?=some m→v < n∧m=coll (fun j=>NbE E v j) n:=by
  intro v m hm
  have hv:=(C2.1 hm).1
  rw [oc] at hv
  refine ⟨hv,?_⟩
  simp only [gph,H7,Rc hv,H8,w6] at hm
  rw [← hm]
 refine ⟨fun v m hm=>?_,fun v m x hm hx=>?_,fun v m x hm hx=>?_⟩
 ·rw [(Av v m hm).2]; exact ia _
 ·obtain ⟨h1,h2⟩:=Av v m hm
  subst h2
  obtain ⟨x1,x2,x3⟩:=(H4 _).1 hx
  refine ⟨x1,by rw [oc]; omega,?_⟩
  rintro rfl
  exact x3.1 G0
 ·obtain ⟨h1,h2⟩:=Av v m hm
  subst h2
  obtain ⟨x1,x2,x3⟩:=(H4 _).1 hx
  refine ⟨coll (fun j=>NbE E x.toNat j) n,by simp [gph,x2],(H4 _).2 ⟨n0,by simpa using h1,?_⟩⟩
  simpa using ⟨x3.1.symm,x3.2.symm⟩
theorem CA {n:Nat} {E E':L2} (h:∀ v w,NbE E v w↔NbE E' v w):gph n E=gph n E':=by
 have:NbE E=NbE E':=by funext v w; exact propext (h v w)
 unfold gph
 rw [this]
theorem Kr {tm:Nat→Prop} {I:DecidablePred tm} {x:Int} {n:Nat}:x∈@coll tm I n↔0≤x∧x.toNat < n∧tm x.toNat:=@H4 tm I x n
theorem Lr {tm:Nat→Prop} {I:DecidablePred tm} {n:Nat}:(@coll tm I n).Pairwise (· < ·):=@ia tm I n
theorem tq {n:Nat} {E:L2} {st ix vl:LI} (h:Mv n n E st ix vl) (hn:n≤50):m_d1 (n:Int) (n:Int) st ix vl=some (gph n E,0):=by
 classical
 obtain ⟨l,l1,l2,l3,l4,l5⟩:=nr h hn hn
 have h2:n*n≤50*50:=F5 hn hn
 obtain ⟨T,t1,t2⟩:=fm_p (l:=l) (n:=n) n0 l4.rng
 unfold m_d1
 rw [bindS l3,I0 rfl,I0 rfl,bindS (Eh n0),bindS l2,bindS t1,bindS (yo t2 n0)]
 congr 2
 unfold gph
 refine oj fun v _=>?_
 refine IC Lr Lr fun x=>?_
 rw [Kr,Kr]
 have:∀ a b:Nat,ER l a b↔inE E b a:=fun a b=>(l4.mem b a).symm
 simp only [NbE,this]
 constructor
 ·rintro ⟨h1,h2,h3,h4⟩; exact ⟨h1,h2,h3,h4.symm⟩
 ·rintro ⟨h1,h2,h3,h4⟩; exact ⟨h1,h2,h3,h4.symm⟩
theorem mid_ok {x y:Nat} (h:x+y≤100000):wc .i64 (wsrc .u64 (wc .u64 (wa .i64 (x:Int) (y:Int))) 1)=(((x+y) / 2:Nat):Int):=by
 rw [wa_in (by constructor<;>omega)]
 have e1:wc .u64 ((x:Int)+(y:Int))=(x:Int)+(y:Int):=IntWalk.u64_in _ n0
 rw [e1]
 have e2:wsrc .u64 ((x:Int)+(y:Int)) 1=(((x+y) / 2:Nat):Int):=by
  unfold wsrc
  show Int.fdiv _ (2 ^ 1)=_
  rw [I9 _ n0]
  omega
 rw [e2]
 exact IntWalk.i64_in _ n0
theorem Rr (x y:Int):m_hk x y=some (if x < y then -1 else if y < x then 1 else 0):=by
 unfold m_hk m_c9
 simp only [decide_true,U4,y6,D2,if_false]
 split
 ·rfl
 ·split<;>rfl
theorem Xy (x y:Int):m_hm [x,y]=some (if x=0 then y else x):=by
 unfold m_hm
 by_cases h:x=0
 ·by_cases h2:y=0
  ·subst h; subst h2; rfl
  ·have:loop (m_hl [x,y]) 0=some (.inr y):=by
    refine Ret.eq ?_
    refine Q0 1 (fun k (t:Int)=>t=k) rfl ?_
    rintro k _ hk rfl
    unfold m_hl
    obtain rfl | rfl:k=0∨k=1:=n0
    ·have g:getI [x,y] ((0:Nat):Int)=some x:=rfl
     rw [I0 G0,bindS g,I0 h,wa1 n0,K0,T0]; exact ⟨n0,rfl⟩
    ·have g:getI [x,y] ((1:Nat):Int)=some y:=rfl
     rw [I0 G0,bindS g,J0 h2,K0,E1]
   rw [bindS this,I0 h]
 ·have:loop (m_hl [x,y]) 0=some (.inr x):=by
   refine Ret.eq ?_
   refine Q0 0 (fun k (t:Int)=>t=0) rfl ?_
   rintro k _ hk rfl
   unfold m_hl
   have g:getI [x,y] 0=some x:=rfl
   rw [I0 G0,bindS g,J0 h,K0,E1]
  rw [bindS this,J0 h]
theorem Qe {l:List E3} (hs:l.Pairwise Lt3) {i j:Nat} (cE:i < j) (hj:j < l.length):∃ r,m_hn l[j].1 l[j].2.1 l[j].2.2 (l[i]'(n0)).1 (l[i]'(n0)).2.1 (l[i]'(n0)).2.2=some r∧¬ r < 0:=by
 have h:=J8.1 hs i j n0 hj cE
 unfold m_hn
 rw [bindS (Rr _ _),bindS (Rr _ _),bindS (Xy _ _)]
 refine ⟨_,rfl,?_⟩
 rcases h with h | ⟨h1,h2⟩
 ·have e:(if l[j].2.1 < (l[i]'(n0)).2.1 then (-1:Int) else if (l[i]'(n0)).2.1 < l[j].2.1 then 1 else 0)=1:=by rw [A0,I0 h]
  rw [e]; simp
 ·have e:(if l[j].2.1 < (l[i]'(n0)).2.1 then (-1:Int) else if (l[i]'(n0)).2.1 < l[j].2.1 then 1 else 0)=0:=by rw [A0,A0]
  have e2:(if l[j].1 < (l[i]'(n0)).1 then (-1:Int) else if (l[i]'(n0)).1 < l[j].1 then 1 else 0)=1:=by rw [A0,I0 h2]
  rw [e,e2]; simp
section
variable {l:List E3} (hs:l.Pairwise Lt3) (hl:l.length≤1000)
include hs hl
theorem kq {a b:Nat} (ha:a≤2000) (hb:b≤l.length):m_hq l (a:Int) (b:Int)=some ():=by
 unfold m_hq
 have:loop (m_hp (b:Int) (a:Int) l) (wa .i64 (a:Int) 1)=some ():=by
  refine Ret.eq ?_
  refine Q0 (b - a - 1) (fun k (t:Int)=>t=((a+1+k:Nat):Int)) (wa1 n0) ?_
  rintro k _ hk rfl
  unfold m_hp
  by_cases mK:a+1+k < b
  ·have Nu:loop (m_ho (a:Int) ((a+1+k:Nat):Int) l) ()=some ():=by
    refine Ret.eq ?_
    refine Q0 0 (fun k (t:Unit)=>True) trivial ?_
    rintro _ _ _ _
    obtain ⟨r,r1,r2⟩:=Qe hs (i:=a+k) (j:=a+1+k) n0 n0
    have e1:ws .i64 ((a+1+k:Nat):Int) 1=((a+k:Nat):Int):=by rw [ws_in (by constructor<;>omega)]; omega
    unfold m_ho
    rw [B0,e1,bindS (getI_lt n0),bindS (getI_lt n0),bindS r1,obs,J0 (by simpa using r2),K0,E1]
   rw [B0,bindS Nu,wa1 n0,K0,T0]
   exact ⟨n0,by congr 1⟩
  ·rw [A0,K0,E1]
 rw [bindS this]
omit hs hl in
theorem jw (k:Nat):m_h4 (k+1)=m_h3 (m_h4 k):=by simp only [m_h4]
theorem mw:∀ (d:Nat) (a m b:Nat),b - a≤d→a < m→m < b→b≤l.length→∀ k,d < k→m_h4 k l (a:Int) (m:Int) (b:Int)=some ():=by
 intro d
 induction d with
 | zero=>intros; omega
 | succ d ih=>
  intro a m b hd QP DP hb k hk
  obtain ⟨k,rfl⟩:∃ j,k=j+1:=⟨k - 1,n0⟩
  rw [jw]
  unfold m_h3
  have e1:ws .i64 (m:Int) (a:Int)=((m - a:Nat):Int):=by rw [ws_in (by constructor<;>omega)]; omega
  have e2:ws .i64 (b:Int) (m:Int)=((b - m:Nat):Int):=by rw [ws_in (by constructor<;>omega)]; omega
  rw [e1,e2,mid_ok n0]
  by_cases h1:m - a=1
  ·have q1:loop (m_ht (m:Int) l (a:Int)) (b:Int)=some ():=by
    obtain ⟨o,o1,_⟩:=M9 (step:=m_ht (m:Int) l (a:Int)) (s:=(b:Int)) (fun s=>∃ j:Nat,s=j∧j≤l.length) (fun _=>True) (fun s=>s.toNat) ⟨b,rfl,hb⟩ (by simp; omega) (by
     rintro _ ⟨j,rfl,hj⟩
     unfold m_ht m_hs
     by_cases XN:m < j
     ·obtain ⟨r,r1,r2⟩:=Qe hs (i:=a) (j:=(m+j) / 2) n0 n0
      rw [B0,mid_ok n0,bindS (getI_lt n0),bindS (getI_lt n0),bindS r1,J0 r2]
      exact .inl ⟨_,rfl,⟨_,rfl,n0⟩,by simp; omega⟩
     ·rw [A0]
      exact .inr ⟨_,rfl,trivial⟩)
    exact o1
   have q2:loop (m_hr (a:Int) (m:Int)) ()=some ():=by
    refine Ret.eq ?_
    refine Q0 0 (fun k (t:Unit)=>True) trivial ?_
    rintro _ _ _ _
    have e3:ws .i64 (m:Int) 1=(a:Int):=by rw [ws_in (by constructor<;>omega)]; omega
    unfold m_hr
    rw [e3,A0,K0,E1]
   rw [B0,bindS q1,bindS q2]
  ·rw [A0]
   by_cases h2:b - m=1
   ·have q1:loop (m_hw (m:Int) l) (a:Int)=some (m:Int):=by
     obtain ⟨o,o1,rfl⟩:=M9 (step:=m_hw (m:Int) l) (s:=(a:Int)) (fun s=>∃ j:Nat,s=j∧j≤m) (fun o=>o=(m:Int)) (fun s=>m - s.toNat) ⟨a,rfl,n0⟩ (by simp; omega) (by
      rintro _ ⟨j,rfl,hj⟩
      unfold m_hw m_hv
      by_cases XN:j < m
      ·obtain ⟨r,r1,r2⟩:=Qe hs (i:=(j+m) / 2) (j:=m) n0 n0
       rw [B0,mid_ok n0,bindS (getI_lt n0),bindS (getI_lt n0),bindS r1,J0 r2,wa1 n0]
       exact .inl ⟨_,rfl,⟨_,rfl,n0⟩,by simp; omega⟩
      ·rw [A0]
       exact .inr ⟨_,rfl,n0⟩)
     exact o1
    have q2:loop (m_hu (m:Int) (m:Int)) ()=some ():=by
     refine Ret.eq ?_
     refine Q0 0 (fun k (t:Unit)=>True) trivial ?_
     rintro _ _ _ _
     unfold m_hu
     rw [A0,K0,E1]
    rw [B0,bindS q1,bindS q2]
   ·rw [A0]
    have e3:wa .i64 (((a+b) / 2:Nat):Int) (m:Int)=(((a+b) / 2+m:Nat):Int):=by rw [wa_in (by constructor<;>omega)]; omega
    generalize hq:(a+b) / 2=q at*
    have key:∀ s r:Nat,s≤r→r≤m→r≤q→q+m - s≤b→loop (m_h1 (r:Int) l (a:Int) (b:Int) (m:Int)) (s:Int)=some (r:Int):=by
     intro s r LN ZJ uP qP
     obtain ⟨o,o1,rfl⟩:=M9 (step:=m_h1 (r:Int) l (a:Int) (b:Int) (m:Int)) (s:=(s:Int)) (fun t=>∃ j:Nat,t=j∧s≤j∧j≤r) (fun o=>o=(r:Int)) (fun t=>r - t.toNat) ⟨s,rfl,n0,LN⟩ (by simp; omega) (by
      rintro _ ⟨j,rfl,zE,yE⟩
      unfold m_h1 m_h0
      by_cases HP:j < r
      ·have e4:ws .i64 ((q+m:Nat):Int) 1=((q+m - 1:Nat):Int):=by rw [ws_in (by constructor<;>omega)]; omega
       have e5:ws .i64 ((q+m - 1:Nat):Int) (((j+r) / 2:Nat):Int)=((q+m - 1 - (j+r) / 2:Nat):Int):=by rw [ws_in (by constructor<;>omega)]; omega
       obtain ⟨t,r1,r2⟩:=Qe hs (i:=(j+r) / 2) (j:=q+m - 1 - (j+r) / 2) n0 n0
       rw [B0,mid_ok n0,mid_ok n0,hq,e3,e4,e5,bindS (getI_lt n0),bindS (getI_lt n0),bindS r1,J0 r2,wa1 n0]
       exact .inl ⟨_,rfl,⟨_,rfl,n0,n0⟩,by simp; omega⟩
      ·rw [A0]
       exact .inr ⟨_,rfl,n0⟩)
     exact o1
    by_cases PN:q < m
    ·have e4:ws .i64 ((q+m:Nat):Int) (b:Int)=((q+m - b:Nat):Int):=by rw [ws_in (by constructor<;>omega)]; omega
     have e5:ws .i64 ((q+m:Nat):Int) (q:Int)=(m:Int):=by rw [ws_in (by constructor<;>omega)]; omega
     rw [B0,e3,e4]
     unfold m_h2 m_hz m_hy m_hx
     rw [bindS (key (q+m - b) q n0 n0 n0 n0),mid_ok n0,hq,e3,e5,J0 G0,J0 G0]
     rw [I0 (by simp; omega),bindS (ih q m b n0 n0 n0 hb k n0)]
    ·have e5:ws .i64 ((q+m:Nat):Int) (m:Int)=(q:Int):=by rw [ws_in (by constructor<;>omega)]; omega
     rw [A0]
     unfold m_h2 m_hz m_hy m_hx
     rw [bindS (key a m n0 n0 n0 n0),mid_ok n0,hq,e3,e5,J0 G0]
     by_cases CP:m < q
     ·rw [I0 (by simp; omega),bindS (ih a m q n0 n0 n0 n0 k n0),J0 G0]
     ·rw [J0 (by simp; omega),J0 G0]
omit hs hl in
theorem OA:∃ k,FUEL=k+2000:=⟨9223372036854773808,rfl⟩
theorem yw:m_ia l=some ():=by
 obtain ⟨fu,LP⟩:=OA
 have PL:∀ a m b:Nat,a < m→m < b→b≤l.length→m_h4 FUEL l (a:Int) (m:Int) (b:Int)=some ():=fun a m b h1 h2 h3=>mw hs hl 1000 a m b n0 h1 h2 h3 FUEL n0
 have q1:Ret (loop (m_h8 (l.length:Int) l) (0,20)) (fun o=>∃ a:Nat,o=(a:Int)∧a≤l.length):=by
  refine Q0 60 (fun k (t:Int×Int)=>t=(((20*k:Nat):Int),((20*k+20:Nat):Int))∧20*k≤l.length) ⟨rfl,n0⟩ ?_
  rintro k _ hk ⟨rfl,h1⟩
  unfold m_h8
  simp only
  by_cases h2:20*k+20≤l.length
  ·have e1:wa .i64 ((20*k+20:Nat):Int) 20=((20*(k+1)+20:Nat):Int):=by rw [wa_in (by constructor<;>omega)]; omega
   rw [B0,bindS (kq hs hl n0 h2),e1,K0,T0]
   exact ⟨n0,rfl,n0⟩
  ·rw [A0,K0,E1]
   exact ⟨_,rfl,h1⟩
 obtain ⟨_,o1,a,rfl,ha⟩:=q1
 have q2:loop (m_h7 (l.length:Int) l) 20=some ():=by
  refine Ret.eq ?_
  refine Q0 10 (fun k (t:Int)=>t=((20*2 ^ k:Nat):Int)) rfl ?_
  rintro k _ hk rfl
  unfold m_h7 m_h5
  by_cases hb:20*2 ^ k < l.length
  ·have tI:k < 10:=by
    refine O2 fun h=>?_
    have:k=10:=n0
    subst this
    omega
   have dH:20*2 ^ (k+1)=2*(20*2 ^ k):=by rw [Nat.pow_succ]; omega
   have hp:0 < 2 ^ k:=Nat.pow_pos n0
   generalize 2 ^ k=p at*
   have e1:∀ x:Nat,x≤10000→wm .i64 2 (x:Int)=((2*x:Nat):Int):=fun x hx=>by rw [wm_in (by constructor<;>omega)]; omega
   have e2:wm .i64 ((20*p:Nat):Int) 2=((20*2 ^ (k+1):Nat):Int):=by rw [wm_in (by constructor<;>omega)]; omega
   have q3:Ret (loop (m_h6 (l.length:Int) l ((20*p:Nat):Int)) (0,((2*(20*p):Nat):Int))) (fun o=>∃ a:Nat,o=(a:Int)∧a≤l.length):=by
    refine Q0 2000 (fun k (t:Int×Int)=>∃ a:Nat,t=((a:Int),((a+2*(20*p):Nat):Int))∧a≤l.length∧k≤a) ⟨0,G0,n0,n0⟩ ?_
    rintro j _ hj ⟨a,rfl,h1,h2⟩
    unfold m_h6
    simp only
    by_cases h3:a+2*(20*p)≤l.length
    ·have e3:wa .i64 (a:Int) ((20*p:Nat):Int)=((a+20*p:Nat):Int):=by rw [wa_in (by constructor<;>omega)]; omega
     have e4:wa .i64 ((a+2*(20*p):Nat):Int) ((2*(20*p):Nat):Int)=((a+2*(20*p)+2*(20*p):Nat):Int):=by rw [wa_in (by constructor<;>omega)]; omega
     rw [B0,e3,bindS (PL _ _ _ n0 n0 h3),e1 _ n0,e4,K0,T0]
     exact ⟨n0,_,rfl,h3,n0⟩
    ·rw [A0,K0,E1]
     exact ⟨_,rfl,h1⟩
   obtain ⟨_,o1,a,rfl,ha⟩:=q3
   have e3:wa .i64 (a:Int) ((20*p:Nat):Int)=((a+20*p:Nat):Int):=by rw [wa_in (by constructor<;>omega)]; omega
   rw [B0,e1 _ n0,bindS o1,e3]
   by_cases h4:a+20*p < l.length
   ·rw [B0,bindS (PL _ _ _ n0 h4 (O4 _)),e2,K0,T0]
    exact ⟨tI,rfl⟩
   ·rw [A0,e2,K0,T0]
    exact ⟨tI,rfl⟩
  ·rw [A0,K0,E1]
 unfold m_ia m_h9
 rw [bindS o1,bindS (kq hs hl n0 (O4 _)),bindS q2]
 rfl
theorem Cw:m_ib l=some l:=by
 unfold m_ib m_hj
 rw [bindS (app_small (by simp; omega))]
 simp only [v8,y6]
 rw [bindS (yw hs hl)]
end
def cn (l:List E3) (j:Nat):Nat:=l.countP fun e=>decide (e.2.1=(j:Int))
def cl (l:List E3) (j:Nat):Nat:=l.countP fun e=>decide (e.2.1 < (j:Int))
theorem Hi (j:Nat):∀ l:List E3,cl l (j+1)=cl l j+cn l j
 | []=>rfl
 | e::l=>by
  have h:=Hi j l
  unfold cl cn at h ⊢
  simp only [Kt,decide_eq_true_eq]
  by_cases h1:e.2.1 < (j:Int)
  ·rw [I0 h1,B0,A0]; omega
  ·by_cases h2:e.2.1=(j:Int)
   ·rw [J0 h1,B0,I0 h2]; omega
   ·rw [J0 h1,A0,J0 h2]; omega
theorem iC (l:List E3) (e:E3) (j:Nat):cn (l++[e]) j=cn l j+if e.2.1=(j:Int) then 1 else 0:=by
 unfold cn
 rw [List.countP_append,Kt]
 simp
def fc (l:List E3) (c:Nat):List E3:=l.filter fun e=>decide (e.2.1=(c:Int))
def fl (l:List E3) (c:Nat):List E3:=l.filter fun e=>decide (e.2.1 < (c:Int))
theorem Bq (k:Nat):∀ {l:List E3},l.Pairwise Lt3→fl l (k+1)=fl l k++fc l k
 | [],_=>rfl
 | e::l,h=>by
  rw [z6] at h
  have ih:=Bq k h.2
  unfold fl fc at ih ⊢
  by_cases h1:e.2.1 < (k:Int)
  ·rw [Tf (by simp; omega),Tf (by simpa using h1),Uc (by simp; omega),ih,Da]
  ·by_cases h2:e.2.1=(k:Int)
   ·have h3:l.filter (fun e=>decide (e.2.1 < (k:Int)))=[]:=by
     rw [tj]
     intro x hx
     have:=h.1 x hx
     unfold Lt3 at this
     simp; omega
    rw [h3,v8] at ih
    rw [Tf (by simp; omega),Uc (by simpa using h1),Tf (by simpa using h2),h3,v8,ih]
   ·rw [Uc (by simp; omega),Uc (by simpa using h1),Uc (by simpa using h2),ih]
def colsL (l:List E3) (C:Nat):L2:=(List.range C).map fun c=>(fc l c).map (·.1)
theorem Jr {l:List E3} (h:l.Pairwise Lt3):∀ k,(colsL l k).flatten=(fl l k).map (·.1)∨(∃ e,e∈l∧e.2.1 < 0)
 | 0=>by
  by_cases h0:∃ e,e∈l∧e.2.1 < 0
  ·exact .inr h0
  ·left
   have:fl l 0=[]:=by
    unfold fl
    rw [tj]
    intro x hx
    simp only [decide_eq_true_eq]
    exact fun hlt=>h0 ⟨x,hx,by simpa using hlt⟩
   rw [this]; rfl
 | k+1=>by
  rcases Jr h k with h1 | h1
  ·left
   have e:colsL l (k+1)=colsL l k++[(fc l k).map (·.1)]:=by unfold colsL; rw [Oc,o7]; rfl
   rw [e,j6,h1,Bq k h,o7]
   simp
  ·exact .inr h1
section
variable {R C:Nat} {l:List E3} (hs:l.Pairwise Lt3) (hr:∀ e,e∈l→(0≤e.1∧e.1 < R)∧0≤e.2.1∧e.2.1 < C)
include hr
theorem Ur:cl l 0=0:=by
 unfold cl
 rw [List.countP_eq_zero]
 intro x hx
 have:=hr x hx
 simp; omega
theorem bz {j:Nat} (hj:j≤C):off (colsL l C) j=cl l j:=by
 induction j with
 | zero=>rw [Ur hr]; simp [off]
 | succ j ih=>
  have:(colsL l C)[j]?=some ((fc l j).map (·.1)):=by simp [colsL,show j < C by omega]
  rw [k9 this,ih n0,Hi,L8]
  unfold cn fc
  rw [nD]
include hs
theorem dA:l.map (·.1)=(colsL l C).flatten:=by
 rcases Jr hs C with h | ⟨e,he,h⟩
 ·rw [h]
  have:fl l C=l:=by
   unfold fl
   rw [List.filter_eq_self]
   intro x hx
   have:=hr x hx
   simp; omega
  rw [this]
 ·have:=hr e he; omega
theorem uC (hR:R≤100) (hC:C≤100) (hl:l.length≤1000) (hf:∀ e,e∈l→m_di e.2.2=some false):∃ st,m_ie (R:Int) (C:Int) l=some ((R:Int),(C:Int),st,l.map (·.1),l.map (·.2.2))∧Mv R C (colsL l C) st (l.map (·.1)) (l.map (·.2.2)):=by
 have q1:Ret (loop (m_id l) (List.replicate (C+1) 0,[],[],0)) (fun o=>o.2.1=l.map (·.1)∧o.2.2=l.map (·.2.2)∧o.1.length=C+1∧o.1[0]?=some 0∧∀ c,c < C→o.1[c+1]?=some (cn l c:Int)):=by
  refine Q0 l.length (fun k (t:LI×LI×LI×Int)=>t.2.2.2=k∧t.2.1=(l.take k).map (·.1)∧t.2.2.1=(l.take k).map (·.2.2)∧t.1.length=C+1∧t.1[0]?=some 0∧∀ c,c < C→t.1[c+1]?=some (cn (l.take k) c:Int)) ⟨rfl,rfl,rfl,G0,G0,fun c hc=>by simp [cn,hc]⟩ ?_
  rintro k ⟨st,ix,vl,_⟩ hk ⟨hi,h1,h2,h3,h4,h5⟩
  simp only at hi h1 h2 h3 h4 h5
  subst hi h1 h2
  unfold m_id
  simp only
  by_cases Cu:k < l.length
  ·obtain ⟨⟨r,c,x⟩,hx⟩:∃ x,l[k]?=some x:=⟨l[k],by simp [Cu]⟩
   have GH:=hr _ (X2 hx)
   simp only at GH
   obtain ⟨c,rfl⟩:=D3 GH.2.1
   have e1:getI l (k:Int)=some (r,(c:Int),x):=hx
   have e2:=h5 c n0
   have e3:getI st ((c+1:Nat):Int)=some (cn (l.take k) c:Int):=e2
   have yM:cn (l.take k) c≤1000:=Q5 yj (by simp; omega)
   rw [B0,bindS e1]
   simp only
   have e4:wa .i64 (cn (l.take k) c:Int) 1=((cn (l.take k) c+1:Nat):Int):=wa1 n0
   have e5:wa .i64 (c:Int) 1=((c+1:Nat):Int):=wa1 n0
   have e6:wa .i64 (k:Int) 1=((k+1:Nat):Int):=wa1 n0
   rw [bindS (app_small (by simp; omega)),bindS (app_small (by simp; omega)),e5,bindS e3,e4,bindS (setI_lt n0),e6,K0,T0]
   refine ⟨Cu,rfl,by simp [tks hx],by simp [tks hx],by simp [h3],by simp [h4],fun c' Hu=>?_⟩
   simp only
   rw [tks hx,iC,B3]
   by_cases he:c=c'
   ·subst he
    rw [I0 rfl,B0,I0 rfl]
   ·rw [A0,h5 c' Hu,J0 (by simp only; omega)]; rfl
  ·rw [A0,K0,E1]
   rw [O3 n0] at h5 ⊢
   exact ⟨rfl,rfl,h3,h4,h5⟩
 obtain ⟨⟨st,ix,vl⟩,o1,o2,o3,o4,o5,o6⟩:=q1
 simp only at o2 o3 o4 o5 o6
 subst o2 o3
 have Hv:∀ j,cl l j≤1000:=fun j=>Q5 yj n0
 have yM:∀ j,cn l j≤1000:=fun j=>Q5 yj n0
 have q2:Ret (loop (m_ic (C:Int)) (st,0)) (fun o=>o.length=C+1∧∀ j,j≤C→o[j]?=some (cl l j:Int)):=by
  refine Q0 C (fun k (t:LI×Int)=>t.2=k∧t.1.length=C+1∧(∀ j,j≤k→t.1[j]?=some (cl l j:Int))∧∀ c,k≤c→c < C→t.1[c+1]?=some (cn l c:Int)) ⟨rfl,o4,fun j hj=>by obtain rfl:j=0:=n0; rw [Ur hr]; exact o5,fun c _ hc=>o6 c hc⟩ ?_
  rintro k ⟨s,_⟩ hk ⟨hi,h1,h2,h3⟩
  simp only at hi h1 h2 h3
  subst hi
  unfold m_ic
  simp only
  by_cases Cu:k < C
  ·have e1:getI s ((k+1:Nat):Int)=some (cn l k:Int):=h3 k (O4 _) Cu
   have e2:getI s (k:Int)=some (cl l k:Int):=h2 k (O4 _)
   have e5:wa .i64 (k:Int) 1=((k+1:Nat):Int):=wa1 n0
   have e6:wa .i64 (cn l k:Int) (cl l k:Int)=(cl l (k+1):Int):=by
    have:=Hv k; have:=yM k
    rw [wa_in (by constructor<;>omega),Hi]; omega
   rw [B0,e5,bindS e1,bindS e2,e6,bindS (setI_lt n0),K0,T0]
   refine ⟨Cu,rfl,by simp [h1],fun j hj=>?_,fun c cx uv=>?_⟩
   ·simp only
    rw [B3]
    by_cases he:k+1=j
    ·subst he; rw [I0 rfl,B0]
    ·rw [J0 he]; exact h2 j n0
   ·simp only
    rw [B3,A0]
    exact h3 c n0 uv
  ·rw [A0,K0,E1]
   have:k=C:=n0
   subst this
   exact ⟨h1,h2⟩
 obtain ⟨s,p1,p2,p3⟩:=q2
 refine ⟨s,?_,?_⟩
 ·unfold m_ie
  rw [wa1 n0,bindS (G4 0 (C+1) n0),bindS (Cw hs hl),bindS o1]
  simp only
  rw [bindS p1]
 ·refine ⟨by simp [colsL],fun m hm=>?_,fun m hm i hi=>?_,dA hs hr,p2,fun j hj=>by rw [bz hr hj]; exact p3 j hj,G0,fun v hv=>?_⟩
  ·simp only [colsL,Z5] at hm
   obtain ⟨c,_,rfl⟩:=hm
   rw [lj]
   refine List.Pairwise.imp_of_mem (fun {a b} ha hb nE=>?_) (hs.sublist List.filter_sublist)
   simp only [fc,n7,decide_eq_true_eq] at ha hb
   unfold Lt3 at nE
   omega
  ·simp only [colsL,Z5] at hm
   obtain ⟨c,_,rfl⟩:=hm
   obtain ⟨e,he,rfl⟩:=Z5.1 hi
   exact (hr e (n7.1 he).1).1
  ·obtain ⟨e,he,rfl⟩:=Z5.1 hv
   exact hf e he
end
theorem cC {l:List E3} {C c r:Nat} (hC:∀ e,e∈l→e.2.1 < C):inE (colsL l C) c r↔ER l r c:=by
 constructor
 ·rintro ⟨m,h1,h2⟩
  have hc:c < C:=by have:=(C2.1 h1).1; simpa [colsL] using this
  simp only [colsL,H7,Rc hc,H8,w6] at h1
  subst h1
  obtain ⟨⟨a,b,x⟩,he,h3⟩:=Z5.1 h2
  simp only [fc,n7,decide_eq_true_eq] at he h3
  exact ⟨x,by rw [← h3,← he.2]; exact he.1⟩
 ·rintro ⟨x,hx⟩
  have hc:c < C:=by have:=hC _ hx; simp only at this; omega
  exact ⟨(fc l c).map (·.1),by simp [colsL,hc],Z5.2 ⟨_,n7.2 ⟨hx,G0⟩,rfl⟩⟩
theorem Kz {n:Nat} {E:L2} {st ix vl:LI} (h:Mv n n E st ix vl) (hn:n≤30):∃ st' ix' vl' E',m_ih (n:Int) (n:Int) st ix vl=some ((n:Int),(n:Int),st',ix',vl',0)∧Mv n n E' st' ix' vl'∧∀ c r,inE E' c r↔inE E c r∧c≤r:=by
 obtain ⟨l,l1,l2,l3,l4,l5⟩:=nr h n0 n0
 have h2:n*n≤30*30:=F5 hn hn
 have q:loop (m_ig l) ([],0)=some (l.filter fun e=>decide (e.2.1≤e.1)):=by
  refine Ret.eq ?_
  refine Q0 l.length (fun k (t:List E3×Int)=>t.2=k∧t.1=(l.take k).filter fun e=>decide (e.2.1≤e.1)) ⟨rfl,rfl⟩ ?_
  rintro k ⟨t,_⟩ hk ⟨hi,h1⟩
  simp only at hi h1
  subst hi h1
  unfold m_ig m_if
  simp only
  by_cases Cu:k < l.length
  ·have hx:l[k]?=some l[k]:=J2 Cu
   generalize l[k]=e at hx
   have e1:getI l (k:Int)=some e:=hx
   have DG:((l.take k).filter fun e=>decide (e.2.1≤e.1)).length≤1000:=Q5 (Et _ _) (by simp; omega)
   rw [B0,bindS e1,tks hx,List.filter_append,wa1 n0]
   by_cases hc:e.2.1≤e.1
   ·rw [I0 hc,bindS (app_small (by simp only [w8]; omega)),K0,T0]
    exact ⟨Cu,rfl,by simp [hc]⟩
   ·rw [J0 hc,K0,T0]
    exact ⟨Cu,rfl,by simp [hc]⟩
  ·rw [A0,K0,E1,O3 n0]
 have hm:∀ e,e∈(l.filter fun e=>decide (e.2.1≤e.1))→e∈l:=fun e he=>(n7.1 he).1
 obtain ⟨s,s1,s2⟩:=uC (l4.srt.sublist List.filter_sublist) (R:=n) (C:=n) (fun e he=>l4.rng e (hm e he)) n0 n0 (Q5 (Et _ _) n0) (fun e he=>h.fin _ (l4.val e (hm e he)))
 refine ⟨_,_,_,_,?_,s2,fun c r=>?_⟩
 ·unfold m_ih
  rw [bindS l3,I0 rfl,bindS l1,bindS q,bindS s1]
 ·rw [cC (fun e he=>(l4.rng e (hm e he)).2.2),l4.mem]
  unfold ER
  constructor
  ·rintro ⟨x,hx⟩
   rw [n7] at hx
   have:=hx.2
   simp only [decide_eq_true_eq] at this
   exact ⟨⟨x,hx.1⟩,n0⟩
  ·rintro ⟨⟨x,hx⟩,h3⟩
   exact ⟨x,n7.2 ⟨hx,by simp only [decide_eq_true_eq]; omega⟩⟩
def SyE (E:L2):Prop:=∀ c r,inE E c r→inE E r c
theorem Lz {n:Nat} {E E':L2} (h:SyE E) (hE:∀ c r,inE E' c r↔inE E c r∧c≤r):gph n E'=gph n E:=CA fun v w=>by
 unfold NbE
 rw [hE,hE]
 constructor
 ·rintro ⟨h1,h2 | h2⟩
  ·exact ⟨h1,.inl h2.1⟩
  ·exact ⟨h1,.inr h2.1⟩
 ·rintro ⟨h1,h2⟩
  have a:inE E v w:=h2.elim id fun h2=>h w v h2
  refine ⟨h1,?_⟩
  rcases Nat.le_total v w with h3 | h3
  ·exact .inl ⟨a,h3⟩
  ·exact .inr ⟨h v w a,h3⟩
end Ts
namespace Km
open Pl Sx Go M Vc
def RF (vl:LI):Prop:=∀ v,v∈vl→m_d v=some true
theorem Gq {vl:LI} (hl:vl.length≤100000):∃ b,m_b7 vl=some b∧(b=true↔RF vl):=by
 have h1:Ret (loop (m_b6 vl) 0) (fun o=>(o=.inl ()∧RF vl)∨(o=.inr ()∧¬ RF vl)):=by
  refine Q0 vl.length (fun k (t:Int)=>t=(k:Int)∧RF (vl.take k)) ⟨rfl,fun v hv=>by simp at hv⟩ ?_
  rintro k _ hk ⟨rfl,hI⟩
  unfold m_b6
  by_cases ou:k < vl.length
  ·have hw:wa .i64 (k:Int) 1=((k+1:Nat):Int):=wa1 n0
   obtain ⟨b,hb⟩:∃ b,m_d vl[k]=some b:=⟨_,rfl⟩
   rw [B0,bindS (getI_lt ou),bindS hb]
   cases b with
   | true=>
    rw [I0 rfl,hw,K0,T0]
    refine ⟨ou,rfl,fun v hv=>?_⟩
    rcases (mts (J2 ou)).1 hv with h | rfl
    ·exact hI v h
    ·exact hb
   | false=>
    rw [J0 G0,K0,E1]
    refine .inr ⟨rfl,fun h=>?_⟩
    have:=h _ (Z1 ou)
    rw [hb] at this
    cases this
  ·rw [A0,K0,E1]
   rw [O3 n0] at hI
   exact .inl ⟨rfl,hI⟩
 obtain ⟨o,o1,o2⟩:=h1
 unfold m_b7
 rw [bindS o1]
 rcases o2 with ⟨rfl,h⟩ | ⟨rfl,h⟩
 ·exact ⟨true,rfl,by simp [h]⟩
 ·exact ⟨false,rfl,by simp [h]⟩
section
variable {R C:Nat} {E:L2} {st ix vl:LI}
theorem Mv.at_ (h:Mv R C E st ix vl) {j:Nat} {l:LI} (hl:E[j]?=some l) {k:Nat} (hk:k < l.length):ix[off E j+k]?=l[k]?:=by
 have h1:=Sa hl
 have h2:=k9 hl
 rw [h.ixe]
 have:l[k]?=((E.flatten.take (off E (j+1))).drop (off E j))[k]?:=by rw [h1]
 rw [this,B6,K5]
 rw [B0]
theorem Mv.start (h:Mv R C E st ix vl) {j:Nat} (hj:j≤C):getI st (j:Int)=some (off E j:Int):=h.ste j hj
theorem kB (h:Mv R C E st ix vl) (hR:R≤100000) (hx:ix.length≤100000) (hC:C≤100000) {j:Nat} (hj:j < C):loop (m_b8 st (j:Int) ix (R:Int)) (off E j:Int)=some (.inl ()):=by
 have hl:E[j]?=some (E[j]'(by rw [h.len]; exact hj)):=J2 (by rw [h.len]; exact hj)
 generalize E[j]'(by rw [h.len]; exact hj)=l at hl
 have ZL:=k9 hl
 have dK:=W7 E (j:=j+1)
 have yH:off E (j+1)≤100000:=by rw [← h.ixe] at dK; omega
 have eF:=h.asc l (X2 hl)
 have kL:=h.rng l (X2 hl)
 refine Ret.eq ?_
 refine Q0 l.length (fun k (t:Int)=>t=((off E j+k:Nat):Int)) rfl ?_
 rintro k _ hk rfl
 unfold m_b8
 have sN:wa .i64 (j:Int) 1=((j+1:Nat):Int):=wa1 n0
 rw [sN,bindS (h.start n0)]
 by_cases Cu:k < l.length
 ·have hw:wa .i64 ((off E j+k:Nat):Int) 1=((off E j+(k+1):Nat):Int):=by rw [wa1 n0]; omega
  have hg:getI ix ((off E j+k:Nat):Int)=some l[k]:=(h.at_ hl Cu).trans (J2 Cu)
  have hr:=kL _ (Z1 Cu)
  rw [B0,bindS hg,A0,bindS hg,obs,decide_eq_false n0,J0 G0,bindS (h.start n0)]
  by_cases TH:k=0
  ·subst TH
   rw [A0,obs,obs,J0 G0,hw,K0,T0]
   exact ⟨Cu,rfl⟩
  ·have qN:ws .i64 ((off E j+k:Nat):Int) 1=((off E j+(k - 1):Nat):Int):=by rw [ws_in (by constructor<;>omega)]; omega
   have pH:getI ix ((off E j+(k - 1):Nat):Int)=some (l[k - 1]'(n0)):=(h.at_ hl n0).trans (J2 n0)
   have hlt:=y9 eF (i:=k - 1) (j:=k) Cu n0
   rw [B0,bindS hg,qN,bindS pH,obs,decide_eq_false n0,obs,J0 G0,hw,K0,T0]
   exact ⟨Cu,rfl⟩
 ·rw [A0,K0,E1]
theorem Lq {v0:LI} (h:Mv R C E st ix v0) (xv:vl.length=ix.length) (hR:R≤200) (hC:C≤200) (hx:ix.length≤10000) {bb:Bool} (hf:m_b7 vl=some bb):m_cb (R:Int) (C:Int) st ix vl=some (if bb=true then 0 else 4):=by
 have kx:=h.sl
 have g0:getI st 0=some 0:=h.ste 0 n0
 have gC:getI st (C:Int)=some (ix.length:Int):=by
  have:=h.ste C n0
  rw [← h.len,yp,← h.ixe] at this
  rw [← h.len]
  exact this
 have hw:wa .i64 (C:Int) 1=((C+1:Nat):Int):=wa1 n0
 have l1:loop (m_ca (C:Int) st) 0=some (.inl ()):=by
  refine Ret.eq ?_
  refine Q0 C (fun k (t:Int)=>t=(k:Int)) rfl ?_
  rintro k _ hk rfl
  unfold m_ca
  by_cases ou:k < C
  ·have RJ:wa .i64 (k:Int) 1=((k+1:Nat):Int):=wa1 n0
   have o1:=Q9 (E:=E) (i:=k) (j:=k+1) n0
   rw [B0,bindS (h.start n0),RJ,bindS (h.start n0),A0,K0,T0]
   exact ⟨ou,rfl⟩
  ·rw [A0,K0,E1]
 have l2:loop (m_b9 (C:Int) st ix (R:Int)) 0=some (.inl ()):=by
  refine Ret.eq ?_
  refine Q0 C (fun k (t:Int)=>t=(k:Int)) rfl ?_
  rintro k _ hk rfl
  unfold m_b9
  by_cases ou:k < C
  ·have RJ:wa .i64 (k:Int) 1=((k+1:Nat):Int):=wa1 n0
   rw [B0,bindS (h.start n0),bindS (kB h n0 n0 n0 ou),RJ,K0,T0]
   exact ⟨ou,rfl⟩
  ·rw [A0,K0,E1]
 unfold m_cb
 rw [J0 (by simp only [U5,decide_eq_true_eq]; omega),hw,J0 (by simp only [U5,Yf,decide_eq_false_iff_not]; omega),bindS g0,obs]
 simp only [decide_true,U4]
 rw [J0 G0,bindS gC,obs]
 simp only [decide_true,U4]
 rw [J0 G0,bindS l1]
 simp only
 rw [bindS l2]
 simp only
 rw [bindS hf]
 split<;>rfl
theorem jB (h:Mv R C E st ix vl) (hR:R≤200) (hC:C≤200) (hx:ix.length≤10000) (hf:RF vl):m_cb (R:Int) (C:Int) st ix vl=some 0:=by
 obtain ⟨b,b1,b2⟩:=Gq (vl:=vl) (by have:=h.vle; omega)
 rw [Lq h h.vle hR hC hx b1,b2.2 hf]
 rfl
end
open Lm
theorem Ge (x:Int) {n:Nat} (h0:0 < n) (h1:n < 9223372036854775808):∃ z:Nat,m_a x (n:Int)=some (z:Int)∧z < n:=by
 unfold m_a
 rw [I3 (x:=(n:Int)) ⟨n0,n0⟩,lg]
 have h2:=n4 x (show (18446744073709551616:Int)≠0 by omega)
 generalize x % 18446744073709551616=y at*
 unfold wr
 rw [A0,obs,Wc h2]
 have h3:=n4 y (show (n:Int)≠0 by omega)
 have h4:=D4 y (show (0:Int) < n by omega)
 exact ⟨(y % n).toNat,by rw [U6 ⟨n0,n0⟩]; congr 1; omega,n0⟩
def U64 (x:Int):Prop:=0≤x∧x < 18446744073709551616
theorem Ru (x y:Int):U64 (wxor .u64 x y):=by
 unfold wxor U64
 rw [IntKind.wrap_u64]
 omega
theorem Yu (l:LI) (k:Int) (hl:l.length < 9223372036854775808):Ret (m_c l k) U64:=by
 have hj:∀ x,Ret (m_b x) U64:=fun x=>⟨_,rfl,Ru _ _⟩
 unfold m_c
 rw [C1]
 refine ⟨fun h0=>?_,fun _=>hj _⟩
 obtain ⟨z,h1,h2⟩:=Ge k (n:=l.length) n0 hl
 rw [h1,obs,bindS (getI_lt h2)]
 exact hj _
theorem Gf.fin {a b:Nat} {f:Int} (h:Gf a b f) (ha:0 < a) (hb:b < 2047):m_di f=some false∧m_d f=some true:=by
 rcases h with rfl | ⟨s,e,m,hs,h1,h2,hm,rfl⟩
 ·exact ⟨H0,H0⟩
 ·unfold m_di m_dh m_dg m_d
  rw [obs,obs,o9 hs n0 hm,U6 ⟨n0,n0⟩]
  simp only
  rw [decide_eq_false n0]
  exact ⟨rfl,rfl⟩
def gfB (f:Int):Bool:=decide (0≤f∧f < 18446744073709551616) && (decide (f=0) || decide (980≤f / 4503599627370496 % 2048∧f / 4503599627370496 % 2048≤1066))
theorem FA {f:Int} (h:gfB f=true):Gf 980 1066 f:=by
 unfold gfB at h
 simp only [V4,U5,decide_eq_true_eq] at h
 obtain ⟨⟨h0,h1⟩,h2 | h2⟩:=h
 ·exact .inl h2
 ·obtain ⟨s,e,m,hs,he,hm,rfl⟩:=Xe h0 h1
  refine .inr ⟨s,e,m,hs,?_,?_,hm,rfl⟩<;>(unfold Fl Fn_ at h2; omega)
theorem Ew:(List.range 19).all (fun n=>match m_bz ((n:Int) - 9) 0 with | some f=>gfB f | none=>false)=true:=H0
theorem Fw {x:Int} (hx:U64 x):Ret (m_b0 x) (Gf 980 1066):=by
 unfold U64 at hx
 have e1:wrc x 19=x % 19:=Wc hx.1
 have h2:=n4 x (show (19:Int)≠0 by omega)
 have h3:=D4 x (show (0:Int) < 19 by omega)
 have h4:=Q6.1 Ew (x % 19).toNat (m7.2 n0)
 rw [z8 h2] at h4
 unfold m_b0
 rw [e1,U6 ⟨n0,n0⟩,H3 n0 n0]
 split at h4
 ·rename_i f hf
  rw [hf,obs]
  exact ⟨f,rfl,FA h4⟩
 ·cases h4
theorem ez {x:Int} (hx:U64 x) {st:Nat} (nu:st < 3):Ret (m_b1 x (st:Int)) (Gf 980 1066):=by
 obtain ⟨z,h1,h2⟩:=Ge (st:Int) (n:=4) n0 n0
 have hz:(z:Int)=(st:Int):=by
  have:m_a (st:Int) ((4:Nat):Int)=some (st:Int):=by
   rcases (show st=0∨st=1∨st=2 by omega) with rfl | rfl | rfl<;>kernel_rfl
  rw [this] at h1
  exact (P1 h1).symm
 rw [hz] at h1
 unfold U64 at hx
 obtain ⟨s,e,m,hs,he,hm,rfl⟩:=Xe hx.1 hx.2
 unfold m_b1
 rw [show (4:Int)=((4:Nat):Int) from rfl,h1,obs]
 rcases (show st=0∨st=1∨st=2 by omega) with rfl | rfl | rfl
 ·rw [A0,A0,A0,O0]
  exact (Fw hx).mono fun f hf=>⟨f,rfl,hf⟩
 ·rw [B0]
  have e1:wand .u64 (wsrc .u64 (Fl s e m) 52) 7=(((2048*s+e) % 8:Nat):Int):=by
   rw [Cq hs he hm,show (7:Int)=((7:Nat):Int) from rfl,Nb (x:=2048*s+e) (y:=7) n0 n0]
   exact S0 _ (Gb (2048*s+e) 3)
  have e2:wslc .u64 (wa .u64 1019 (((2048*s+e) % 8:Nat):Int)) 52=((4503599627370496*(1019+(2048*s+e) % 8):Nat):Int):=by
   rw [V6 ⟨n0,n0⟩]
   unfold wslc
   show IntKind.u64.wrap (_*2 ^ 52)=_
   rw [IntWalk.u64_in _ n0]
   omega
  have e3:=Dq hs he hm (q:=0) n0 (e':=1019+(2048*s+e) % 8) n0 (y:=9227875636482146303) (by decide) (by decide)
  rw [e1,e2]
  exact ⟨_,rfl,.inr ⟨s,1019+(2048*s+e) % 8,m / 1 ,hs,n0,n0,n0,by rw [show (9227875636482146303:Int)=((9227875636482146303:Nat):Int) from rfl,e3]; congr 1; omega⟩⟩
 ·rw [A0,B0]
  have e0:wsrc .u64 (Fl s e m) 8=((Fn_ s e m / 256:Nat):Int):=by
   unfold wsrc Fl
   show Int.fdiv _ (2 ^ 8)=_
   rw [I9 _ n0]
   rfl
  have e1:wrc (wsrc .u64 (Fl s e m) 8) 81=((Fn_ s e m / 256 % 81:Nat):Int):=by
   rw [e0]
   show Int.tmod _ 81=_
   rw [Wc n0]
   rfl
  generalize hr:Fn_ s e m / 256 % 81=r at e1
  have iE:r < 81:=n0
  have e2:wslc .u64 (wa .u64 983 (r:Int)) 52=((4503599627370496*(983+r):Nat):Int):=by
   rw [V6 ⟨n0,n0⟩]
   unfold wslc
   show IntKind.u64.wrap (_*2 ^ 52)=_
   rw [IntWalk.u64_in _ n0]
   omega
  have e3:=Dq hs he hm (q:=51) n0 (e':=983+r) n0 (y:=9225623836668461056) (by decide) (by decide)
  rw [e1,e2]
  exact ⟨_,rfl,.inr ⟨s,983+r,2 ^ 51*(m / 2 ^ 51),hs,n0,n0,n0,by rw [show (9225623836668461056:Int)=((9225623836668461056:Nat):Int) from rfl,e3]⟩⟩
structure Pm (a b R C:Nat) (E:L2) (st ix vl:LI):Prop where
 mv:Mv R C E st ix vl
 gf:∀ v,v∈vl→Gf a b v
 le:ix.length≤R*C
theorem Pm.zero (a b R:Nat):Pm a b R 0 [] [0] [] []:=⟨⟨rfl,(by intro l h; cases h),(by intro l h; cases h),rfl,rfl,(by
 intro j hj
 obtain rfl:j=0:=n0
 rfl),rfl,(by intro l h; cases h)⟩,(by intro l h; cases h),n8 _⟩
theorem Pm.snoc {a b R C:Nat} {E:L2} {st ix vl l u:LI} (h:Pm a b R C E st ix vl) (ha:0 < a) (hb:b < 2047) (hs:l.Pairwise (· < ·)) (hr:∀ x,x∈l→0≤x∧x < (R:Int)) (hu:u.length=l.length) (hg:∀ v,v∈u→Gf a b v):Pm a b R (C+1) (E++[l]) (st++[((ix++l).length:Int)]) (ix++l) (vl++u):=by
 have hl:=asc_len hs hr
 refine ⟨⟨by rw [H2,h.mv.len]; rfl,?_,?_,by rw [j6,← h.mv.ixe]; simp,by rw [H2,h.mv.sl]; rfl,?_,by rw [H2,H2,h.mv.vle,hu],?_⟩,?_,?_⟩
 ·intro m hm
  rcases I2.1 hm with hm | hm
  ·exact h.mv.asc m hm
  ·rw [Z2.1 hm]; exact hs
 ·intro m hm
  rcases I2.1 hm with hm | hm
  ·exact h.mv.rng m hm
  ·rw [Z2.1 hm]; exact hr
 ·intro j hj
  have qI:∀ j,j≤C→off (E++[l]) j=off E j:=by
   intro j hj
   unfold off
   rw [gD (by rw [h.mv.len]; exact hj)]
  by_cases yE:j≤C
  ·rw [O6 (by rw [h.mv.sl]; omega),h.mv.ste j yE,qI j yE]
  ·obtain rfl:j=C+1:=n0
   rw [F9 (by rw [h.mv.sl]; omega),h.mv.sl,Fb]
   have e1:off (E++[l]) (C+1)=(ix++l).length:=by
    unfold off
    rw [P4 (by rw [H2,h.mv.len]; exact O4 _),j6,← h.mv.ixe]
    simp
   rw [e1]; rfl
 ·intro v hv
  rcases I2.1 hv with hv | hv
  ·exact h.mv.fin v hv
  ·exact ((hg v hv).fin ha hb).1
 ·intro v hv
  rcases I2.1 hv with hv | hv
  ·exact h.gf v hv
  ·exact hg v hv
 ·rw [H2,Nat.mul_add,ra]
  have:=h.le
  omega
theorem GA (l:LI) (hl:l.length < 9223372036854775808) {r c st:Nat} (hr:r≤20) (hc:c≤20) (nu:st < 3):Ret (m_b5 l (r:Int) (c:Int) (st:Int)) (fun o=>o.1=(r:Int)∧o.2.1=(c:Int)∧∃ E,Pm 980 1066 r c E o.2.2.1 o.2.2.2.1 o.2.2.2.2):=by
 unfold m_b5
 refine lu (Q0 (Post:=fun o:LI×LI×LI=>∃ E,Pm 980 1066 r c E o.1 o.2.1 o.2.2) c (fun k (t:LI×LI×LI×Int)=>t.2.2.2=(k:Int)∧∃ E,Pm 980 1066 r k E t.1 t.2.1 t.2.2.1) ⟨rfl,[],Pm.zero ..⟩ ?_ n0) ?_
 ·rintro k ⟨sl,ix,vl,_⟩ hk ⟨rfl,E,hE⟩
  simp only at hE
  unfold m_b4
  simp only
  rw [C1]
  refine ⟨fun hlt=>?_,fun nv=>⟨_,rfl,by obtain rfl:k=c:=n0; exact ⟨E,hE⟩⟩⟩
  have vP:r*k≤400:=Q5 (F5 hr (by omega:k≤20)) n0
  have hle:=hE.le
  have xv:=hE.mv.vle
  have kx:=hE.mv.sl
  refine lu (Q0 (Post:=fun o:LI×LI=>∃ u v:LI,o=(ix++u,vl++v)∧u.Pairwise (· < ·)∧(∀ x,x∈u→0≤x∧x < (r:Int))∧v.length=u.length∧∀ f,f∈v→Gf 980 1066 f) r (fun i (t:LI×LI×Int)=>t.2.2=(i:Int)∧∃ u v:LI,t.1=ix++u∧t.2.1=vl++v∧u.Pairwise (· < ·)∧(∀ x,x∈u→0≤x∧x < (i:Int))∧v.length=u.length∧∀ f,f∈v→Gf 980 1066 f) ⟨rfl,[],[],G0,G0,List.Pairwise.nil,(by intro x h; cases h),rfl,(by intro x h; cases h)⟩ ?_ n0) ?_
  ·rintro i ⟨_,_,_⟩ hi ⟨rfl,u,v,rfl,rfl,h1,h2,h3,h4⟩
   unfold m_b3
   simp only
   rw [C1]
   refine ⟨fun hlt=>?_,fun nv=>⟨_,rfl,u,v,rfl,h1,fun x hx=>by have:=h2 x hx; omega,h3,h4⟩⟩
   have VF:=asc_len h1 h2
   refine lu (Yu l _ hl) fun x hx=>?_
   have ky:wa .i64 (i:Int) 1=((i+1:Nat):Int):=wa1 n0
   rw [C1]
   refine ⟨fun hp=>?_,fun hp=>?_⟩
   ·rw [O0,s5]
    refine ⟨by rw [H2]; simp only [B4,A6]; omega,?_⟩
    refine lu (ez hx nu) fun f hf=>?_
    rw [O0,s5]
    refine ⟨by rw [H2]; simp only [B4,A6]; omega,_,rfl,n0,ky,u++[(i:Int)],v++[f],G0,G0,?_,?_,by simp [h3],?_⟩
    ·rw [C9]
     exact ⟨h1,kj ..,fun x hx y hy=>by rw [Z2.1 hy]; exact (h2 x hx).2⟩
    ·intro y hy
     rcases I2.1 hy with hy | hy
     ·have:=h2 y hy; omega
     ·rw [Z2.1 hy]; omega
    ·intro y hy
     rcases I2.1 hy with hy | hy
     ·exact h4 y hy
     ·rw [Z2.1 hy]; exact hf
   ·exact ⟨_,rfl,n0,ky,u,v,rfl,rfl,h1,fun x hx=>by have:=h2 x hx; omega,h3,h4⟩
  ·rintro _ ⟨u,v,rfl,h1,h2,h3,h4⟩
   simp only
   have VF:=asc_len h1 h2
   rw [O0,s5]
   refine ⟨C0,_,rfl,n0,wa1 n0,E++[u],hE.snoc n0 n0 h1 h2 h3 h4⟩
 ·rintro ⟨sl,ix,vl⟩ ⟨E,hE⟩
  exact ⟨_,rfl,rfl,rfl,E,hE⟩
section
variable {a b R C:Nat} {E:L2} {st ix vl:LI}
theorem Pm.rf (h:Pm a b R C E st ix vl) (ha:0 < a) (hb:b < 2047):RF vl:=fun v hv=>((h.gf v hv).fin ha hb).2
theorem Pm.rchk (h:Pm a b R C E st ix vl) (ha:0 < a) (hb:b < 2047) (hR:R≤20) (hC:C≤20):m_cb (R:Int) (C:Int) st ix vl=some 0:=
 jB h.mv n0 n0 (by have:=h.le; have:=F5 hR hC; omega) (h.rf ha hb)
theorem at_ok (h:Pm a b R C E st ix vl) (ha:0 < a) (hb:b < 2047) (hR:R≤20) (hC:C≤20) (i:Int) {j:Nat} (hj:j < C):Ret (m_cd (R:Int) (C:Int) st ix vl i (j:Int)) (Gf a b):=by
 have hle:ix.length≤400:=Q5 h.le (F5 hR hC)
 have xv:=h.mv.vle
 unfold m_cd
 rw [h.rchk ha hb hR hC,obs,J0 (by simp; omega),bindS (h.mv.start n0)]
 have o1:=Q9 (E:=E) (i:=j) (j:=j+1) n0
 have o2:=W7 E (j:=j+1)
 rw [← h.mv.ixe] at o2
 have hL:Ret (loop (m_cc st (j:Int) ix i vl) (off E j:Int)) (fun o=>∀ v,o=.inr v→Gf a b v):=by
  refine Q0 (off E (j+1) - off E j) (fun k (t:Int)=>t=((off E j+k:Nat):Int)) rfl ?_ n0
  rintro k _ hk rfl
  unfold m_cc
  rw [wa1 n0,bindS (h.mv.start n0),C1]
  refine ⟨fun hlt=>?_,fun _=>⟨_,rfl,fun v hv=>by cases hv⟩⟩
  rw [bindS (getI_lt n0),C1]
  refine ⟨fun _=>?_,fun _=>⟨_,rfl,n0,by rw [wa1 n0]; rfl⟩⟩
  rw [bindS (getI_lt n0)]
  exact ⟨_,rfl,fun v hv=>by cases hv; exact h.gf _ (Z1 _)⟩
 rw [O0]
 refine hL.mono fun o ho=>?_
 cases o with
 | inl u=>exact ⟨_,rfl,.inl rfl⟩
 | inr v=>exact ⟨_,rfl,ho v rfl⟩
end
def Fq (x:Int):Prop:=m_di x=some false∧0≤x∧x < 18446744073709551616
def hasE (L:List (Int×Int×Int)) (u v:Nat):Prop:=∃ x,((v:Int),(u:Int),x)∈L
open Classical in
noncomputable def pcol (R:Nat) (L:List (Int×Int×Int)) (u:Nat):LI:=coll (fun v=>hasE L u v) R
noncomputable def packE (R C:Nat) (L:List (Int×Int×Int)):L2:=(List.range C).map (pcol R L)
structure En (R C:Nat) (L:List (Int×Int×Int)):Prop where
 r:∀ e,e∈L→0≤e.1∧e.1 < (R:Int)
 c:∀ e,e∈L→0≤e.2.1∧e.2.1 < (C:Int)
 f:∀ e,e∈L→Fq e.2.2
theorem qC {R u v u' v':Nat} (h:v < R) (h':v' < R) (he:u*R+v=u'*R+v'):u=u'∧v=v':=by
 have h1:(u*R+v) / R=u:=by rw [s8,Nat.mul_add_div n0,Nat.div_eq_of_lt h]; omega
 have h2:(u'*R+v') / R=u':=by rw [s8,Nat.mul_add_div n0,Nat.div_eq_of_lt h']; omega
 have:u=u':=by rw [← h1,← h2,he]
 subst this
 exact ⟨rfl,n0⟩
theorem Ii {R C u v:Nat} (hu:u < C) (hv:v < R):u*R+v < R*C:=by
 have:(u+1)*R≤C*R:=q8 _ hu
 rw [Us] at this
 rw [s8 R C]
 omega
structure Ft (R C:Nat) (L:List (Int×Int×Int)) (k:Nat) (T:LI):Prop where
 len:T.length=R*C
 at_:∀ u v,u < C→v < R→∃ t,T[u*R+v]?=some t∧((t=0∧¬ hasE (L.take k) u v)∨(∃ i:Nat,t=((i+1:Nat):Int)∧i < k∧∃ x,L[i]?=some ((v:Int),(u:Int),x)))
theorem fill_ok {R C:Nat} (hR:R≤200) (hC:C≤200) {L:List (Int×Int×Int)} (hL:L.length≤100000) (hE:En R C L):Ret (loop (m_c2 L (R:Int)) (List.replicate (R*C) 0,0)) (Ft R C L L.length):=by
 have hm:R*C≤200*200:=F5 hR hC
 refine Q0 L.length (fun k (t:LI×Int)=>t.2=(k:Int)∧Ft R C L k t.1) ⟨rfl,G0,fun u v hu hv=>⟨0,by rw [E9,I0 (Ii hu hv)],.inl ⟨rfl,fun ⟨x,hx⟩=>by simp at hx⟩⟩⟩ ?_
 rintro k ⟨T,t⟩ hk ⟨e1,hT⟩
 simp only at e1 hT
 subst e1
 unfold m_c2
 simp only
 by_cases ou:k < L.length
 ·have hw:wa .i64 (k:Int) 1=((k+1:Nat):Int):=wa1 n0
  obtain ⟨⟨a,b,x⟩,hx⟩:∃ e,L[k]?=some e:=⟨L[k],by simp [ou]⟩
  have OD:getI L (k:Int)=some (a,b,x):=hx
  have h1:=hE.r _ (X2 hx)
  have h2:=hE.c _ (X2 hx)
  simp only at h1 h2
  obtain ⟨v,rfl⟩:∃ v:Nat,a=(v:Int):=⟨a.toNat,n0⟩
  obtain ⟨u,rfl⟩:∃ u:Nat,b=(u:Int):=⟨b.toNat,n0⟩
  have hv:v < R:=n0
  have hu:u < C:=n0
  have hlt:=Ii hu hv
  have e2:wm .i64 (u:Int) (R:Int)=((u*R:Nat):Int):=by
   have:(u:Int)*(R:Int)=((u*R:Nat):Int):=by simp
   rw [wm_in (by rw [this]; constructor<;>omega),this]
  have e3:wa .i64 ((u*R:Nat):Int) (v:Int)=((u*R+v:Nat):Int):=by rw [wa_in (by constructor<;>omega)]; omega
  have DJ:=hT.len
  rw [B0,bindS OD,bindS OD]
  simp only
  rw [e2,e3,hw,bindS (setI_lt n0),K0,T0]
  refine ⟨ou,rfl,by simp [DJ],fun u' v' YF WD=>?_⟩
  simp only
  rw [B3]
  by_cases hc:u*R+v=u'*R+v'
  ·obtain ⟨rfl,rfl⟩:=qC hv WD hc
   rw [I0 rfl,B0]
   exact ⟨_,rfl,.inr ⟨k,rfl,n0,x,hx⟩⟩
  ·rw [J0 hc]
   obtain ⟨t,t1,t2⟩:=hT.at_ u' v' YF WD
   refine ⟨t,t1,?_⟩
   rcases t2 with ⟨h3,h4⟩ | ⟨i,h3,h4,h5⟩
   ·refine .inl ⟨h3,?_⟩
    rintro ⟨y,hy⟩
    rcases (mts hx).1 hy with hy | hy
    ·exact h4 ⟨y,hy⟩
    ·simp only [If] at hy
     have:v'=v:=n0
     have:u'=u:=n0
     subst_vars
     exact hc rfl
   ·exact .inr ⟨i,h3,n0,h5⟩
 ·rw [A0,K0,E1]
  rw [show L.length=k by omega]
  exact hT
theorem np (R:Nat) (L:List (Int×Int×Int)) (u:Nat):(pcol R L u).length≤R:=by classical exact J6 _
theorem WA (R:Nat) (L:List (Int×Int×Int)) (C:Nat):(packE R C L).flatten.length≤C*R:=by
 unfold packE
 induction C with
 | zero=>simp
 | succ C ih=>
  rw [Oc,o7,j6,H2,Us]
  have:=np R L C
  simp at ih ⊢
  omega
open Classical in
theorem My {R C:Nat} (hR:R≤200) (hC:C≤200) {L:List (Int×Int×Int)} (hL:L.length≤100000) (hE:En R C L) {T:LI} (hT:Ft R C L L.length T) {u:Nat} (hu:u < C) {ix vl:LI} (h1:ix.length≤100000) (h2:vl.length=ix.length) (h3:∀ x,x∈vl→Fq x):
  Ret (loop (m_c0 (R:Int) T (u:Int) L) (ix,vl,0)) (fun o=>o.1=ix++pcol R L u∧o.2.length=o.1.length∧∀ x,x∈o.2→Fq x):=by
 refine Q0 R (fun k (t:LI×LI×Int)=>t.2.2=(k:Int)∧t.1=ix++coll (fun v=>hasE L u v) k∧t.2.1.length=t.1.length∧∀ x,x∈t.2.1→Fq x) ⟨rfl,by simp [coll],h2,h3⟩ ?_
 rintro k ⟨x,y,t⟩ hk ⟨e1,e2,e3,e4⟩
 simp only at e1 e2 e3 e4
 subst e1
 unfold m_c0 m_cz
 simp only
 by_cases ou:k < R
 ·have hw:wa .i64 (k:Int) 1=((k+1:Nat):Int):=wa1 n0
  have hlt:=Ii hu ou
  have hm:R*C≤200*200:=F5 hR hC
  have e5:wm .i64 (u:Int) (R:Int)=((u*R:Nat):Int):=by
   have:(u:Int)*(R:Int)=((u*R:Nat):Int):=by simp
   rw [wm_in (by rw [this]; constructor<;>omega),this]
  have e6:wa .i64 ((u*R:Nat):Int) (k:Int)=((u*R+k:Nat):Int):=by rw [wa_in (by constructor<;>omega)]; omega
  obtain ⟨z,t1,t2⟩:=hT.at_ u k hu ou
  have t1':getI T ((u*R+k:Nat):Int)=some z:=t1
  have Hv:=J6 (tm:=fun v=>hasE L u v) k
  rw [B0,e5,e6,bindS t1',hw]
  have yH:x.length=ix.length+(coll (fun v=>hasE L u v) k).length:=by rw [e2,H2]
  rcases t2 with ⟨rfl,Xw⟩ | ⟨i,rfl,hi,w,hw2⟩
  ·rw [A0,K0,T0]
   rw [M6] at Xw
   exact ⟨ou,rfl,by rw [e2,coll,J0 Xw,I7],e3,e4⟩
  ·have e7:ws .i64 ((i+1:Nat):Int) 1=(i:Int):=by rw [ws_in (by constructor<;>omega)]; omega
   have YK:getI L (i:Int)=some ((k:Int),(u:Int),w):=hw2
   have LJ:y.length+1≤1099511627776:=n0
   rw [B0,bindS (app_small (by simp; omega)),e7,bindS YK,bindS (app_small (by simp; omega)),K0,T0]
   refine ⟨ou,rfl,?_,by simp [e3],fun q hq=>?_⟩
   ·simp only
    rw [e2,coll,I0 ⟨w,X2 hw2⟩,u7]
   ·simp only at hq
    rcases I2.1 hq with hq | hq
    ·exact e4 q hq
    ·simp only [Z2] at hq
     have h9:=hE.f ((k:Int),(u:Int),w) (X2 hw2)
     rw [hq]
     exact h9
 ·rw [A0,K0,E1]
  have JF:R=k:=n0
  rw [JF]
  unfold pcol
  exact ⟨e2,e3,e4⟩
theorem Qy {R C:Nat} (hR:R≤200) (hC:C≤200) {L:List (Int×Int×Int)} (hL:L.length≤100000) (hE:En R C L):
  ∃ st ix vl,m_c3 (R:Int) (C:Int) L=some ((R:Int),(C:Int),st,ix,vl)∧Mv R C (packE R C L) st ix vl∧∀ x,x∈vl→Fq x:=by
 have hm:R*C≤200*200:=F5 hR hC
 obtain ⟨T,f1,hT⟩:=fill_ok hR hC hL hE
 have Nu:Ret (loop (m_c1 (C:Int) (R:Int) T L) ([0],[],[],0)) (fun o=>Mv R C (packE R C L) o.1 o.2.1 o.2.2∧∀ x,x∈o.2.2→Fq x):=by
  refine Q0 C (fun k (t:LI×LI×LI×Int)=>t.2.2.2=(k:Int)∧t.1.length=k+1∧(∀ j,j≤k→t.1[j]?=some (off (packE R C L) j:Int))∧t.2.1=((packE R C L).take k).flatten∧t.2.2.1.length=t.2.1.length∧∀ x,x∈t.2.2.1→Fq x)
   ⟨rfl,rfl,fun j hj=>(by have h:j=0:=n0; subst h; simp [off]),G0,rfl,fun x hx=>by simp at hx⟩ ?_
  rintro k ⟨st,ix,vl,t⟩ hk ⟨e1,e2,e3,e4,e5,e6⟩
  simp only at e1 e2 e3 e4 e5 e6
  subst e1
  unfold m_c1
  simp only
  have DG:=WA R L C
  have dK:=W7 (packE R C L) (j:=k)
  have NF:ix.length=off (packE R C L) k:=by rw [e4]; rfl
  have GG:C*R≤200*200:=by rw [s8]; exact hm
  have hlen:(packE R C L).length=C:=by simp [packE]
  by_cases ou:k < C
  ·have hw:wa .i64 (k:Int) 1=((k+1:Nat):Int):=wa1 n0
   have UM:(packE R C L)[k]?=some (pcol R L k):=by simp [packE,ou]
   have ZL:=k9 UM
   have FL:=np R L k
   rw [B0,O0]
   refine Y4 (My hR hC hL hE hT ou n0 e5 e6) ?_
   rintro ⟨ix',vl'⟩ ⟨p1,p2,p3⟩
   simp only at p1 p2 p3
   subst p1
   rw [bindS (app_small (by simp; omega)),hw,K0,T0]
   refine ⟨ou,rfl,by simp [e2],fun j hj=>?_,?_,p2,p3⟩
   ·simp only
    by_cases AG:j≤k
    ·rw [O6 n0]; exact e3 j AG
    ·have:j=k+1:=n0
     subst this
     rw [F9 n0,e2,Fb]
     simp only [pj,H2]
     congr 1
     omega
   ·simp only
    rw [tks UM,j6,e4]
    simp
  ·rw [A0,K0,E1]
   have:k=C:=n0
   subst this
   refine ⟨⟨hlen,fun l hl=>?_,fun l hl i hi=>?_,?_,e2,e3,e5,fun x hx=>(e6 x hx).1⟩,e6⟩
   ·simp only [packE,Z5] at hl
    obtain ⟨v,_,rfl⟩:=hl
    classical exact ia _
   ·simp only [packE,Z5] at hl
    obtain ⟨v,_,rfl⟩:=hl
    have:0≤i∧i.toNat < R∧_:=(by classical exact (H4 _).1 hi)
    omega
   ·simp only
    rw [e4,P4 n0]
 obtain ⟨⟨st,ix,vl⟩,l1,l2⟩:=Nu
 refine ⟨st,ix,vl,?_,l2⟩
 have e2:wm .i64 (R:Int) (C:Int)=((R*C:Nat):Int):=by
  have:(R:Int)*(C:Int)=((R*C:Nat):Int):=by simp
  rw [wm_in (by rw [this]; constructor<;>omega),this]
 unfold m_c3
 rw [e2,bindS (G4 0 (R*C) n0),bindS f1,bindS l1]
theorem qp {R C:Nat} {L:List (Int×Int×Int)} {u v:Nat}:inE (packE R C L) u v↔u < C∧v < R∧hasE L u v:=by
 classical
 constructor
 ·rintro ⟨l,l1,l2⟩
  have hu:u < C:=by have:=(C2.1 l1).1; simpa [packE] using this
  simp only [packE,H7,Rc hu,H8,w6] at l1
  subst l1
  have:=(H4 _).1 l2
  exact ⟨hu,n0,by simpa using this.2.2⟩
 ·rintro ⟨h1,h2,h3⟩
  refine ⟨pcol R L u,by simp [packE,h1],(H4 _).2 ⟨n0,by simpa using h2,by simpa using h3⟩⟩
end Km
namespace Ts
open Km Lm Pl Sx Go M Vc
theorem B7 {α β:Type} {o:Option α} {f:α→Option β} {P:β→Prop} (h:Ret o fun _=>True) (hf:∀ x,Ret (f x) P):Ret (o.bind f) P:=by
 obtain ⟨x,rfl,_⟩:=h
 exact hf x
theorem Jx (x:Int):m_bg false [] x=some (false,false,[],0):=by
 have h1:m_k false []=some (false,[]):=H0
 unfold m_bg
 rw [h1,obs,I0 G0]
theorem BB {b e:Nat} {u x:Int} {r:DY} (h:Dv u x r) (hu:Lb b u) (h1: -(e:Int)≤x) (h2:x≤e):Dn b (e+b) r:=by
 obtain ⟨r2,z,v,r3,r4,r5⟩:=h
 have hp:(0:Int) < 2 ^ z:=C3 n0
 have hv:Lb b (2*v+1):=by
  have key:(2*v+1).natAbs≤u.natAbs:=by
   rw [r3,jd]
   exact dD _ n0
  have:=hu.1
  have:=hu.2
  exact ⟨n0,n0⟩
 have hz:z≤b:=by
  refine O2 fun hc=>?_
  have h1:=H6 (N:=b) (M:=z) n0
  have h2:((2:Int) ^ z).natAbs≤u.natAbs:=by
   rw [r3,jd]
   exact cD _ n0
  have:=hu.1
  have:=hu.2
  omega
 exact ⟨r2,_,r4,hv,n0,n0⟩
theorem uh {b e:Nat} {s:Bool} {l:LI} {u x:Int} (hB:Bg u s l) (hu:Lb b u) (hb:b≤6400) (he:e≤20000) (h1: -(e:Int)≤x) (h2:x≤e):∃ r,m_bg s l x=some r∧Dn b (e+b) r:=by
 by_cases h0:u=0
 ·subst h0
  obtain ⟨rfl,rfl⟩:=hB.uniq w9
  exact ⟨_,Jx x,Dn.zero ..⟩
 ·obtain ⟨r,r1,r2⟩:=Sp (s:=s) hB.1 (by have:=hu.len (m:=200) n0 hB; omega) (by rw [hB.sv]; exact h0) (x:=x) n0
  rw [hB.sv] at r2
  exact ⟨r,r1,BB r2 hu h1 h2⟩
theorem th {b e:Nat} {d:DY} (h:Dn b e d) (hb:b≤6400) (he:e≤20000):∃ r,m_bi d.1 d.2.1 d.2.2.1 d.2.2.2=some r∧Dn b (e+b) r:=by
 obtain ⟨h1,u,h2,h3,h4,h5⟩:=h
 obtain ⟨r,r1,r2⟩:=uh h2 h3 hb he h4 h5
 refine ⟨r,?_,r2⟩
 unfold m_bi
 rw [h1,J0 G0,r1,obs]
theorem Lb.abs {b:Nat} {u:Int} (h:Lb b u):Lb b (if u < 0 then -u else u):=by
 split
 ·exact h.neg
 ·exact h
theorem ny {b e:Nat} {d:DY} (h:Dn b e d) (hb:b≤6000) (he:e≤10000):∃ r,m_ch d.1 d.2.1 d.2.2.1 d.2.2.2=some r∧Dn b (e+b+b) r:=by
 obtain ⟨r,r1,r2,u,r3,r4,r5,r6⟩:=th h n0 n0
 obtain ⟨a,a1,a2,_⟩:=Ti (s:=r.2.1) r3.1 (by have:=r4.len (m:=200) n0 r3; omega)
 rw [r3.abs] at a2
 obtain ⟨q,q1,q2⟩:=uh (e:=e+b) a2 r4.abs n0 n0 r5 r6
 refine ⟨q,?_,q2⟩
 unfold m_ch
 rw [r1,obs,r2,J0 G0,a1,obs,q1,obs]
theorem Ix {f:Int} (h:Gf 980 1066 f):∃ d,m_cg f=some d∧Dn 53 1130 d:=by
 obtain ⟨v,d,hd⟩:=h.dy n0 n0 n0
 have hF:Fi f:=by
  refine ⟨?_,?_⟩
  ·rcases h with rfl | ⟨s,e,m,hs,h1,h2,hm,rfl⟩
   ·exact ⟨n0,n0⟩
   ·exact gi hs n0 hm
  ·have:=(h.fin n0 n0).1
   unfold m_di at this
   cases hx:m_dh f with
   | none=>rw [hx] at this; cases this
   | some b=>rw [hx,obs] at this; cases b<;>simp_all
 obtain ⟨d',d1,d2⟩:=Ap hF
 rw [hd.p] at d1
 cases d1
 exact ⟨d,hd.r,d2⟩
theorem xh {u:Int} {P:Int} {N:Nat} (h1: -P≤u*2 ^ N) (h2:u*2 ^ N≤P): -P≤u∧u≤P:=by
 have hp:(0:Int) < 2 ^ N:=C3 n0
 rcases Int.le_total 0 u with h | h
 ·have:u*1≤u*2 ^ N:=X3 n0 h
  omega
 ·have:u*2 ^ N≤u*1:=Int.mul_le_mul_of_nonpos_left h n0
  omega
theorem px {l:List DY} (hl:l.length≤20) (h:∀ d,d∈l→Dn 53 1240 d):∃ s,m_cm l=some s∧Dn 2660 3960 s:=by
 have hc:(32:Int)*2 ^ 2654 < 2 ^ 2660:=by
  have e:(2:Int) ^ 2660=2 ^ 6*2 ^ 2654:=by rw [← S4]
  have hp:(0:Int) < 2 ^ 2654:=C3 n0
  rw [e,show (2:Int) ^ 6=64 from rfl]
  generalize (2:Int) ^ 2654=P at*
  omega
 have hp:(0:Int) < 2 ^ 2654:=C3 n0
 have JL:∀ v:Int,Lb 53 v→∀ N:Nat,N≤2600→-(2 ^ 2654)≤v*2 ^ N∧v*2 ^ N≤2 ^ 2654:=fun v hv N hN=>by
  have h1:=(hv.shift N).mono (b':=2654) n0
  exact ⟨by have:=h1.1; omega,by have:=h1.2; omega⟩
 generalize (2:Int) ^ 2654=P at*
 have UD:∀ k:Nat,k≤20→∀ u:Int,-((k:Int)*P)≤u→u≤(k:Int)*P→Lb 2660 u:=fun k hk u h1 h2=>by
  have h3:(k:Int)*P≤20*P:=V3 n0 n0
  exact ⟨n0,n0⟩
 obtain ⟨o,o1,s,L,x,u,N,rfl,hB,hx,hN,h1,h2⟩:Ret (loop (m_cl l) (false,[],0,0)) (fun o=>∃ s L x u,∃ N:Nat,o=.inl (s,L,x)∧Bg u s L∧x=(N:Int) - 1300∧N≤2600∧-((l.length:Int)*P)≤u*2 ^ N∧u*2 ^ N≤(l.length:Int)*P):=by
  refine Q0 l.length (fun k (t:Bool×LI×Int×Int)=>t.2.2.2=k∧∃ u,∃ N:Nat,Bg u t.1 t.2.1∧t.2.2.1=(N:Int) - 1300∧N≤2600∧-((k:Int)*P)≤u*2 ^ N∧u*2 ^ N≤(k:Int)*P) ⟨rfl,0,1300,w9,rfl,n0,by rw [Ib,show ((0:Nat):Int)=0 from rfl,Ib]; omega,by rw [Ib,show ((0:Nat):Int)=0 from rfl,Ib]; omega⟩ ?_ n0
  rintro k ⟨s,L,x,_⟩ hk ⟨hi,u,N,hB,hx,hN,g1,g2⟩
  simp only at hi hB hx
  subst hi hx
  unfold m_cl
  simp only
  by_cases Cu:k < l.length
  ·have e9:((k+1:Nat):Int)*P=(k:Int)*P+P:=by rw [Int.natCast_add,T8]; omega
   have EP:0≤(k:Int)*P:=T4 n0 n0
   have hw:wa .i64 (k:Int) 1=((k+1:Nat):Int):=Pl.wa1 n0
   obtain ⟨r,r1,r2,v,r3,r4,r5,r6⟩:=th (h l[k] (Z1 Cu)) n0 n0
   obtain ⟨M,hM⟩:=D3 (show 0≤r.2.2.2+1300 by omega)
   have hv:=JL v r4 M n0
   have s1:=Wb r3 (by have:=r4.len (m:=2) n0 r3; omega)
   have hu:=xh g1 g2
   have BH:=UD k n0 u hu.1 hu.2
   have s2:=Wb hB (by have:=BH.len (m:=90) n0 hB; omega)
   have fin:∀ (s':Bool) (L':LI) (x' u':Int) (N':Nat),Bg u' s' L'→x'=(N':Int) - 1300→N'≤2600→-((k:Int)*P+P)≤u'*2 ^ N'→u'*2 ^ N'≤(k:Int)*P+P→Ret (m_ci (k:Int) s' L' x') (VQ (fun t:Bool×LI×Int×Int=>k < l.length∧t.2.2.2=((k+1:Nat):Int)∧∃ u,∃ N:Nat,Bg u t.1 t.2.1∧t.2.2.1=(N:Int) - 1300∧N≤2600∧-(((k+1:Nat):Int)*P)≤u*2 ^ N∧u*2 ^ N≤((k+1:Nat):Int)*P) (fun o=>∃ s L x u,∃ N:Nat,o=.inl (s,L,x)∧Bg u s L∧x=(N:Int) - 1300∧N≤2600∧-((l.length:Int)*P)≤u*2 ^ N∧u*2 ^ N≤(l.length:Int)*P)):=fun s' L' x' u' N' b1 b2 b3 b4 b5=>by
    unfold m_ci
    rw [K0,T0,hw,e9]
    exact ⟨Cu,rfl,u',N',b1,b2,b3,b4,b5⟩
   rw [B0,Pl.bindS (Pl.getI_lt Cu),Pl.bindS r1,r2,J0 G0,Pl.bindS s1]
   generalize (if v < 0 then (-1:Int) else if 0 < v then 1 else 0)=g1
   by_cases uM:g1=0
   ·rw [I0 uM]
    exact fin _ _ _ u N hB rfl hN n0 n0
   ·rw [J0 uM,Pl.bindS s2]
    generalize (if u < 0 then (-1:Int) else if 0 < u then 1 else 0)=g2
    unfold m_cj
    by_cases pH:g2=0
    ·rw [I0 pH]
     exact fin _ _ _ v M r3 n0 n0 n0 n0
    ·rw [J0 pH]
     unfold m_ck m_cj
     by_cases fE:(N:Int) - 1300≤r.2.2.2
     ·have e1:ws .i64 r.2.2.2 ((N:Int) - 1300)=((M - N:Nat):Int):=by rw [Pl.ws_in (by constructor<;>omega)]; omega
      obtain ⟨q,q1,q2⟩:=Xb (s:=r.2.1) r3.1 (by have:=r4.len (m:=2) n0 r3; omega) (N:=M - N) n0
      rw [r3.sv] at q2
      have q3:Lb 2653 (v*2 ^ (M - N)):=(r4.shift (M - N)).mono n0
      obtain ⟨p,p1,p2⟩:=Qi (s:=s) (t:=q.1) hB.1 q2.1 (by have:=BH.len (m:=90) n0 hB; omega) (by have:=q3.len (m:=90) n0 q2; omega)
      rw [hB.sv,q2.sv] at p2
      have e2:(u+v*2 ^ (M - N))*2 ^ N=u*2 ^ N+v*2 ^ M:=by
       rw [T8,O8,← S4,Nat.sub_add_cancel n0]
      rw [I0 fE,e1,Pl.bindS q1,Pl.bindS p1]
      exact fin _ _ _ _ N p2 rfl hN (by rw [e2]; omega) (by rw [e2]; omega)
     ·have e1:ws .i64 ((N:Int) - 1300) r.2.2.2=((N - M:Nat):Int):=by rw [Pl.ws_in (by constructor<;>omega)]; omega
      obtain ⟨q,q1,q2⟩:=Xb (s:=s) hB.1 (by have:=BH.len (m:=90) n0 hB; omega) (N:=N - M) n0
      rw [hB.sv] at q2
      have e3:u*2 ^ (N - M)*2 ^ M=u*2 ^ N:=by rw [O8,← S4,Nat.sub_add_cancel n0]
      have q4:=xh (u:=u*2 ^ (N - M)) (N:=M) (P:=(k:Int)*P) n0 n0
      have q3:=UD k n0 _ q4.1 q4.2
      obtain ⟨p,p1,p2⟩:=Qi (s:=q.1) (t:=r.2.1) q2.1 r3.1 (by have:=q3.len (m:=90) n0 q2; omega) (by have:=r4.len (m:=2) n0 r3; omega)
      rw [q2.sv,r3.sv] at p2
      have e2:(u*2 ^ (N - M)+v)*2 ^ M=u*2 ^ N+v*2 ^ M:=by rw [T8,e3]
      rw [J0 fE,e1,Pl.bindS q1,Pl.bindS p1]
      exact fin _ _ _ _ M p2 n0 n0 (by rw [e2]; omega) (by rw [e2]; omega)
  ·rw [A0,K0,E1]
   have:k=l.length:=n0
   subst this
   exact ⟨s,L,_,u,N,rfl,hB,rfl,hN,g1,g2⟩
 have hu:=xh h1 h2
 have BH:=UD l.length hl u hu.1 hu.2
 obtain ⟨r,r1,r2⟩:=uh (e:=1300) hB BH n0 n0 (x:=x) n0 n0
 refine ⟨r,?_,r2⟩
 unfold m_cm
 rw [o1,obs]
 simp only
 rw [r1,obs]
theorem Zj (x y:Int):W64 (wor .u64 x y):=by
 unfold wor W64
 rw [IntKind.wrap_u64]
 omega
theorem ev (x:Int):W64 (wc .u64 x):=by
 unfold wc W64
 rw [IntKind.wrap_u64]
 omega
theorem qe {x:Int} (n:Bool) (hx:W64 x):Ret (m_bk n x) W64:=by
 unfold m_bk
 split
 ·exact ⟨_,rfl,Zj _ _⟩
 ·exact ⟨_,rfl,hx⟩
theorem xp (n:Bool) (m:Int):Ret (m_bl n m) W64:=by
 unfold m_bl
 split
 ·rw [O0]; exact (qe n ⟨n0,n0⟩).mono fun x hx=>⟨_,rfl,hx⟩
 ·rw [O0]; exact (qe n ⟨n0,n0⟩).mono fun x hx=>⟨_,rfl,hx⟩
theorem iq (n:Bool) (m q x:Int):Ret (m_bv n m q x) W64:=by
 unfold m_bv
 split
 ·rw [O0]; exact (xp n m).mono fun x hx=>⟨_,rfl,hx⟩
 ·split
  ·rw [O0]; exact (qe n (Zj _ _)).mono fun x hx=>⟨_,rfl,hx⟩
  ·rw [O0]; exact (qe n (ev _)).mono fun x hx=>⟨_,rfl,hx⟩
theorem kA {s:Bool} {l:LI} (hl:LW l) (hn:l.length≤1000):Ret (m_bu s l) (fun _=>True):=by
 unfold m_bu
 refine lu (Zb (s:=s) hl n0) fun r hr=>?_
 by_cases h2:(2:Int) < (r.2.length:Int)
 ·rw [I0 h2]; exact ⟨_,rfl,trivial⟩
 ·rw [J0 h2]
  refine B7 ?_ fun x=>?_
  ·refine Q0 r.2.length (fun k (t:Int×Int)=>t.2=k) rfl ?_ n0
   rintro k ⟨a,i⟩ hk hi
   simp only at hi
   subst hi
   unfold m_bt
   simp only
   by_cases ou:k < r.2.length
   ·have e1:wm .i64 32 (k:Int)=((32*k:Nat):Int):=by rw [Pl.wm_in (by constructor<;>omega)]; omega
    have e2:∃ z,wshl .u64 (wc .u64 r.2[k]) ((32*k:Nat):Int)=some z:=by unfold wshl; rw [A0]; exact ⟨_,rfl⟩
    obtain ⟨z,hz⟩:=e2
    rw [B0,Pl.bindS (Pl.getI_lt ou),e1,Pl.bindS hz,Pl.wa1 n0,K0,T0]
    exact ⟨ou,rfl⟩
   ·rw [A0,K0,E1]; trivial
  ·split
   ·split<;>exact ⟨_,rfl,trivial⟩
   ·split<;>exact ⟨_,rfl,trivial⟩
theorem jq (n:Bool) (m x b:Int) {s:Bool} {l:LI} (hl:LW l) (hn:l.length≤1000):Ret (m_bw n m x b s l) W64:=by
 unfold m_bw
 refine B7 (kA hl hn) fun r=>?_
 split
 ·exact iq _ _ _ _
 ·exact iq _ _ _ _
theorem Nw {u:Int} {l:LI} (hB:Bg u false l) (hn:l.length≤900) {N:Nat} (hN:N≤32000):Ret (m_9 false l (-(N:Int))) (fun r=>Bg (u / 2 ^ N) r.1 r.2):=by
 by_cases h0:N=0
 ·subst h0
  have:=Xb (s:=false) hB.1 hn (N:=0) n0
  rw [hB.sv] at this
  exact Ret.mono this fun r hr=>hr.cast (by rw [show ((2:Int) ^ 0)=1 from rfl]; omega)
 unfold m_9
 refine lu (Zb (s:=false) hB.1 n0) fun a ha=>?_
 have e2:wneg .i64 (-(N:Int))=(N:Int):=by
  show IntKind.wrap .i64 (- -(N:Int))=_
  rw [zj,IntWalk.i64_in _ n0]
 have fG:=ph ha.1.1 n0 (q:=N / 32) (s:=N % 32) n0 n0
 rw [← n32,P9] at fG
 have h1:=ha.1
 rw [hB.sv] at h1
 obtain ⟨e3,e4⟩:=h1.uniq hB
 rw [A0,e2,O0]
 refine fG.mono fun w hw=>?_
 rw [e4,(Bg.lvn hB).1] at hw
 refine lu (l9 a.1 hw.1 (by have:=hw.2.1; omega)) fun r hr=>?_
 rw [e3,Bool.false_and,J0 G0]
 refine ⟨_,rfl,?_⟩
 have e5:sv a.1 w.1=u / 2 ^ N:=by rw [e3]; unfold sv; rw [J0 G0,hw.2.2.1]
 exact hr.cast e5
theorem Vn {v:Int} {s:Bool} {l:LI} (hB:Bg v s l) (hn:l.length≤1000):Ret (m_n s l) (fun _=>True):=by
 by_cases h0:v=0
 ·subst h0
  obtain ⟨rfl,rfl⟩:=hB.uniq w9
  have:m_n false []=some 0:=H0
  exact ⟨_,this,trivial⟩
 ·obtain ⟨z,hz,_⟩:=Un (s:=s) hB.1 hB.2.1 hn (N9 hB h0).1
  exact ⟨_,hz,trivial⟩
theorem Vp {s:Bool} {l:LI} (hl:LW l) (hn:l.length≤900) {N:Nat} (hN:N≤32000):Ret (m_bm s l (N:Int)) (fun _=>True):=by
 unfold m_bm
 have h1:=O5 hl
 have fG:=ph (S3 hl) n0 (q:=N / 32) (s:=N % 32) n0 n0
 rw [← n32] at fG
 rw [X8 hl n0,obs,O0]
 exact fG.mono fun w _=>⟨_,rfl,trivial⟩
def Lw9 (r:Bool×LI):Prop:=LW r.2∧r.2.length≤1000
theorem OB {n:Bool} {b:Nat} {l:LI} {u:Int} (hB:Bg u false l) (hu:Lb b u) (hb:b≤20000) {N:Nat} (hN:N≤32000):Ret (m_bs n false l (N:Int) false 2) Lw9:=by
 have jK:l.length≤900:=by have:=hu.len (m:=900) n0 hB; omega
 have XF:=(Bg.lvn hB).2
 have DG:∀ N,Lb b (u / 2 ^ N):=fun N=>by
  have hp:(0:Int) < 2 ^ N:=C3 n0
  have h1:0≤u / 2 ^ N:=C5 XF n0
  have h2:u / 2 ^ N≤u:=Q8 _ XF
  exact ⟨by have:=hu.2; omega,by have:=hu.2; omega⟩
 have dn:∀ N:Nat,N≤32000→∃ r v,m_bb false l (N:Int)=some r∧Bg v r.1 r.2∧Lb b v:=fun N hN=>by
  obtain ⟨r,r1,r2⟩:=Nw hB jK hN
  exact ⟨r,_,by rw [Xo false l n0,r1,obs],r2,DG N⟩
 obtain ⟨r,v,r1,r2,r3⟩:=dn N hN
 have rl:r.2.length≤700:=r3.len (m:=700) n0 r2
 have one:m_j 1=some (false,[1]):=H0
 have b1:Bg 1 false [1]:=⟨fun x hx=>by rw [Z2.1 hx]; unfold B; omega,fun x hx=>by simp at hx; omega,rfl,G0⟩
 have j8:∀ c:Int,Ret (m_bp r n 2 c) Lw9:=fun c=>by
  unfold m_bp
  rw [Wb r2 n0,obs]
  generalize (if v < 0 then (-1:Int) else if 0 < v then 1 else 0)=g
  refine B7 ?_ fun d=>?_
  ·split
   ·exact ⟨_,rfl,trivial⟩
   ·exact B7 (Vn r2 n0) fun _=>⟨_,rfl,trivial⟩
  ·refine B7 ?_ fun w=>?_
   ·unfold m_bn
    rw [A0,I0 rfl]
    exact ⟨_,rfl,trivial⟩
   ·split
    ·rw [one,obs]
     refine lu (Qi (s:=r.1) (t:=false) r2.1 b1.1 n0 G0) fun q hq=>?_
     have GE:Lb (b+1) (sv r.1 r.2+sv false [1]):=by
      rw [r2.sv,b1.sv]
      have:=r3.1
      have:=r3.2
      have e:(2:Int) ^ (b+1)=2 ^ b*2:=Vf ..
      exact ⟨n0,n0⟩
     exact ⟨_,rfl,hq.1,by have:=GE.len (m:=1000) n0 hq; exact this⟩
    ·exact ⟨_,rfl,r2.1,show r.2.length≤1000 by omega⟩
 unfold m_bs
 rw [r1,obs]
 refine B7 (Vp hB.1 jK hN) fun lo=>?_
 split
 ·exact ⟨_,rfl,r2.1,show r.2.length≤1000 by omega⟩
 ·by_cases h0:(0:Int) < (N:Int)
  ·have e1:ws .i64 (N:Int) 1=((N - 1:Nat):Int):=by rw [Pl.ws_in (by constructor<;>omega)]; omega
   obtain ⟨q,v',q1,q2,q3⟩:=dn (N - 1) n0
   have ql:q.2.length≤700:=q3.len (m:=700) n0 q2
   rw [I0 h0,e1,q1,obs]
   refine B7 (Vn q2 n0) fun z=>?_
   refine B7 ?_ fun w=>?_
   ·split
    ·rw [Wb q2 n0,obs]; exact ⟨_,rfl,trivial⟩
    ·exact ⟨_,rfl,trivial⟩
   ·split
    ·refine B7 ?_ fun w=>?_
     ·split
      ·exact ⟨_,rfl,trivial⟩
      ·exact B7 (Vp hB.1 jK n0) fun _=>⟨_,rfl,trivial⟩
     ·split
      ·exact j8 _
      ·exact j8 _
    ·exact j8 _
  ·rw [J0 h0]; exact j8 _
theorem Ax {n:Bool} {b:Nat} {l:LI} {u x:Int} (hB:Bg u false l) (hu:Lb b u) (hb:b≤3000) (hx: -12000≤x∧x≤12000):Ret (m_bx n false l x false 2) W64:=by
 have hl:l.length≤94:=hu.len (m:=94) n0 hB
 obtain ⟨k,k1,k2⟩:∃ k:Nat,m_bf false l=some (k:Int)∧k≤3008:=by
  by_cases h0:l=[]
  ·subst h0
   exact ⟨0,H0,n0⟩
  ·obtain ⟨k,k1,k2,_⟩:=ss (s:=false) hB.1 hB.2.1 n0 h0
   exact ⟨k,k1,n0⟩
 unfold m_bx
 rw [k1,obs]
 split
 ·rw [O0]; exact (xp _ _).mono fun x hx=>⟨_,rfl,hx⟩
 ·obtain ⟨q,hq,q1,q2⟩:∃ q,imax (ws .i64 (ws .i64 (wa .i64 x (k:Int)) 1) 52) (-1074)=q∧-1074≤q∧q≤16000:=by
   refine ⟨_,rfl,?_⟩
   have e:ws .i64 (x+(k:Int)) 1=x+k - 1:=by rw [Pl.ws_in (by constructor<;>omega)]
   rw [Pl.wa_in (by constructor<;>omega),e,Pl.ws_in (by constructor<;>omega)]
   unfold imax
   split<;>omega
  rw [hq]
  by_cases ML:x≤q
  ·obtain ⟨N,hN⟩:=D3 (show 0≤q - x by omega)
   have e1:ws .i64 q x=(N:Int):=by rw [Pl.ws_in (by constructor<;>omega)]; exact hN
   rw [I0 ML,e1,O0]
   exact (OB (n:=n) hB hu n0 (N:=N) n0).mono fun r hr=>jq _ _ _ _ hr.1 hr.2
  ·obtain ⟨N,hN⟩:=D3 (show 0≤x - q by omega)
   have e1:ws .i64 x q=(N:Int):=by rw [Pl.ws_in (by constructor<;>omega)]; exact hN
   rw [J0 ML,e1]
   refine lu (Xb (s:=false) hB.1 n0 (N:=N) n0) fun r hr=>?_
   rw [hB.sv] at hr
   exact jq _ _ _ _ hr.1 ((hu.shift N).len (m:=1000) n0 hr)
theorem Bx {d:DY} (h:Dn 2660 3960 d):Ret (m_by d.1 d.2.1 d.2.2.1 d.2.2.2 2) W64:=by
 obtain ⟨r,r1,r2,u,r3,r4,r5⟩:=th h n0 n0
 have rl:r.2.2.1.length≤200:=r4.len (m:=200) n0 r3
 unfold m_by
 rw [r1,obs,r2,J0 G0,Wb r3 n0,obs]
 generalize (if u < 0 then (-1:Int) else if 0 < u then 1 else 0)=g
 split
 ·exact ⟨_,rfl,n0,n0⟩
 ·obtain ⟨a,a1,a2,_⟩:=Ti (s:=r.2.1) r3.1 n0
  rw [r3.abs] at a2
  have ha:a.1=false:=by
   cases h:a.1 with
   | false=>rfl
   | true=>have:=a2.neg.1 h; split at this<;>omega
  rw [a1,obs,ha,O0]
  rw [ha] at a2
  exact (Ax (n:=r.2.1) a2 r4.abs n0 n0).mono fun x hx=>⟨_,rfl,hx⟩
theorem Gf.w {a b:Nat} {f:Int} (h:Gf a b f) (hb:b < 2048):W64 f:=by
 rcases h with rfl | ⟨s,e,m,hs,h1,h2,hm,rfl⟩
 ·exact ⟨n0,n0⟩
 ·exact gi hs n0 hm
structure Mw (n k:Nat) (st ix vl:LI):Prop where
 pm:∃ E,Pm 980 1066 n k E st ix (List.replicate ix.length 0)
 vle:vl.length=ix.length
 w:∀ v,v∈vl→W64 v
theorem Mw.zero (n:Nat):Mw n 0 [0] [] []:=⟨⟨[],Pm.zero ..⟩,rfl,fun v hv=>by simp at hv⟩
theorem Mw.snoc {n k:Nat} {st ix vl l u:LI} (h:Mw n k st ix vl) (hs:l.Pairwise (· < ·)) (hr:∀ x,x∈l→0≤x∧x < (n:Int)) (hu:u.length=l.length) (hw:∀ v,v∈u→W64 v):Mw n (k+1) (st++[((ix++l).length:Int)]) (ix++l) (vl++u):=by
 obtain ⟨⟨E,hE⟩,h2,h3⟩:=h
 refine ⟨⟨E++[l],?_⟩,by simp [h2,hu],fun v hv=>?_⟩
 ·have:=hE.snoc (l:=l) (u:=List.replicate l.length 0) n0 n0 hs hr G0 (fun v hv=>.inl (M8 hv))
  rwa [jj,← H2] at this
 ·rcases I2.1 hv with hv | hv
  ·exact h3 v hv
  ·exact hw v hv
theorem xw {a b n:Nat} {E:L2} {st ix vl:LI} (h:Pm a b n n E st ix vl) (hn:n≤20) (i:Int) {j:Nat} (hj:j < n):Ret (m_co (n:Int) (n:Int) st ix vl i (j:Int)) (fun _=>True):=by
 have hle:ix.length≤400:=Q5 h.le (F5 hn hn)
 unfold m_co
 split
 ·exact ⟨_,rfl,trivial⟩
 ·rw [Pl.bindS (h.mv.start n0)]
  have o1:=Q9 (E:=E) (i:=j) (j:=j+1) n0
  have o2:=W7 E (j:=j+1)
  rw [← h.mv.ixe] at o2
  refine B7 ?_ fun o=>?_
  ·refine Q0 (off E (j+1) - off E j) (fun k (t:Int)=>t=((off E j+k:Nat):Int)) rfl ?_ n0
   rintro k _ hk rfl
   unfold m_cn
   rw [Pl.wa1 n0,Pl.bindS (h.mv.start n0),C1]
   refine ⟨fun hlt=>?_,fun _=>⟨_,rfl,trivial⟩⟩
   rw [Pl.bindS (Pl.getI_lt n0),C1]
   exact ⟨fun _=>⟨_,rfl,trivial⟩,fun _=>⟨_,rfl,n0,by rw [Pl.wa1 n0]; rfl⟩⟩
  ·cases o with
   | inl u=>exact ⟨_,rfl,trivial⟩
   | inr u=>exact ⟨_,rfl,trivial⟩
theorem DB:∃ d,m_bh 1=some d∧Dn 53 1240 d:=by
 have h:m_bh 1=some (false,false,[1],0):=H0
 have b1:Bg 1 false [1]:=⟨fun x hx=>by rw [Z2.1 hx]; unfold B; omega,fun x hx=>by simp at hx; omega,rfl,G0⟩
 exact ⟨_,h,rfl,1,b1,⟨by decide,by decide⟩,by simp only; omega,by simp only; omega⟩
theorem JB {n:Nat} {E:L2} {st ix vl:LI} (h:Pm 980 1066 n n E st ix vl) (hn:n≤15) {j:Nat} (hj:j < n) {d:DY} (hd:Dn 53 1240 d):Ret (loop (m_cr (n:Int) (j:Int) ((n:Int),(n:Int),st,ix,vl)) ([d],0)) (fun l=>l.length≤20∧∀ d,d∈l→Dn 53 1240 d):=by
 refine Q0 n (fun k (t:List DY×Int)=>t.2=k∧t.1.length≤1+k∧∀ d,d∈t.1→Dn 53 1240 d) ⟨rfl,G0,fun x hx=>by rw [Z2.1 hx]; exact hd⟩ ?_ n0
 rintro k ⟨l,_⟩ hk ⟨hi,h1,h2⟩
 simp only at hi h1 h2
 subst hi
 unfold m_cr m_cq
 simp only
 by_cases ou:k < n
 ·have hw:wa .i64 (k:Int) 1=((k+1:Nat):Int):=Pl.wa1 n0
  rw [B0,hw]
  by_cases sJ:(k:Int)=(j:Int)
  ·rw [I0 sJ,K0,T0]
   exact ⟨ou,rfl,by simp only; omega,h2⟩
  ·obtain ⟨x,hx⟩:∃ x:Nat,imin (j:Int) (k:Int)=(x:Int)∧x < n:=by
    unfold imin
    split
    ·first | exact ⟨j,rfl,hj⟩ | exact ⟨k,rfl,ou⟩
    ·first | exact ⟨k,rfl,ou⟩ | exact ⟨j,rfl,hj⟩
   rw [J0 sJ,hx.1]
   refine lu (Km.at_ok h n0 n0 n0 n0 _ hx.2) fun f hf=>?_
   obtain ⟨d,d1,d2⟩:=Ix hf
   obtain ⟨q,q1,q2⟩:=ny d2 n0 n0
   rw [d1,obs,q1,obs,Pl.bindS (Pl.app_small (by simp; omega)),K0,T0]
   refine ⟨ou,rfl,by simp; omega,fun x hx=>?_⟩
   rcases I2.1 hx with hx | hx
   ·exact h2 x hx
   ·rw [Z2.1 hx]
    exact q2.mono n0 n0
 ·rw [A0,K0,E1]
  exact ⟨n0,h2⟩
theorem MB (l:LI) (hl:l.length < 9223372036854775808) {n:Nat} (hn:n≤15) (style:Int):Ret (m_cv l (n:Int) style) (fun o=>o.1=(n:Int)∧o.2.1=(n:Int)∧Mw n n o.2.2.1 o.2.2.2.1 o.2.2.2.2):=by
 obtain ⟨s,s1,s2⟩:=Ge style (n:=3) n0 n0
 obtain ⟨⟨g1,g2,st,ix,vl⟩,g3,rfl,rfl,E,hE⟩:=GA l hl (r:=n) (c:=n) (st:=s) n0 n0 s2
 simp only at hE
 obtain ⟨d0,e1,e2⟩:=DB
 unfold m_cv
 rw [show (3:Int)=((3:Nat):Int) from rfl,s1,obs,g3,obs]
 refine lu (Q0 (Post:=fun o:LI×LI×LI=>Mw n n o.1 o.2.1 o.2.2) n (fun k (t:LI×LI×LI×Int)=>t.2.2.2=(k:Int)∧Mw n k t.1 t.2.1 t.2.2.1) ⟨rfl,Mw.zero n⟩ ?_ n0) ?_
 ·rintro k ⟨sl,iy,vy,_⟩ hk ⟨hi,hM⟩
  simp only at hi hM
  subst hi
  unfold m_cu
  simp only
  rw [C1]
  refine ⟨fun hlt=>?_,fun nv=>⟨_,rfl,by obtain rfl:k=n:=n0; exact hM⟩⟩
  have JP:iy.length≤225:=by
   obtain ⟨E',MK⟩:=hM.pm
   exact Q5 MK.le (Q5 (F5 hn hk) n0)
  have nP:=hM.vle
  have kx:sl.length≤100:=by
   obtain ⟨E',MK⟩:=hM.pm
   have:=MK.mv.sl
   omega
  refine lu (Q0 (Post:=fun o:LI×LI=>∃ u v:LI,o=(iy++u,vy++v)∧u.Pairwise (· < ·)∧(∀ x,x∈u→0≤x∧x < (n:Int))∧v.length=u.length∧∀ f,f∈v→W64 f) n (fun i (t:LI×LI×Int)=>t.2.2=(i:Int)∧∃ u v:LI,t.1=iy++u∧t.2.1=vy++v∧u.Pairwise (· < ·)∧(∀ x,x∈u→0≤x∧x < (i:Int))∧v.length=u.length∧∀ f,f∈v→W64 f) ⟨rfl,[],[],G0,G0,List.Pairwise.nil,(by intro x h; cases h),rfl,(by intro x h; cases h)⟩ ?_ n0) ?_
  ·rintro i ⟨_,_,_⟩ hi ⟨wF,u,v,CH,fJ,h1,h2,h3,h4⟩
   simp only at wF CH fJ
   subst wF CH fJ
   unfold m_ct m_cs m_cp
   simp only
   rw [C1]
   refine ⟨fun hlt=>?_,fun nv=>⟨_,rfl,u,v,rfl,h1,fun x hx=>by have:=h2 x hx; omega,h3,h4⟩⟩
   have VF:=Pl.asc_len h1 h2
   have ky:wa .i64 (i:Int) 1=((i+1:Nat):Int):=Pl.wa1 n0
   have put:∀ f:Int,W64 f→Ret ((app (vy++v) [f]).bind fun x=>some (Sum.inl (iy++u++[(i:Int)],x,wa .i64 (i:Int) 1))) (VQ (fun t':LI×LI×Int=>i < n∧t'.2.2=((i+1:Nat):Int)∧∃ u v:LI,t'.1=iy++u∧t'.2.1=vy++v∧u.Pairwise (· < ·)∧(∀ x,x∈u→0≤x∧x < ((i+1:Nat):Int))∧v.length=u.length∧∀ f,f∈v→W64 f) (fun o:LI×LI=>∃ u v:LI,o=(iy++u,vy++v)∧u.Pairwise (· < ·)∧(∀ x,x∈u→0≤x∧x < (n:Int))∧v.length=u.length∧∀ f,f∈v→W64 f)):=fun f hf=>by
    rw [Pl.bindS (Pl.app_small (by simp; omega)),K0,T0]
    refine ⟨n0,ky,u++[(i:Int)],v++[f],G0,G0,?_,?_,by simp [h3],?_⟩
    ·rw [C9]
     exact ⟨h1,kj ..,fun x hx y hy=>by rw [Z2.1 hy]; exact (h2 x hx).2⟩
    ·intro y hy
     rcases I2.1 hy with hy | hy
     ·have:=h2 y hy; omega
     ·rw [Z2.1 hy]; omega
    ·intro y hy
     rcases I2.1 hy with hy | hy
     ·exact h4 y hy
     ·rw [Z2.1 hy]; exact hf
   have AI:app (iy++u) [(i:Int)]=some (iy++u++[(i:Int)]):=Pl.app_small (by simp; omega)
   by_cases nH:(i:Int)=(k:Int)
   ·rw [I0 nH,e1,obs]
    refine lu (JB hE hn (j:=i) n0 (d:=d0) e2) fun L hL=>?_
    obtain ⟨s,s1,s2⟩:=px hL.1 hL.2
    rw [AI,obs,s1,obs,O0]
    exact (Bx s2).mono fun f hf=>put f hf
   ·rw [J0 nH]
    refine B7 (xw hE n0 _ n0) fun b=>?_
    cases b with
    | true=>
     rw [I0 rfl,AI,obs,O0]
     exact (Km.at_ok hE n0 n0 n0 n0 _ n0).mono fun f hf=>put f (Gf.w hf n0)
    | false=>
     rw [J0 G0,K0,T0]
     exact ⟨n0,ky,u,v,rfl,rfl,h1,fun x hx=>by have:=h2 x hx; omega,h3,h4⟩
  ·rintro _ ⟨u,v,rfl,h1,h2,h3,h4⟩
   simp only
   have VF:=Pl.asc_len h1 h2
   rw [Pl.bindS (Pl.app_small (by simp; omega)),K0,T0]
   exact ⟨n0,Pl.wa1 n0,hM.snoc h1 h2 h3 h4⟩
 ·rintro ⟨sl,iy,vy⟩ hM
  exact ⟨_,rfl,rfl,rfl,hM⟩
theorem Iq {f:Int} (hw:W64 f) (h:m_d f=some true):Fq f∧Fi f:=by
 obtain ⟨s,e,m,hs,he,hm,rfl⟩:=Xe hw.1 hw.2
 have h1:e≠2047:=by
  rintro rfl
  unfold m_d at h
  rw [o9 hs he hm] at h
  simp at h
 have h2:=Ye hs he hm
 rw [decide_eq_false h1] at h2
 refine ⟨⟨?_,hw⟩,hw,h2⟩
 unfold m_di
 rw [h2,obs]
 rfl
theorem RA {f:Int} (h:Fq f):Fi f:=by
 obtain ⟨h1,h2⟩:=h
 refine ⟨h2,?_⟩
 unfold m_di at h1
 cases hx:m_dh f with
 | none=>rw [hx] at h1; cases h1
 | some b=>rw [hx,obs] at h1; cases b<;>simp_all
theorem xB:m_cx=m_dq:=rfl
theorem vB {n:Nat} {st ix vl:LI} (h:Mw n n st ix vl) (hn:n≤15):∃ l,m_cy (n:Int) (n:Int) st ix vl=some l∧l.length≤225∧∀ e,e∈l→(0≤e.1∧e.1 < (n:Int))∧(0≤e.2.1∧e.2.1 < (n:Int))∧Fq e.2.2:=by
 obtain ⟨⟨E,hE⟩,h2,h3⟩:=h
 have hle:ix.length≤225:=Q5 hE.le (F5 hn hn)
 obtain ⟨b,b1,b2⟩:=Gq (vl:=vl) n0
 have hc:=Lq hE.mv h2 n0 n0 n0 b1
 unfold m_cy
 rw [hc,obs]
 cases b with
 | false=>exact ⟨[],rfl,G0,fun e he=>by simp at he⟩
 | true=>
  have hf:=b2.1 rfl
  have hM:Mv n n E st ix vl:=⟨hE.mv.len,hE.mv.asc,hE.mv.rng,hE.mv.ixe,hE.mv.sl,hE.mv.ste,h2,fun v hv=>(Iq (h3 v hv) (hf v hv)).1.1⟩
  obtain ⟨l,l1,l2⟩:=rr hM n0 n0
  rw [I0 rfl,I0 rfl,xB,l1,obs]
  exact ⟨l,rfl,by have:=l2.len; omega,fun e he=>⟨(l2.rng e he).1,(l2.rng e he).2,(Iq (h3 _ (l2.val e he)) (hf _ (l2.val e he))).1⟩⟩
theorem Az {n:Nat} {st ix vl:LI} (h:Mw n n st ix vl) (hn:n≤15):∃ st' ix' vl' E,m_c7 (n:Int) (n:Int) st ix vl=some ((n:Int),(n:Int),st',ix',vl')∧Mv n n E st' ix' vl'∧SyE E∧∀ v,v∈vl'→Fi v:=by
 obtain ⟨l,l1,l2,l3⟩:=vB h hn
 have q:Ret (loop (m_c6 l) ([],0)) (fun L=>L.length≤450∧(∀ e,e∈L→(0≤e.1∧e.1 < (n:Int))∧(0≤e.2.1∧e.2.1 < (n:Int))∧Fq e.2.2)∧∀ r c x,(r,c,x)∈L→(c,r,x)∈L):=by
  refine Q0 l.length (fun k (t:List E3×Int)=>t.2=k∧t.1.length≤2*k∧(∀ e,e∈t.1→(0≤e.1∧e.1 < (n:Int))∧(0≤e.2.1∧e.2.1 < (n:Int))∧Fq e.2.2)∧∀ r c x,(r,c,x)∈t.1→(c,r,x)∈t.1) ⟨rfl,G0,fun e he=>by simp at he,fun r c x hx=>by simp at hx⟩ ?_ n0
  rintro k ⟨L,_⟩ hk ⟨hi,h1,h2,h3⟩
  simp only at hi h1 h2 h3
  subst hi
  unfold m_c6 m_c5 m_c4
  simp only
  by_cases Cu:k < l.length
  ·obtain ⟨⟨r,c,x⟩,hx⟩:∃ e,l[k]?=some e:=⟨_,J2 Cu⟩
   have g:getI l (k:Int)=some (r,c,x):=hx
   obtain ⟨e1,e2,e3⟩:=l3 _ (X2 hx)
   simp only at e1 e2 e3
   rw [B0,Pl.bindS g,Pl.wa1 n0]
   simp only
   by_cases TL:r < c
   ·rw [I0 TL,K0,T0]
    exact ⟨Cu,rfl,by simp only; omega,h2,h3⟩
   ·rw [J0 TL,Pl.bindS (Pl.app_small (by simp; omega))]
    by_cases GG:c < r
    ·rw [I0 GG,Pl.bindS (Pl.app_small (by simp; omega)),K0,T0]
     refine ⟨Cu,rfl,by simp; omega,fun e he=>?_,fun r' c' x' pv=>?_⟩
     ·simp only [I2,Z2] at he
      rcases he with (he | rfl) | rfl
      ·exact h2 e he
      ·exact ⟨e1,e2,e3⟩
      ·exact ⟨e2,e1,e3⟩
     ·simp only [I2,Z2,If] at pv ⊢
      rcases pv with (pv | ⟨rfl,rfl,rfl⟩) | ⟨rfl,rfl,rfl⟩
      ·exact .inl (.inl (h3 _ _ _ pv))
      ·exact .inr ⟨rfl,rfl,rfl⟩
      ·exact .inl (.inr ⟨rfl,rfl,rfl⟩)
    ·have:r=c:=n0
     subst this
     rw [J0 GG,K0,T0]
     refine ⟨Cu,rfl,by simp; omega,fun e he=>?_,fun r' c' x' pv=>?_⟩
     ·simp only [I2,Z2] at he
      rcases he with he | rfl
      ·exact h2 e he
      ·exact ⟨e1,e2,e3⟩
     ·simp only [I2,Z2,If] at pv ⊢
      rcases pv with pv | ⟨rfl,rfl,rfl⟩
      ·exact .inl (h3 _ _ _ pv)
      ·exact .inr ⟨rfl,rfl,rfl⟩
  ·rw [A0,K0,E1]
   exact ⟨n0,h2,h3⟩
 obtain ⟨L,o1,o2,o3,o4⟩:=q
 obtain ⟨st',ix',vl',p1,p2,p3⟩:=Qy (R:=n) (C:=n) n0 n0 (L:=L) n0 ⟨fun e he=>(o3 e he).1,fun e he=>(o3 e he).2.1,fun e he=>(o3 e he).2.2⟩
 refine ⟨st',ix',vl',_,?_,p2,fun c r GG=>?_,fun v hv=>RA (p3 v hv)⟩
 ·unfold m_c7
  rw [l1,obs,o1,obs,p1,obs]
 ·obtain ⟨h1,h2,x,h3⟩:=qp.1 GG
  exact qp.2 ⟨h2,h1,x,o4 _ _ _ h3⟩
section
variable {n:Nat}
theorem Iy {o:LI} (ho:Pm o n) {k:Nat} (hk:k < o.length):¬ o[k]∈o.take k:=fun h=>by
 obtain ⟨i,hi,he⟩:=List.getElem_of_mem h
 rw [A4] at hi
 rw [List.getElem_take] at he
 have:=dc ho.nd he
 omega
theorem Gy {o:LI} (hn:n≤1000) (ho:Pm o n):∃ v,m_hi o (n:Int)=some (v,true)∧v.length=n∧∀ x,x∈v→0≤x∧x < (n:Int):=by
 have QD:=ho.len
 have key:Ret (loop (m_hh o (n:Int)) (List.replicate n 0,List.replicate n false,0)) (fun r=>∃ v,r=.inl v∧v.length=n∧∀ x,x∈v→0≤x∧x < (n:Int)):=by
  refine Q0 n (fun k (t:LI×BL×Int)=>t.2.2=k∧t.1.length=n∧(∀ x,x∈t.1→0≤x∧x < (n:Int))∧t.2.1.length=n∧∀ u:Nat,t.2.1[u]?=some true→(u:Int)∈o.take k) ⟨rfl,G0,fun x hx=>?_,G0,fun u hu=>?_⟩ ?_
  ·have:=M8 hx
   have h2:0 < n:=by
    refine O2 fun h=>?_
    obtain rfl:n=0:=n0
    simp at hx
   omega
  ·rw [E9] at hu
   split at hu<;>simp at hu
  rintro k ⟨v,T,_⟩ hk ⟨hi,h1,h2,h3,h4⟩
  simp only at hi h1 h2 h3 h4
  subst hi
  unfold m_hh
  simp only
  rw [QD]
  by_cases ou:k < n
  ·have hw:wa .i64 (k:Int) 1=((k+1:Nat):Int):=Pl.wa1 n0
   have IF:k < o.length:=n0
   have hx:=ho.rng o[k] (Z1 IF)
   have xJ:=Iy ho IF
   obtain ⟨u,hu⟩:=D3 hx.1
   have vG:u < T.length:=n0
   have hb:T[u]=false:=by
    cases e:T[u] with
    | false=>rfl
    | true=>exact absurd (h4 u (by rw [J2 vG,e])) (by rw [← hu]; exact xJ)
   have g1:getI T o[k]=some false:=by rw [hu,← hb]; exact Pl.getI_lt vG
   rw [B0,Pl.bindS (Pl.getI_lt IF),J0 (by simp; omega),Pl.bindS g1,y6,J0 G0,hu,Pl.bindS (Pl.setI_lt n0),Pl.bindS (Pl.setI_lt vG),hw,K0,T0]
   refine ⟨ou,rfl,by simp [h1],fun x hx=>?_,by simp [h3],fun w hw=>?_⟩
   ·rcases Pf hx with hx | rfl
    ·exact h2 x hx
    ·omega
   ·simp only at hw
    rw [tks (J2 IF),I2,Z2]
    rw [B3] at hw
    by_cases he:u=w
    ·subst he; exact .inr hu.symm
    ·rw [J0 he] at hw; exact .inl (h4 w hw)
  ·rw [A0,K0,E1]
   exact ⟨v,rfl,h1,h2⟩
 obtain ⟨r,r1,v,rfl,v1,v2⟩:=key
 refine ⟨v,?_,v1,v2⟩
 unfold m_hi
 rw [B0,Pl.bindS (G4 0 n n0),Pl.bindS (G4 false n n0),Pl.bindS r1]
theorem Mx.put {Gd:DY→Prop} {X:MpL DY} (h:Mx Gd n X) {k:Nat} {m:List (Int×DY)} (hm:Gm Gd m):Mx Gd n (X.set k (some m)):=by
 refine ⟨by simp [h.1],fun j hj=>?_⟩
 obtain ⟨m',h1,h2⟩:=h.2 j hj
 rw [B3]
 by_cases e:k=j
 ·subst e
  rw [I0 rfl,I0 (by rw [h.1]; exact hj)]
  exact ⟨m,rfl,hm⟩
 ·rw [J0 e]
  exact ⟨m',h1,h2⟩
theorem Gz (hn:n≤1000):loop (m_js (List.replicate n none)) (List.replicate n none,0)=some (List.replicate n (some [])):=by
 refine Ret.eq ?_
 refine Q0 n (fun k (t:MpL DY×Int)=>t.2=k∧t.1=List.replicate k (some [])++List.replicate (n - k) none) ⟨rfl,G0⟩ ?_
 rintro k ⟨X,_⟩ hk ⟨hi,h1⟩
 simp only at hi h1
 subst hi h1
 unfold m_js
 simp only [T5]
 by_cases ou:k < n
 ·have hs:setM (List.replicate k (some ([]:List (Int×DY)))++List.replicate (n - k) none) (k:Int) []=some (List.replicate (k+1) (some [])++List.replicate (n - (k+1)) none):=by
   show setI _ (k:Int) (some [])=_
   rw [Pl.setI_lt (by simp; omega),gj _ _ G0]
   rw [show n - k=(n - (k+1))+1 by omega,ij,Nc]
   simp
  rw [B0,Pl.bindS hs,Pl.wa1 n0,K0,T0]
  exact ⟨ou,rfl,rfl⟩
 ·rw [A0,K0,E1]
  have:k=n:=n0
  subst this
  simp
theorem oz {E:L2} {st ix vl o:LI} (h:Mv n n E st ix vl) (hS:SyE E) (hf:∀ v,v∈vl→Fi v) (hn:n≤15) (ho:Pm o n):∃ X,m_jt (n:Int) (n:Int) st ix vl o=some (ind (gph n E) o,X,0)∧Mx (Dn 53 1130) n X:=by
 have vJ:=Aq h
 have wG:n*n≤15*15:=F5 hn hn
 have hc:=Ih h n0 n0 n0
 obtain ⟨v,v1,v2,v3⟩:=Gy n0 ho
 obtain ⟨st',ix',vl',E',l1,l2,l3⟩:=Kz h n0
 have g1:=tq l2 n0
 rw [Lz hS l3] at g1
 have QD:=ho.len
 have hr:=Wo (qq n E) (by rw [oc]; omega) (l:=o) (by rw [oc]; exact ho)
 have hlen:=h.len
 have xv:=h.vle
 have LM:∀ j:Nat,j≤n→getI st (j:Int)=some (off E j:Int):=fun j hj=>h.ste j hj
 obtain ⟨X,x1,x2⟩:Ret (loop (m_jr (n:Int) st ix (v,true) vl) (List.replicate n (some []),0)) (Mx (Dn 53 1130) n):=by
  refine Q0 n (fun k (t:MpL DY×Int)=>t.2=k∧Mx (Dn 53 1130) n t.1) ⟨rfl,G0,fun k hk=>⟨[],by simp [hk],Gm.nil⟩⟩ ?_ n0
  rintro k ⟨X,_⟩ hk ⟨hi,hX⟩
  simp only at hi hX
  subst hi
  unfold m_jr
  simp only
  by_cases ou:k < n
  ·have hc:E[k]?=some (E[k]'(n0)):=J2 n0
   generalize E[k]'(n0)=c at hc
   have hw:wa .i64 (k:Int) 1=((k+1:Nat):Int):=Pl.wa1 n0
   have qI:=k9 hc
   have ht:=W7 E (j:=k+1)
   rw [← h.ixe] at ht
   have kx:=Sa hc
   rw [← h.ixe] at kx
   have HK:∀ m,m < c.length→ix[off E k+m]?=c[m]?:=fun m hm=>by
    rw [← kx,B6,iD n0]
   rw [B0,Pl.bindS (LM k hk),O0]
   refine Y4 (P:=Mx (Dn 53 1130) n) ?_ (fun X' DO=>by rw [hw,K0,T0]; exact ⟨ou,rfl,DO⟩)
   refine Q0 c.length (fun m (t:MpL DY×Int)=>t.2=((off E k+m:Nat):Int)∧Mx (Dn 53 1130) n t.1) ⟨rfl,hX⟩ ?_ n0
   rintro m ⟨X,_⟩ hm ⟨hi,hX⟩
   simp only at hi hX
   subst hi
   unfold m_jq m_jp
   simp only
   rw [hw,Pl.bindS (LM (k+1) ou)]
   by_cases KE:m < c.length
   ·have g1:getI ix ((off E k+m:Nat):Int)=some c[m]:=(HK m KE).trans (J2 KE)
    have g2:getI vl ((off E k+m:Nat):Int)=some (vl[off E k+m]'(n0)):=Pl.getI_lt n0
    have GG:=h.rng c (X2 hc) _ (Z1 KE)
    obtain ⟨r,hr⟩:=D3 GG.1
    have hw2:wa .i64 ((off E k+m:Nat):Int) 1=((off E k+(m+1):Nat):Int):=by rw [Pl.wa1 n0]; rfl
    rw [B0,Pl.bindS g1,hw2]
    by_cases rJ:(k:Int)≤c[m]
    ·have a1:getI v c[m]=some (v[r]'(n0)):=by rw [hr]; exact Pl.getI_lt n0
     have a2:getI v (k:Int)=some (v[k]'(n0)):=Pl.getI_lt n0
     have b1:=v3 _ (Z1 (l:=v) (n:=r) n0)
     have b2:=v3 _ (Z1 (l:=v) (n:=k) n0)
     generalize v[r]'(n0)=a at a1 b1
     generalize v[k]'(n0)=b at a2 b2
     obtain ⟨a,rfl⟩:=D3 b1.1
     obtain ⟨b,rfl⟩:=D3 b2.1
     obtain ⟨mm,m1,m2⟩:=hX.2 (min a b) n0
     obtain ⟨d,d1,d2⟩:=ar.of _ (hf _ (Z1 (l:=vl) (n:=off E k+m) n0))
     have BO:=hX.1
     rw [I0 rJ,Pl.bindS a1,Pl.bindS a2,oq,Pl.bindS (Ue m1),Pl.bindS g2,Pl.bindS d1]
     have hs:setM X ((min a b:Nat):Int) (mput mm (imax (a:Int) (b:Int)) (d.1,d.2.1,d.2.2.1,d.2.2.2))=some (X.set (min a b) (some (mput mm (imax (a:Int) (b:Int)) d))):=Pl.setI_lt n0
     rw [Pl.bindS hs,K0,T0]
     exact ⟨KE,rfl,hX.put (m2.put d2)⟩
    ·rw [J0 rJ,K0,T0]
     exact ⟨KE,rfl,hX⟩
   ·rw [A0,K0,E1]
    exact hX
  ·rw [A0,K0,E1]
   exact hX
 refine ⟨X,?_,x2⟩
 unfold m_jt
 rw [Pl.bindS hc,I0 rfl,I0 rfl,Pl.bindS v1,I0 rfl,Pl.bindS l1]
 simp only
 rw [Pl.bindS g1]
 simp only
 rw [Pl.bindS hr]
 simp only
 rw [Pl.bindS (G4 none n n0),Pl.bindS (Gz n0),Pl.bindS x1]
 rfl
end
theorem Ni:m_ni=some true:=H0
section
variable {n:Nat} {A B S o st ix vl x:LI} {C V:L2} {e e1 e2 m:Int}
theorem wz (hn:n≤200) (hb:lens C≤100000):loop (m_nl (n:Int) (o,sts C n,ix,vl,m,e)) 0=some (.inl ()):=by
 refine Ret.eq ?_
 refine Q0 n (fun k (t:Int)=>t=k) rfl ?_ n0
 rintro k _ hk rfl
 unfold m_nl
 by_cases ou:k < n
 ·have h1:=D8 (C:=C) (n:=n) (k:=k) n0
  have h2:=lh (C:=C) (n:=n) ou n0
  have h3:lens (C.take k)≤lens (C.take (k+1)):=by
   have:=Ya (C:=C.take (k+1)) (k:=k)
   rwa [Jc,n5 n0] at this
  rw [B0]
  simp only
  rw [Pl.bindS h1,Pl.bindS h2,A0,Pl.wa1 n0,K0,T0]
  exact ⟨ou,rfl⟩
 ·rw [A0,K0,E1]
theorem kz (hn:n≤200) (hb:lens C≤100000) (hC:C.length=n) (hA:A.length+B.length≤n) (h:∀ k c (x:Int),k < A.length→C[k]?=some c→x∈c→¬ ((A.length:Int)≤x∧x < ((A.length+B.length:Nat):Int))):
  loop (m_nk (A,B,S,e1) (o,sts C n,C.flatten,vl,m,e)) 0=some (.inl ()):=by
 refine Ret.eq ?_
 refine Q0 A.length (fun k (t:Int)=>t=k) rfl ?_ n0
 rintro k _ hk rfl
 unfold m_nk
 simp only
 by_cases ou:k < A.length
 ·have h1:=D8 (C:=C) (n:=n) (k:=k) n0
  have h2:=lh (C:=C) (n:=n) (k:=k) n0 n0
  have hc:C[k]?=some (C[k]'(n0)):=J2 n0
  generalize C[k]'(n0)=c at hc
  have h3:=Z7 hc
  have h4:=Ya (C:=C) (k:=k+1)
  have w1:wa .i64 (A.length:Int) (B.length:Int)=((A.length+B.length:Nat):Int):=by rw [Pl.wa_in (by constructor<;>omega)]; omega
  have aE:loop (m_nj (o,sts C n,C.flatten,vl,m,e) (k:Int) (A,B,S,e1)) (lens (C.take k):Int)=some (.inl ()):=by
   refine Ret.eq ?_
   refine Q0 c.length (fun t (s:Int)=>s=((lens (C.take k)+t:Nat):Int)) rfl ?_ n0
   rintro t _ ht rfl
   unfold m_nj
   simp only
   rw [Pl.bindS h2]
   by_cases kJ:t < c.length
   ·have g:getI C.flatten ((lens (C.take k)+t:Nat):Int)=some c[t]:=(di hc t kJ).trans (J2 kJ)
    have hx:=h k c c[t] ou hc (Z1 kJ)
    rw [B0,Pl.bindS g,w1]
    have hr:(if (A.length:Int)≤c[t] then (getI C.flatten ((lens (C.take k)+t:Nat):Int)).bind fun x176=>some (decide (x176 < ((A.length+B.length:Nat):Int))) else some false)=some false:=by
     by_cases ha:(A.length:Int)≤c[t]
     ·rw [I0 ha,Pl.bindS g,decide_eq_false (fun hb=>hx ⟨ha,hb⟩)]
     ·rw [J0 ha]
    rw [hr,obs,J0 G0,Pl.wa1 n0,K0,T0]
    exact ⟨kJ,rfl⟩
   ·rw [A0,K0,E1]
  rw [B0,Pl.bindS h1,Pl.bindS aE]
  simp only
  rw [Pl.wa1 n0,K0,T0]
  exact ⟨ou,rfl⟩
 ·rw [A0,K0,E1]
end
theorem mL {n:Nat} (h:n≤maxLen):n < 9223372036854775808:=by
 have e:maxLen=9223372036854775807:=by decide
 omega
theorem topSeparated_t (l:LI) (x3 x4:Int) (h:okL (Wf .u64) l) (_:Wf .i64 x3) (_:Wf .i64 x4):m_nm l x3 x4=some true:=by
 obtain ⟨n,n1,n2⟩:=Ge x3 (n:=9) n0 n0
 obtain ⟨⟨_,_,st,ix,vl⟩,d1,rfl,rfl,hM⟩:=MB l (mL h.1) (n:=n) n0 x4
 simp only at hM
 obtain ⟨st',ix',vl',E,m1,m2,m3,m4⟩:=Az hM n0
 have hG:=qq n E
 have UE:=oc n E
 have hg:=tq m2 n0
 obtain ⟨A,B,S,o,hD⟩:=ds hG n0
 have FF:=hD.pm
 have hlen:=hD.len
 rw [UE] at FF hlen
 have QD:=FF.len
 obtain ⟨X,N1,N2⟩:=oz m2 m3 m4 n0 FF
 obtain ⟨par,R,hR⟩:=rws (n:=n) (Vh hG o) (by rw [mc]; exact QD) n0
 have rE:=hR.columns n0
 have bF:=hR.pat
 have NG:m_in (gph n E) o=some (ind (gph n E) o,0):=Wo hG n0 (by rw [UE]; exact FF)
 have fF:=fill_ok NG hR n0
 have mG:m_ml o (n:Int)=some true:=Hy n0 FF.len FF.nd FF.rng
 have kv:∀ k c,((List.range n).map fun j=>col R j n)[k]?=some c→k < n∧c=col R k n:=fun k c hc=>by
  have hk:k < n:=by have:=(C2.1 hc).1; simpa using this
  simp only [H7,Rc hk,H8,w6] at hc
  exact ⟨hk,hc.symm⟩
 generalize hC:((List.range n).map fun j=>col R j n)=C at rE bF fF kv
 have jI:=bF.len
 have iK:lens C≤100000:=by
  have:=jc (n:=8) (ls:=C) (fun c hc=>by
   obtain ⟨k,hk⟩:=D9.1 hc
   rw [(kv k c hk).2]
   have:=Cb (R:=R) (j:=k) n
   omega)
  omega
 have VI:=Uz ar n0 N1 rE bF N2 n0
 have xI:=Z6 C
 unfold m_nm
 rw [show (9:Int)=((9:Nat):Int) from rfl,Pl.bindS n1,Pl.bindS d1]
 simp only
 rw [Pl.bindS m1]
 simp only
 rw [Pl.bindS hg]
 simp only
 rw [Pl.bindS hD.sp,Pl.bindS hD.od]
 simp only
 rcases VI with ⟨z,e,q1,q2⟩ | ⟨V,q1,q2⟩
 ·rw [Pl.bindS q1,Pl.bindS fF]
  simp only [decide_true,U4,Cj,D2,if_false]
  rw [Pl.bindS mG]
  simp only [U4,y6,D2,if_false]
  rw [J0 q2,Ni]
  rfl
 ·have dI:=Lv bF q2
  have ZK:=Z6 V
  have HG:=oC n0 FF bF q2 dI iK
  have kx:=po (C:=C) (n:=n)
  have hw1:wa .i64 (n:Int) 1=((n+1:Nat):Int):=Pl.wa1 n0
  rw [Pl.bindS q1,Pl.bindS fF]
  simp only [decide_true,U4,Cj,D2,if_false]
  rw [Pl.bindS mG]
  simp only [U4,y6,D2,if_false,if_true,xI,ZK,dI,decide_true,Cj]
  rw [Pl.bindS HG]
  simp only [decide_true,U4,y6,kx,hw1,Cj,D2,if_false]
  by_cases hs:((decide ((n:Int) < 2) || decide ((A.length:Int)=0)) || decide ((B.length:Int)=0))=true
  ·rw [I0 hs,Ni]
   rfl
  ·rw [J0 hs]
   simp only [U5,decide_eq_true_eq,not_or] at hs
   obtain ⟨⟨s1,s2⟩,s3⟩:=hs
   have hA:A≠[]:=by rintro rfl; exact s2 rfl
   have hB:B≠[]:=by rintro rfl; exact s3 rfl
   have w1:wa .i64 (A.length:Int) (B.length:Int)=((A.length+B.length:Nat):Int):=by rw [Pl.wa_in (by constructor<;>omega)]; omega
   have w2:wa .i64 ((A.length+B.length:Nat):Int) (S.length:Int)=(n:Int):=by rw [Pl.wa_in (by constructor<;>omega)]; omega
   have g0:getI (sts C n) 0=some 0:=D8 (C:=C) (n:=n) (k:=0) n0
   have gn:getI (sts C n) (n:Int)=some (lens C:Int):=by
    have:=D8 (C:=C) (n:=n) (k:=n) n0
    rwa [P4 n0] at this
   have BM:∀ k c (x:Int),k < A.length→C[k]?=some c→x∈c→¬ ((A.length:Int)≤x∧x < ((A.length+B.length:Nat):Int)):=by
    intro k c x hk hc hx ⟨h1,h2⟩
    obtain ⟨_,rfl⟩:=kv k c hc
    obtain ⟨y,rfl⟩:=D3 (show 0≤x by omega)
    exact xf QD hR (hD.ed n0 hA hB) hG hk hx ⟨n0,n0⟩
   rw [w1,w2,I0 rfl,Pl.bindS g0]
   simp only [decide_true,U4,y6,D2,if_false]
   rw [Pl.bindS gn]
   simp only [decide_true,U4,y6,D2,if_false]
   rw [Pl.bindS (wz n0 iK)]
   simp only
   rw [Pl.bindS (kz n0 iK jI n0 BM),Ni]
   rfl
end Ts
