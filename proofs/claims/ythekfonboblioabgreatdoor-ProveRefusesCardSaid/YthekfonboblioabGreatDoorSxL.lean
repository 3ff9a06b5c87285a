/- Stores into a field of an element; arrays; copy. It holds over any program. -/
import Derived.Test.YthekfonboblioabGreatDoorSxK
import Derived.Laws.CopyRow
import Derived.Laws.IdiomCopy
namespace Sx
open Go
section
variable {P:Program} {ops:Array Oper} {Q:Exit→Act→World→Prop} {n:Nat} {f:Nat→Value} {w:World} {rest:List Oper} {o:Oper} {d:Nat} {v:Value}
theorem YV {S:World→Prop} (hg:Wn ops n f o.guard) (hd:o.dst=some d) (hy:∃ (w':World),(execOp (fr n f).eval o).run P w=.ok (.value v) w'∧S w') (k:∀ (w':World),S w'→wpList P ops Q rest (fr n (upd f d v)) w'):wpList P ops Q (o::rest) (fr n f) w:=by
 obtain ⟨w',h1,h2⟩:=hy
 exact Yw hg hd h1 (k w' h2)
variable {os:List Oper} {G1:Value→World→Prop}
end
theorem Nu {s:Nat} (l:List (CS s)) (k:Nat):cellsOf (l.take k)=(cellsOf l).take (k*s):=by
 by_cases hk:k≤l.length
 ·exact QE l k hk
 ·rw [Y7 A0,Y7]
  rw [S4]; exact Eb _ A0
theorem SE {s:Nat} (l:List (CS s)) (k:Nat):cellsOf (l.drop k)=(cellsOf l).drop (k*s):=by
 by_cases hk:k≤l.length
 ·have h:cellsOf l=cellsOf (l.take k)++cellsOf (l.drop k):=by rw [← Cb,Ra]
  rw [h,Qv]
  rw [S4,B4,G6 hk]
 ·rw [Ye A0,Ye]
  ·rfl
  ·rw [S4]; exact Eb _ A0
theorem All2.take {α:Type} {w:World} {X:Nat→Prop} {E:Rp α} {cs:List (CS E.s)} {l:List α} (h:All2 w X E cs l) (k:Nat):All2 w X E (cs.take k) (l.take k):=by
 refine ⟨by simp [h.1],fun i c x hc hx=>?_⟩
 rw [H6] at hc hx
 split at hc
 ·rename_i hi; rw [M0 hi] at hx; exact h.2 i c x hc hx
 ·cases hc
theorem All2.drop {α:Type} {w:World} {X:Nat→Prop} {E:Rp α} {cs:List (CS E.s)} {l:List α} (h:All2 w X E cs l) (k:Nat):All2 w X E (cs.drop k) (l.drop k):=by
 refine ⟨by simp [h.1],fun i c x hc hx=>?_⟩
 rw [V9] at hc hx
 exact h.2 _ c x hc hx
section
variable {P:Program} {α:Type} {E:Rp α} {q:α} {l m:List α} {a:Act} {w0 w:World} {ax:List Fact} {rs:List Res} {d:Option Tmp} {t:TypeId} {p:String} {af:Array Edge} {g:Option (Nat×Bool)} {x y:Operand} {v u:Value} {T T2 U e:TypeId} {h:Hdr}
theorem St.guest0 (cx:St w0 ax rs w):St w ax [] w:=by
 obtain ⟨X,hX⟩:=cx
 exact ⟨fun b=>b < w.heap.size,Chg.refl _ _,fun b hb=>hb,fun b hb=>hb,fun r hr=>r.mono (hX.ro r hr) (Same.refl _ _) hX.xlt,trivial⟩
theorem St.back {w':World} {qH:List Fact} {rs1:List Res} (cx:St w0 ax rs w) (h1:St w qH rs1 w'):St w0 ax rs w':=by
 obtain ⟨Y,hY⟩:=h1
 exact cx.grow hY.ext
theorem St.back1 {w':World} {qH:List Fact} {s:Nat} {e':α→List Value} {hp:0 < s} {hl:∀ x,(e' x).length=s} {ho:∀ x v,v∈e' x→v.oneCell'=true} (cx:St w0 ax rs w) (h1:St w qH [row T (rF s e' hp hl ho) v l] w'):St w0 ax (row T (rF s e' hp hl ho) v l::rs) w':=by
 obtain ⟨Y,hY⟩:=h1
 obtain ⟨F,⟨hm,cs,ha,hr,he⟩,hd,_⟩:=hY.own
 refine cx.new hY.ext fun X _ _=>⟨F,⟨hm,cs,⟨ha.1,fun i c x hc hx=>ha.2 i c x hc hx⟩,hr,he⟩,fun b hb=>?_⟩
 by_cases hlt:b < w.heap.size
 ·exact absurd (hY.old b hlt) (hd b hb)
 ·omega
def cpI {β:Type} (l:List β) (lo hi:Int) (m:List β):Option (List β×Int):=
 if 0≤lo∧lo≤hi∧hi≤l.length then some (l.take lo.toNat++m.take (hi.toNat - lo.toNat)++l.drop (lo.toNat+min m.length (hi.toNat - lo.toNat)),((min m.length (hi.toNat - lo.toNat):Nat):Int)) else none
theorem sE {β:Type} {l m l':List β} {lo hi n:Int} (h:cpI l lo hi m=some (l',n)):0≤lo∧lo≤hi∧hi≤l.length∧l'=l.take lo.toNat++m.take (hi.toNat - lo.toNat)++l.drop (lo.toNat+min m.length (hi.toNat - lo.toNat))∧n=((min m.length (hi.toNat - lo.toNat):Nat):Int):=by
 unfold cpI at h
 split at h
 ·rename_i hc
  simp only [Oa,Prod.mk.injEq] at h
  exact ⟨hc.1,hc.2.1,hc.2.2,h.1.symm,h.2.symm⟩
 ·cases h
theorem Qz {X:Nat→Prop} {ad:Addr} {cap:Nat} (IG:Sees w X E (.slice (some ad) m.length cap) m):∃ c2:List (CS E.s),All2 w X E c2 m∧∀ j u,(cellsOf c2)[j]?=some u→w.cell? (ad.add j)=some u:=by
 obtain ⟨a',DD,hv,fH,GH,IG⟩:=IG
 simp only [Value.slice.injEq] at hv
 obtain ⟨rfl,_,rfl⟩:=hv
 have hex:∀ i (h:i < m.length),∃ c:CS E.s,E.r w X c.1 m[i]∧∀ j u,c.1[j]?=some u→w.cell? (ad.add (i*E.s+j))=some u:=by
  intro i h
  obtain ⟨_,cs,h1,h2⟩:=IG i m[i] (by simp [h])
  exact ⟨⟨cs,E.len h1,E.one h1⟩,h1,h2⟩
 have HE:∃ c2:List (CS E.s),c2.length=m.length∧∀ i c x,c2[i]?=some c→m[i]?=some x→E.r w X c.1 x∧∀ j u,c.1[j]?=some u→w.cell? (ad.add (i*E.s+j))=some u:=by
  refine ⟨List.ofFn fun i:Fin m.length=>Classical.choose (hex i.1 i.2),H0,fun i c x hc hx=>?_⟩
  have RA:i < m.length:=(Z1.1 hx).1
  have HK:=Pb (hex i RA)
  simp only [Tl,RA,dite_true,Oa] at hc
  have UA:m[i]=x:=(Z1.1 hx).2
  rw [← hc,← UA]
  exact HK
 obtain ⟨c2,Px,HE⟩:=HE
 refine ⟨c2,⟨Px,fun i c x h1 h2=>(HE i c x h1 h2).1⟩,?_⟩
 intro j u' hj
 have hlt:j < m.length*E.s:=by have:=(Z1.1 hj).1; rwa [S4,Px] at this
 have hp:=E.pos
 have hq:j / E.s < m.length:=Il (by rw [G8]; exact hlt)
 have eK:j % E.s < E.s:=Gb _ hp
 have bI:j / E.s < c2.length:=A0
 obtain ⟨_,h2⟩:=HE (j / E.s) c2[j / E.s] m[j / E.s] (by simp [bI]) (by simp [hq])
 have h4:j / E.s*E.s+j % E.s=j:=by rw [G8]; exact Ch j E.s
 have h5:(c2[j / E.s]).1[j % E.s]?=some ((c2[j / E.s]).1[j % E.s]'(by rw [(c2[j / E.s]).2.1]; exact eK)):=by simp [(c2[j / E.s]).2.1,eK]
 have h6:=h2 _ _ h5
 have h7:=Ie (l:=c2) (i:=j / E.s) (by simp [bI]) h5
 rw [h4] at h6 h7
 rw [h7] at hj
 simp only [Oa] at hj
 subst hj
 exact h6
theorem r_cp {X:Nat→Prop} {lo hi n:Int} {l':List α} {dv:Value} (hX:StX w0 X ax (row U E h.v l::rs) w) (hS:SlT P T e E q) (hE:E.s=1) (hx:a.eval x=dv) (hd:dv=(subH h E.s lo hi).v∨(dv=h.v∧lo=0∧hi=l.length)) (hy:a.eval y=u) (IG:Sees w X E u m) (hk:cpI l lo hi m=some (l',n)):
  ∃ w',(execOp a.eval ⟨d,.call ⟨.builtin .copy,#[x,y],#[T,T2]⟩,t,p,af,g⟩).run P w=.ok (.value (.int .i64 n)) w'∧St w0 ax (row U E h.v l'::rs) w':=by
 obtain ⟨h0,h1,h2,rfl,rfl⟩:=sE hk
 obtain ⟨ti,zv,yO,CC,_⟩:=hS.inf
 have ZH:(P.info? e).map (fun i=>i.size)=some 1:=by rw [yO]; simp [CC,hE]
 obtain ⟨F0,KQ,_⟩:=hX.own
 have dN:=IG
 obtain ⟨sa,scap,rfl,SQ,dQ,sR⟩:=IG
 have UR:h.n=l.length:=by
  obtain ⟨hm,c,ha,⟨_,hh⟩,hF⟩:=KQ
  rcases hh with ⟨hv,zF⟩ | ⟨g,cap,cur,hv,_⟩
  ·simp [Hdr.v] at hv; omega
  ·simp [Hdr.v] at hv; exact hv.2.1
 obtain ⟨da,dcap,wI⟩:∃ da dcap,dv=.slice da (hi.toNat - lo.toNat) dcap:=by
  rcases hd with rfl | ⟨rfl,rfl,rfl⟩
  ·exact ⟨_,_,rfl⟩
  ·exact ⟨h.a,h.c,by simp [Hdr.v,UR]⟩
 by_cases hz:min m.length (hi.toNat - lo.toNat)=0
 ·have fK:m.take (hi.toNat - lo.toNat)=[]:=by
   apply S6
   rw [B4]; omega
  rw [hz,fK,T9,Ze,Ra]
  refine ⟨w,?_,X,hX⟩
  have hr:=run_copy_none (P:=P) w T T2 t e da sa (hi.toNat - lo.toNat) dcap m.length scap hS.und ZH hz
  subst wI
  simp [execOp,resolve,invoke,builtin,hx,hy,hr,goInt]
 ·cases sa with
  | none=>
   exfalso
   have:m≠[]:=by rintro rfl; simp at hz
   obtain ⟨z,m',rfl⟩:=List.exists_cons_of_ne_nil this
   have:=(sR 0 z rfl).1
   cases this
  | some ad=>
  obtain ⟨c2,AI,bH⟩:=Qz dN
  have Px:=AI.1
  obtain ⟨hm,c,ha,⟨HN,hh⟩,hF⟩:=KQ
  rcases hh with ⟨hv,zF⟩ | ⟨gb,cap,cur,hv,GG,hg,fH,SI,KI,WH⟩
  ·omega
  have CI:h.a=some ⟨gb,0,none⟩∧h.n=l.length∧h.c=cap:=by simpa [Hdr.v] using hv
  obtain ⟨k1,k2,k3⟩:=CI
  have AM:da=some ⟨gb,lo.toNat,none⟩:=by
   rcases hd with rfl | ⟨rfl,rfl,rfl⟩
   ·simp only [Hdr.v,subH,Value.slice.injEq] at wI
    rw [← wI.1,B0,k1,hE]
    simp [Oe]
   ·simp only [Hdr.v,Value.slice.injEq] at wI
    rw [← wI.1,k1]; rfl
  let nn:=min m.length (hi.toNat - lo.toNat)
  let cs:=(cellsOf c2).take nn
  have MG:cs.length=nn:=by
   show ((cellsOf c2).take nn).length=nn
   rw [B4,S4,Px,hE]; omega
  have hr:=run_copy_row (P:=P) w T T2 t e gb lo.toNat (hi.toNat - lo.toNat) dcap ad m.length scap cur U cs hS.und ZH hg (by rw [MG]) (fun j v hj=>by
   have:((cellsOf c2).take nn)[j]?=some v:=hj
   rw [H6] at this
   split at this
   ·exact bH j v this
   ·cases this) (by rw [MG,KI,hE]; omega) (fun v hv=>Tk v (List.mem_of_mem_take hv))
  rw [MG] at hr
  refine ⟨w.setRow gb (cur.toList.take lo.toNat++cs++cur.toList.drop (lo.toNat+nn)).toArray,?_,X,hX.upd fun F aH _=>⟨F,fun cA=>?_,fun _ h=>.inl h,Chg.setRow (b:=gb) ?_⟩⟩
  ·subst wI
   subst AM
   simp [execOp,resolve,invoke,builtin,hx,hy,hr,goInt]
   rfl
  ·obtain ⟨OH,c',HG,⟨eT,VR⟩,qK⟩:=aH
   rcases VR with ⟨hv2,zF⟩ | ⟨gb',DD,cur',hv2,BP,DO,CK,xK,XM,bP⟩
   ·omega
   have:gb'=gb∧DD=cap:=by rw [hv] at hv2; simp at hv2; exact ⟨hv2.1.symm,hv2.2.symm⟩
   obtain ⟨rfl,rfl⟩:=this
   obtain rfl:cur'=cur:=by rw [DO] at hg; simpa using hg
   have aN:All2 (w.setRow gb' (cur'.toList.take lo.toNat++cs++cur'.toList.drop (lo.toNat+nn)).toArray) X E (c'.take lo.toNat++c2.take (hi.toNat - lo.toNat)++c'.drop (lo.toNat+nn)) (l.take lo.toNat++m.take (hi.toNat - lo.toNat)++l.drop (lo.toNat+nn)):=
    ((((HG.take _).app (AI.take _)).app (HG.drop _)).mono cA (fun _ h=>h))
   have TH:(l.take lo.toNat++m.take (hi.toNat - lo.toNat)++l.drop (lo.toNat+nn)).length=l.length:=by
    simp only [Q1,B4,U9]
    show _+min (hi.toNat - lo.toNat) m.length+(l.length - (lo.toNat+min m.length (hi.toNat - lo.toNat)))=_
    omega
   refine ⟨by rw [TH]; exact OH,_,aN,⟨by rw [S4,aN.1],.inr ⟨gb',DD,_,by rw [TH]; exact hv,BP,setRow_heap w gb' cur' _ U (0,0) hg,by rw [TH]; exact CK,xK,?_,?_⟩⟩,qK⟩
   ·simp only [List.size_toArray,Q1,B4,U9,kf,MG,XM,hE]
    show min lo.toNat (DD*1)+min m.length (hi.toNat - lo.toNat)+(DD*1 - (lo.toNat+min m.length (hi.toNat - lo.toNat)))=DD*1
    omega
   ·have PS:∀ k:Nat,k*E.s=k:=fun k=>by rw [hE,Te]
    rw [TH,Cb,Cb,Nu,Nu,SE,← bP]
    simp only [PS]
    have IP:(cellsOf c2).take (hi.toNat - lo.toNat)=cs:=by
     show _=(cellsOf c2).take nn
     apply Da
     intro j
     rw [H6,H6]
     have NR:(cellsOf c2).length=m.length:=by rw [S4,Px,hE,Te]
     show (if j < hi.toNat - lo.toNat then _ else _)=if j < min m.length (hi.toNat - lo.toNat) then _ else _
     by_cases hj:j < m.length
     ·by_cases QH:j < hi.toNat - lo.toNat
      ·rw [M0 QH,C0]
      ·rw [K0 QH,B0]
     ·rw [K7 (show (cellsOf c2).length≤j by omega)]
      simp
    rw [IP]
    have HP:cur'.toList.length=DD:=by rw [kf,XM,hE,Te]
    apply Da
    intro j
    simp only [H6,Ov,Q1,B4,V9,MG,HP,List.toList_toArray]
    have oJ:nn≤hi.toNat - lo.toNat:=Nat.min_le_right _ _
    have f1:min lo.toNat DD=lo.toNat:=A0
    have f2:min lo.toNat (min l.length DD)=lo.toNat:=A0
    rw [f1,f2]
    by_cases hj:j < l.length
    ·rw [M0 hj]
     by_cases HH:j < lo.toNat+nn
     ·rw [M0 HH,M0 HH]
      by_cases QH:j < lo.toNat
      ·simp [QH,hj]
      ·simp [QH]
     ·rw [K0 HH,K0 HH,C0]
    ·rw [K0 hj,B0,B0]
  ·obtain ⟨_,_,_,_,qK⟩:=aH
   exact (qK gb).2 (by rw [hv]; rfl)
theorem rCp {lo hi:Int} {k:List α×Int} {dv:Value} (cx:St w0 ax (row U E h.v l::rs) w) (hS:SlT P T e E q) (hE:E.s=1) (hx:a.eval x=dv) (hd:dv=(subH h E.s lo hi).v∨(dv=h.v∧lo=0∧hi=l.length)) (hy:a.eval y=u) (hu:Rd ax (row U E h.v l::rs) E u m) (hk:cpI l lo hi m=some k):
  ∃ w',(execOp a.eval ⟨d,.call ⟨.builtin .copy,#[x,y],#[T,T2]⟩,t,p,af,g⟩).run P w=.ok (.value (.int .i64 k.2)) w'∧St w0 ax (row U E h.v k.1::rs) w':=by
 obtain ⟨X,hX⟩:=cx
 exact r_cp hX hS hE hx hd hy (hu _ _ _ hX) hk
end
end Sx
