/- Stores into a field of an element; arrays; copy. It holds over any program. -/
import Derived.Test.YthekfonboblioacGreatDoorSxK
import Derived.Laws.CopyRow
import Derived.Laws.IdiomCopy
namespace Sx
open Go
section
variable {P:Program} {ops:Array Oper} {Q:Exit→Act→World→Prop} {n:Nat} {f:Nat→Value} {w:World} {rest:List Oper} {o:Oper} {d:Nat} {v:Value}
theorem YV {S:World→Prop} (hg:Wn ops n f o.guard) (hd:o.dst=some d) (hy:∃ (w':World),(execOp (fr n f).eval o).run P w=.ok (.value v) w'∧S w') (k:∀ (w':World),S w'→wpList P ops Q rest (fr n (upd f d v)) w'):wpList P ops Q (o::rest) (fr n f) w:=by
 obtain ⟨w',h1,h2⟩:=hy
 exact Yw hg hd h1 (k w' h2)
variable {os:List Oper} {G1:Value→World→Prop}
end
theorem Vt {s:Nat} (l:List (CS s)) (k:Nat):cellsOf (l.take k)=(cellsOf l).take (k*s):=by
 by_cases hk:k≤l.length
 ·exact UC l k hk
 ·rw [y9 A0,y9]
  rw [H4]; exact M9 _ A0
theorem Wt {s:Nat} (l:List (CS s)) (k:Nat):cellsOf (l.drop k)=(cellsOf l).drop (k*s):=by
 by_cases hk:k≤l.length
 ·have h:cellsOf l=cellsOf (l.take k)++cellsOf (l.drop k):=by rw [← aa,Ab]
  rw [h,Lu]
  rw [H4,Z3,G6 hk]
 ·rw [Je A0,Je]
  ·rfl
  ·rw [H4]; exact M9 _ A0
theorem All2.take {α:Type} {w:World} {X:Nat→Prop} {E:Rp α} {cs:List (CS E.s)} {l:List α} (h:All2 w X E cs l) (k:Nat):All2 w X E (cs.take k) (l.take k):=by
 refine ⟨by simp [h.1],fun i c x hc hx=>?_⟩
 rw [A6] at hc hx
 split at hc
 ·rename_i hi; rw [M0 hi] at hx; exact h.2 i c x hc hx
 ·cases hc
theorem All2.drop {α:Type} {w:World} {X:Nat→Prop} {E:Rp α} {cs:List (CS E.s)} {l:List α} (h:All2 w X E cs l) (k:Nat):All2 w X E (cs.drop k) (l.drop k):=by
 refine ⟨by simp [h.1],fun i c x hc hx=>?_⟩
 rw [G8] at hc hx
 exact h.2 _ c x hc hx
section
variable {P:Program} {α:Type} {E:Rp α} {q:α} {l m:List α} {a:Act} {w0 w:World} {ros:List Fact} {rs:List Res} {d:Option Tmp} {t:TypeId} {p:String} {af:Array Edge} {g:Option (Nat×Bool)} {x y:Operand} {v u:Value} {T T2 U e:TypeId} {h:Hdr}
theorem St.guest0 (hst:St w0 ros rs w):St w ros [] w:=by
 obtain ⟨X,hX⟩:=hst
 exact ⟨fun b=>b < w.heap.size,Chg.refl _ _,fun b hb=>hb,fun b hb=>hb,fun r hr=>r.mono (hX.ro r hr) (Same.refl _ _) hX.xlt,trivial⟩
theorem St.back {w':World} {ros1:List Fact} {rs1:List Res} (hst:St w0 ros rs w) (h1:St w ros1 rs1 w'):St w0 ros rs w':=by
 obtain ⟨Y,hY⟩:=h1
 exact hst.grow hY.ext
theorem St.back1 {w':World} {ros1:List Fact} {s:Nat} {e':α→List Value} {hp:0 < s} {hl:∀ x,(e' x).length=s} {ho:∀ x v,v∈e' x→v.oneCell'=true} (hst:St w0 ros rs w) (h1:St w ros1 [row T (rF s e' hp hl ho) v l] w'):St w0 ros (row T (rF s e' hp hl ho) v l::rs) w':=by
 obtain ⟨Y,hY⟩:=h1
 obtain ⟨F,⟨hm,cs,ha,hr,he⟩,hd,_⟩:=hY.own
 refine hst.new hY.ext fun X _ _=>⟨F,⟨hm,cs,⟨ha.1,fun i c x hc hx=>ha.2 i c x hc hx⟩,hr,he⟩,fun b hb=>?_⟩
 by_cases hlt:b < w.heap.size
 ·exact absurd (hY.old b hlt) (hd b hb)
 ·omega
def cpI {β:Type} (l:List β) (lo hi:Int) (m:List β):Option (List β×Int):=
 if 0≤lo∧lo≤hi∧hi≤l.length then some (l.take lo.toNat++m.take (hi.toNat - lo.toNat)++l.drop (lo.toNat+min m.length (hi.toNat - lo.toNat)),((min m.length (hi.toNat - lo.toNat):Nat):Int)) else none
theorem NC {β:Type} {l m l':List β} {lo hi n:Int} (h:cpI l lo hi m=some (l',n)):0≤lo∧lo≤hi∧hi≤l.length∧l'=l.take lo.toNat++m.take (hi.toNat - lo.toNat)++l.drop (lo.toNat+min m.length (hi.toNat - lo.toNat))∧n=((min m.length (hi.toNat - lo.toNat):Nat):Int):=by
 unfold cpI at h
 split at h
 ·rename_i hc
  simp only [Na,Prod.mk.injEq] at h
  exact ⟨hc.1,hc.2.1,hc.2.2,h.1.symm,h.2.symm⟩
 ·cases h
theorem Gq {X:Nat→Prop} {ad:Addr} {cap:Nat} (hsee:Sees w X E (.slice (some ad) m.length cap) m):∃ c2:List (CS E.s),All2 w X E c2 m∧∀ j u,(cellsOf c2)[j]?=some u→w.cell? (ad.add j)=some u:=by
 obtain ⟨a',cap',hv,hcap,hmm,hsee⟩:=hsee
 simp only [Value.slice.injEq] at hv
 obtain ⟨rfl,_,rfl⟩:=hv
 have hex:∀ i (h:i < m.length),∃ c:CS E.s,E.r w X c.1 m[i]∧∀ j u,c.1[j]?=some u→w.cell? (ad.add (i*E.s+j))=some u:=by
  intro i h
  obtain ⟨_,cs,h1,h2⟩:=hsee i m[i] (by simp [h])
  exact ⟨⟨cs,E.len h1,E.one h1⟩,h1,h2⟩
 have hc2:∃ c2:List (CS E.s),c2.length=m.length∧∀ i c x,c2[i]?=some c→m[i]?=some x→E.r w X c.1 x∧∀ j u,c.1[j]?=some u→w.cell? (ad.add (i*E.s+j))=some u:=by
  refine ⟨List.ofFn fun i:Fin m.length=>Classical.choose (hex i.1 i.2),H0,fun i c x hc hx=>?_⟩
  have hi':i < m.length:=(S2.1 hx).1
  have hsp:=Ib (hex i hi')
  simp only [Uk,hi',dite_true,Na] at hc
  have hx':m[i]=x:=(S2.1 hx).2
  rw [← hc,← hx']
  exact hsp
 obtain ⟨c2,hl2,hc2⟩:=hc2
 refine ⟨c2,⟨hl2,fun i c x h1 h2=>(hc2 i c x h1 h2).1⟩,?_⟩
 intro j u' hj
 have hlt:j < m.length*E.s:=by have:=(S2.1 hj).1; rwa [H4,hl2] at this
 have hp:=E.pos
 have hq:j / E.s < m.length:=Gk (by rw [Z8]; exact hlt)
 have hmd:j % E.s < E.s:=ub _ hp
 have hq2:j / E.s < c2.length:=A0
 obtain ⟨_,h2⟩:=hc2 (j / E.s) c2[j / E.s] m[j / E.s] (by simp [hq2]) (by simp [hq])
 have h4:j / E.s*E.s+j % E.s=j:=by rw [Z8]; exact Xg j E.s
 have h5:(c2[j / E.s]).1[j % E.s]?=some ((c2[j / E.s]).1[j % E.s]'(by rw [(c2[j / E.s]).2.1]; exact hmd)):=by simp [(c2[j / E.s]).2.1,hmd]
 have h6:=h2 _ _ h5
 have h7:=jd (l:=c2) (i:=j / E.s) (by simp [hq2]) h5
 rw [h4] at h6 h7
 rw [h7] at hj
 simp only [Na] at hj
 subst hj
 exact h6
theorem r_cp {X:Nat→Prop} {lo hi n:Int} {l':List α} {dv:Value} (hX:StX w0 X ros (row U E h.v l::rs) w) (hS:SlT P T e E q) (hE:E.s=1) (hx:a.eval x=dv) (hd:dv=(subH h E.s lo hi).v∨(dv=h.v∧lo=0∧hi=l.length)) (hy:a.eval y=u) (hsee:Sees w X E u m) (hk:cpI l lo hi m=some (l',n)):
  ∃ w',(execOp a.eval ⟨d,.call ⟨.builtin .copy,#[x,y],#[T,T2]⟩,t,p,af,g⟩).run P w=.ok (.value (.int .i64 n)) w'∧St w0 ros (row U E h.v l'::rs) w':=by
 obtain ⟨h0,h1,h2,rfl,rfl⟩:=NC hk
 obtain ⟨ti,zv,hi1,hsz,_⟩:=hS.inf
 have hs1:(P.info? e).map (fun i=>i.size)=some 1:=by rw [hi1]; simp [hsz,hE]
 obtain ⟨F0,hF0,_⟩:=hX.own
 have hsee0:=hsee
 obtain ⟨sa,scap,rfl,hscap,hsm,hsx⟩:=hsee
 have hhn:h.n=l.length:=by
  obtain ⟨hm,c,ha,⟨_,hh⟩,hF⟩:=hF0
  rcases hh with ⟨hv,hn0⟩ | ⟨g,cap,cur,hv,_⟩
  ·simp [Hdr.v] at hv; omega
  ·simp [Hdr.v] at hv; exact hv.2.1
 obtain ⟨da,dcap,hdv⟩:∃ da dcap,dv=.slice da (hi.toNat - lo.toNat) dcap:=by
  rcases hd with rfl | ⟨rfl,rfl,rfl⟩
  ·exact ⟨_,_,rfl⟩
  ·exact ⟨h.a,h.c,by simp [Hdr.v,hhn]⟩
 by_cases hz:min m.length (hi.toNat - lo.toNat)=0
 ·have hm0:m.take (hi.toNat - lo.toNat)=[]:=by
   apply U6
   rw [Z3]; omega
  rw [hz,hm0,w9,Ke,Ab]
  refine ⟨w,?_,X,hX⟩
  have hr:=run_copy_none (P:=P) w T T2 t e da sa (hi.toNat - lo.toNat) dcap m.length scap hS.und hs1 hz
  subst hdv
  simp [execOp,resolve,invoke,builtin,hx,hy,hr,goInt]
 ·cases sa with
  | none=>
   exfalso
   have:m≠[]:=by rintro rfl; simp at hz
   obtain ⟨z,m',rfl⟩:=ID this
   have:=(hsx 0 z rfl).1
   cases this
  | some ad=>
  obtain ⟨c2,hA2,hnews⟩:=Gq hsee0
  have hl2:=hA2.1
  obtain ⟨hm,c,ha,⟨hcl,hh⟩,hF⟩:=hF0
  rcases hh with ⟨hv,hn0⟩ | ⟨gb,cap,cur,hv,hg0,hg,hcap,hmax,hcs,htk⟩
  ·omega
  have hv':h.a=some ⟨gb,0,none⟩∧h.n=l.length∧h.c=cap:=by simpa [Hdr.v] using hv
  obtain ⟨k1,k2,k3⟩:=hv'
  have hda:da=some ⟨gb,lo.toNat,none⟩:=by
   rcases hd with rfl | ⟨rfl,rfl,rfl⟩
   ·simp only [Hdr.v,subH,Value.slice.injEq] at hdv
    rw [← hdv.1,B0,k1,hE]
    simp [ia]
   ·simp only [Hdr.v,Value.slice.injEq] at hdv
    rw [← hdv.1,k1]; rfl
  let nn:=min m.length (hi.toNat - lo.toNat)
  let cs:=(cellsOf c2).take nn
  have hcslen:cs.length=nn:=by
   show ((cellsOf c2).take nn).length=nn
   rw [Z3,H4,hl2,hE]; omega
  have hr:=run_copy_row (P:=P) w T T2 t e gb lo.toNat (hi.toNat - lo.toNat) dcap ad m.length scap cur U cs hS.und hs1 hg (by rw [hcslen]) (fun j v hj=>by
   have:((cellsOf c2).take nn)[j]?=some v:=hj
   rw [A6] at this
   split at this
   ·exact hnews j v this
   ·cases this) (by rw [hcslen,hcs,hE]; omega) (fun v hv=>Hg v (Gu hv))
  rw [hcslen] at hr
  refine ⟨w.setRow gb (cur.toList.take lo.toNat++cs++cur.toList.drop (lo.toNat+nn)).toArray,?_,X,hX.upd fun F hF' _=>⟨F,fun hsame=>?_,fun _ h=>.inl h,Chg.setRow (b:=gb) ?_⟩⟩
  ·subst hdv
   subst hda
   simp [execOp,resolve,invoke,builtin,hx,hy,hr,goInt]
   rfl
  ·obtain ⟨hm',c',ha',⟨hcl',hh'⟩,hF2⟩:=hF'
   rcases hh' with ⟨hv2,hn0⟩ | ⟨gb',cap',cur',hv2,hg0',hg',hcap',hmax',hcs',htk'⟩
   ·omega
   have:gb'=gb∧cap'=cap:=by rw [hv] at hv2; simp at hv2; exact ⟨hv2.1.symm,hv2.2.symm⟩
   obtain ⟨rfl,rfl⟩:=this
   obtain rfl:cur'=cur:=by rw [hg'] at hg; simpa using hg
   have hAll:All2 (w.setRow gb' (cur'.toList.take lo.toNat++cs++cur'.toList.drop (lo.toNat+nn)).toArray) X E (c'.take lo.toNat++c2.take (hi.toNat - lo.toNat)++c'.drop (lo.toNat+nn)) (l.take lo.toNat++m.take (hi.toNat - lo.toNat)++l.drop (lo.toNat+nn)):=
    ((((ha'.take _).app (hA2.take _)).app (ha'.drop _)).mono hsame (fun _ h=>h))
   have hlen':(l.take lo.toNat++m.take (hi.toNat - lo.toNat)++l.drop (lo.toNat+nn)).length=l.length:=by
    simp only [P1,Z3,y6]
    show _+min (hi.toNat - lo.toNat) m.length+(l.length - (lo.toNat+min m.length (hi.toNat - lo.toNat)))=_
    omega
   refine ⟨by rw [hlen']; exact hm',_,hAll,⟨by rw [H4,hAll.1],.inr ⟨gb',cap',_,by rw [hlen']; exact hv,hg0',setRow_heap w gb' cur' _ U (0,0) hg,by rw [hlen']; exact hcap',hmax',?_,?_⟩⟩,hF2⟩
   ·simp only [Kk,P1,Z3,y6,Gc,hcslen,hcs',hE]
    show min lo.toNat (cap'*1)+min m.length (hi.toNat - lo.toNat)+(cap'*1 - (lo.toNat+min m.length (hi.toNat - lo.toNat)))=cap'*1
    omega
   ·have hE1:∀ k:Nat,k*E.s=k:=fun k=>by rw [hE,Ee]
    rw [hlen',aa,aa,Vt,Vt,Wt,← htk']
    simp only [hE1]
    have hcs2:(cellsOf c2).take (hi.toNat - lo.toNat)=cs:=by
     show _=(cellsOf c2).take nn
     apply Sa
     intro j
     rw [A6,A6]
     have hl3:(cellsOf c2).length=m.length:=by rw [H4,hl2,hE,Ee]
     show (if j < hi.toNat - lo.toNat then _ else _)=if j < min m.length (hi.toNat - lo.toNat) then _ else _
     by_cases hj:j < m.length
     ·by_cases hj2:j < hi.toNat - lo.toNat
      ·rw [M0 hj2,C0]
      ·rw [K0 hj2,B0]
     ·rw [A9 (show (cellsOf c2).length≤j by omega)]
      simp
    rw [hcs2]
    have hcsz:cur'.toList.length=cap':=by rw [Gc,hcs',hE,Ee]
    apply Sa
    intro j
    simp only [A6,Xk,P1,Z3,G8,hcslen,hcsz,List.toList_toArray]
    have hnn:nn≤hi.toNat - lo.toNat:=Nat.min_le_right _ _
    have f1:min lo.toNat cap'=lo.toNat:=A0
    have f2:min lo.toNat (min l.length cap')=lo.toNat:=A0
    rw [f1,f2]
    by_cases hj:j < l.length
    ·rw [M0 hj]
     by_cases hj1:j < lo.toNat+nn
     ·rw [M0 hj1,M0 hj1]
      by_cases hj2:j < lo.toNat
      ·simp [hj2,hj]
      ·simp [hj2]
     ·rw [K0 hj1,K0 hj1,C0]
    ·rw [K0 hj,B0,B0]
  ·obtain ⟨_,_,_,_,hF2⟩:=hF'
   exact (hF2 gb).2 (by rw [hv]; rfl)
theorem rCp {lo hi:Int} {k:List α×Int} {dv:Value} (hst:St w0 ros (row U E h.v l::rs) w) (hS:SlT P T e E q) (hE:E.s=1) (hx:a.eval x=dv) (hd:dv=(subH h E.s lo hi).v∨(dv=h.v∧lo=0∧hi=l.length)) (hy:a.eval y=u) (hu:Rd ros (row U E h.v l::rs) E u m) (hk:cpI l lo hi m=some k):
  ∃ w',(execOp a.eval ⟨d,.call ⟨.builtin .copy,#[x,y],#[T,T2]⟩,t,p,af,g⟩).run P w=.ok (.value (.int .i64 k.2)) w'∧St w0 ros (row U E h.v k.1::rs) w':=by
 obtain ⟨X,hX⟩:=hst
 exact r_cp hX hS hE hx hd hy (hu _ _ _ hX) hk
end
end Sx
