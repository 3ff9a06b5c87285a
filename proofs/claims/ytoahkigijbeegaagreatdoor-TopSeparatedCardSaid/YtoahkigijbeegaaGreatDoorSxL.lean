/- Stores into a field of an element; arrays; copy. It holds over any program. -/
import Derived.Test.YtoahkigijbeegaaGreatDoorSxK
import Derived.Laws.CopyRow
import Derived.Laws.IdiomCopy
namespace Sx
open Go
section
variable {P:Program} {ops:Array Oper} {Q:Exit→Act→World→Prop} {n:Nat} {f:Nat→Value} {w:World} {rest:List Oper} {o:Oper} {d:Nat} {v:Value}
theorem YV {S:World→Prop} (hg:Wn ops n f o.guard) (hd:o.dst=some d) (hy:∃ (w':World),(execOp (fr n f).eval o).run P w=.ok (.value v) w'∧S w') (k:∀ (w':World),S w'→wpList P ops Q rest (fr n (upd f d v)) w'):wpList P ops Q (o::rest) (fr n f) w:=by
 obtain ⟨w',h1,h2⟩:=hy
 exact Yw hg hd h1 (k w' h2)
variable {os:List Oper} {G1:Value→World→Prop}
theorem LV {S:World→Prop} (hw:Wn os.toArray n f o.guard) (hy:∃ (w':World),(execOp (fr n f).eval o).run P w=.ok (.value v) w'∧S w') (k:∀ (w':World),S w'→G1 v w'):LS P os n f w o G1:=by
 obtain ⟨w',h1,h2⟩:=hy
 exact Lw hw h1 (k w' h2)
end
theorem Vr {s:Nat} (l:List (CS s)) (k:Nat):cellsOf (l.take k)=(cellsOf l).take (k*s):=by
 by_cases hk:k≤l.length
 ·exact Wr l k hk
 ·rw [P4 n0,P4]
  rw [K4]; exact q8 _ n0
theorem Xr {s:Nat} (l:List (CS s)) (k:Nat):cellsOf (l.drop k)=(cellsOf l).drop (k*s):=by
 by_cases hk:k≤l.length
 ·have h:cellsOf l=cellsOf (l.take k)++cellsOf (l.drop k):=by rw [← s9,B9]
  rw [h,vj]
  rw [K4,A4,n5 hk]
 ·rw [wj n0,wj]
  ·rfl
  ·rw [K4]; exact q8 _ n0
theorem All2.take {α:Type} {w:World} {X:Nat→Prop} {E:Rp α} {cs:List (CS E.s)} {l:List α} (h:All2 w X E cs l) (k:Nat):All2 w X E (cs.take k) (l.take k):=by
 refine ⟨by simp [h.1],fun i c x hc hx=>?_⟩
 rw [K5] at hc hx
 split at hc
 ·rename_i hi; rw [I0 hi] at hx; exact h.2 i c x hc hx
 ·cases hc
theorem All2.drop {α:Type} {w:World} {X:Nat→Prop} {E:Rp α} {cs:List (CS E.s)} {l:List α} (h:All2 w X E cs l) (k:Nat):All2 w X E (cs.drop k) (l.drop k):=by
 refine ⟨by simp [h.1],fun i c x hc hx=>?_⟩
 rw [B6] at hc hx
 exact h.2 _ c x hc hx
section
variable {P:Program} {α:Type} {E:Rp α} {q:α} {l m:List α} {a:Act} {w0 w:World} {mu:List Fact} {rs:List Res} {d:Option Tmp} {t:TypeId} {p:String} {af:Array Edge} {g:Option (Nat×Bool)} {x y:Operand} {v u:Value} {T T2 U e:TypeId} {h:Hdr}
theorem St.guest0 (nu:St w0 mu rs w):St w mu [] w:=by
 obtain ⟨X,hX⟩:=nu
 exact ⟨fun b=>b < w.heap.size,Chg.refl _ _,fun b hb=>hb,fun b hb=>hb,fun r hr=>r.mono (hX.ro r hr) (Same.refl _ _) hX.xlt,trivial⟩
theorem St.back1 {w':World} {MF:List Fact} {s:Nat} {e':α→List Value} {hp:0 < s} {hl:∀ x,(e' x).length=s} {ho:∀ x v,v∈e' x→v.oneCell'=true} (nu:St w0 mu rs w) (h1:St w MF [row T (rF s e' hp hl ho) v l] w'):St w0 mu (row T (rF s e' hp hl ho) v l::rs) w':=by
 obtain ⟨Y,hY⟩:=h1
 obtain ⟨F,⟨hm,cs,ha,hr,he⟩,hd,_⟩:=hY.own
 refine nu.new hY.ext fun X _ _=>⟨F,⟨hm,cs,⟨ha.1,fun i c x hc hx=>ha.2 i c x hc hx⟩,hr,he⟩,fun b hb=>?_⟩
 by_cases hlt:b < w.heap.size
 ·exact absurd (hY.old b hlt) (hd b hb)
 ·omega
def arrH (b n:Nat):Hdr:=⟨some ⟨b,0,none⟩,n,n⟩
theorem St.boxRow {b n s:Nat} {vals:List Value} {e':α→List Value} {hp:0 < s} {hl:∀ x,(e' x).length=s} {ho:∀ x v,v∈e' x→v.oneCell'=true} (nu:St w0 mu (box b T vals::rs) w) (hn:l.length=n) (hv:vals=l.flatMap e') (hb:Nat.ble n 1000000=true):
  St w0 mu (row T (rF s e' hp hl ho) (arrH b n).v l::rs) w:=by
 subst hn
 refine nu.conv fun X F ⟨h1,h2⟩=>?_
 have hlen:(l.flatMap e').length=l.length*s:=by
  clear hv hb
  induction l with
  | nil=>simp
  | cons x l ih=>simp only [Tc,H2,B4,ih,hl x,S5]; omega
 have BJ:l.length≤1000000:=by simpa [Nat.ble_eq] using hb
 have PH:l.length≤maxLen:=by simp only [maxLen]; omega
 obtain ⟨f,hf⟩:∃ f:α→CS (rF s e' hp hl ho).s,∀ x,(f x).1=e' x:=⟨fun x=>⟨e' x,hl x,ho x⟩,fun _=>rfl⟩
 have e1:cellsOf (l.map f)=vals:=by
  rw [hv]
  unfold cellsOf
  rw [Jt]
  congr 1
  funext x
  exact hf x
 refine ⟨PH,l.map f,⟨L8 ..,fun i c x hc hx=>?_⟩,⟨by rw [K4,L8],.inr ⟨b,l.length,vals.toArray,rfl,n8 _,h1,O4 _,PH,?_,?_⟩⟩,fun b'=>by rw [h2]; simp [Value.ownBlock,Hdr.v,arrH]; exact eq_comm⟩
 ·rw [H7,hx] at hc
  have:=P1 hc
  subst this
  exact hf x
 ·show vals.length=l.length*s
  rw [hv]; exact hlen
 ·rw [e1]
  show vals.take (l.length*s)=vals
  rw [P4]
  rw [hv,hlen]; exact O4 _
structure ArrT (P:Program) (T e:TypeId) (n:Nat) {α:Type} (E:Rp α):Prop where
 und:P.underlying T=some (.array n e)
 inf:∃ ti,P.info? e=some ti∧ti.size=E.s
theorem zz {n:Nat} (hu:P.underlying T=some (.array n e)) (hi:(P.info? e).map (fun i=>i.size)=some E.s):ArrT P T e n E:=by
 refine ⟨hu,?_⟩
 cases h:P.info? e with
 | none=>simp [h] at hi
 | some ti=>simp [h] at hi; exact ⟨ti,rfl,hi⟩
theorem Mj {X:Nat→Prop} {ik:IntKind} {i:Int} {n:Nat} (hS:ArrT P T e n E) (hx:a.eval x=.pointer h.a) (hy:a.eval y=.int ik i) (hs:Sees w X E h.v l) (hn:h.n=n) (h0:0≤i) (h1:i < l.length):Yi P a w ⟨d,.indexAddr T x y,t,p,af,g⟩ (eAddr h.v E.s i):=by
 obtain ⟨ti,hi,Mu⟩:=hS.inf
 obtain ⟨b,cap,hv,hc,hm,pv⟩:=hs
 have hlt:i.toNat < l.length:=n0
 obtain ⟨ha,_⟩:=pv i.toNat l[i.toNat] (by simp [hlt])
 have WD:h.a=b∧h.n=l.length∧h.c=cap:=by simpa [Hdr.v] using hv
 obtain ⟨e1,e2,e3⟩:=WD
 have hlen:(n:Int)=(l.length:Int):=n0
 have e4:(Instr.indexAt T (.pointer h.a) (.int ik i)).run P w=.ok (eAddr h.v E.s i) w:=by
  rw [e1,ha]
  simp [Instr.indexAt,asIntOf,run_underlying hS.und,Instr.sureAddr,h0,hlen,h1,Go.sizeOf,typeInfo,hi,Mu,eAddr]
 simp [Yi,execOp,hx,hy,e4]
theorem Ja {ik:IntKind} {i:Int} {z:α} {n:Nat} (hS:ArrT P T e n E) (hx:a.eval x=.pointer h.a) (hy:a.eval y=.int ik i) (nu:St w0 mu rs w) (hr:Rd mu rs E h.v l) (hn:h.n=n) (hz:getI l i=some z):Yi P a w ⟨d,.indexAddr T x y,t,p,af,g⟩ (eAddr h.v E.s i):=by
 obtain ⟨X,_,hs⟩:=hr.sees nu
 obtain ⟨h0,h1,_⟩:=m9 hz
 exact Mj hS hx hy hs hn h0 h1
theorem ig {ik:IntKind} {i:Int} {z:α} {l':List α} {n:Nat} (hS:ArrT P T e n E) (hx:a.eval x=.pointer h.a) (hy:a.eval y=.int ik i) (nu:St w0 mu rs w) (hr:Rd mu rs E h.v l) (hn:h.n=n) (hz:setI l i z=some l'):Yi P a w ⟨d,.indexAddr T x y,t,p,af,g⟩ (eAddr h.v E.s i):=by
 obtain ⟨X,_,hs⟩:=hr.sees nu
 obtain ⟨h0,h1,_⟩:=y7 hz
 exact Mj hS hx hy hs hn h0 h1
def cpI {β:Type} (l:List β) (lo hi:Int) (m:List β):Option (List β×Int):=
 if 0≤lo∧lo≤hi∧hi≤l.length then some (l.take lo.toNat++m.take (hi.toNat - lo.toNat)++l.drop (lo.toNat+min m.length (hi.toNat - lo.toNat)),((min m.length (hi.toNat - lo.toNat):Nat):Int)) else none
theorem PB {β:Type} {l m l':List β} {lo hi n:Int} (h:cpI l lo hi m=some (l',n)):0≤lo∧lo≤hi∧hi≤l.length∧l'=l.take lo.toNat++m.take (hi.toNat - lo.toNat)++l.drop (lo.toNat+min m.length (hi.toNat - lo.toNat))∧n=((min m.length (hi.toNat - lo.toNat):Nat):Int):=by
 unfold cpI at h
 split at h
 ·rename_i hc
  simp only [w6,If] at h
  exact ⟨hc.1,hc.2.1,hc.2.2,h.1.symm,h.2.symm⟩
 ·cases h
theorem Do {X:Nat→Prop} {ad:Addr} {cap:Nat} (Tu:Sees w X E (.slice (some ad) m.length cap) m):∃ c2:List (CS E.s),All2 w X E c2 m∧∀ j u,(cellsOf c2)[j]?=some u→w.cell? (ad.add j)=some u:=by
 obtain ⟨a',Cv,hv,Bv,ZD,Tu⟩:=Tu
 simp only [Value.slice.injEq] at hv
 obtain ⟨rfl,_,rfl⟩:=hv
 have hex:∀ i (h:i < m.length),∃ c:CS E.s,E.r w X c.1 m[i]∧∀ j u,c.1[j]?=some u→w.cell? (ad.add (i*E.s+j))=some u:=by
  intro i h
  obtain ⟨_,cs,h1,h2⟩:=Tu i m[i] (by simp [h])
  exact ⟨⟨cs,E.len h1,E.one h1⟩,h1,h2⟩
 have uv:∃ c2:List (CS E.s),c2.length=m.length∧∀ i c x,c2[i]?=some c→m[i]?=some x→E.r w X c.1 x∧∀ j u,c.1[j]?=some u→w.cell? (ad.add (i*E.s+j))=some u:=by
  refine ⟨List.ofFn fun i:Fin m.length=>Classical.choose (hex i.1 i.2),G0,fun i c x hc hx=>?_⟩
  have IA:i < m.length:=(C2.1 hx).1
  have EH:=vd (hex i IA)
  simp only [Ht,IA,dite_true,w6] at hc
  have pv:m[i]=x:=(C2.1 hx).2
  rw [← hc,← pv]
  exact EH
 obtain ⟨c2,sy,uv⟩:=uv
 refine ⟨c2,⟨sy,fun i c x h1 h2=>(uv i c x h1 h2).1⟩,?_⟩
 intro j u' hj
 have hlt:j < m.length*E.s:=by have:=(C2.1 hj).1; rwa [K4,sy] at this
 have hp:=E.pos
 have hq:j / E.s < m.length:=Zs (by rw [s8]; exact hlt)
 have HF:j % E.s < E.s:=Nf _ hp
 have GE:j / E.s < c2.length:=n0
 obtain ⟨_,h2⟩:=uv (j / E.s) c2[j / E.s] m[j / E.s] (by simp [GE]) (by simp [hq])
 have h4:j / E.s*E.s+j % E.s=j:=by rw [s8]; exact bj j E.s
 have h5:(c2[j / E.s]).1[j % E.s]?=some ((c2[j / E.s]).1[j % E.s]'(by rw [(c2[j / E.s]).2.1]; exact HF)):=by simp [(c2[j / E.s]).2.1,HF]
 have h6:=h2 _ _ h5
 have h7:=Cc (l:=c2) (i:=j / E.s) (by simp [GE]) h5
 rw [h4] at h6 h7
 rw [h7] at hj
 simp only [w6] at hj
 subst hj
 exact h6
theorem r_cp {X:Nat→Prop} {lo hi n:Int} {l':List α} {dv:Value} (hX:StX w0 X mu (row U E h.v l::rs) w) (hS:SlT P T e E q) (hE:E.s=1) (hx:a.eval x=dv) (hd:dv=(subH h E.s lo hi).v∨(dv=h.v∧lo=0∧hi=l.length)) (hy:a.eval y=u) (Tu:Sees w X E u m) (hk:cpI l lo hi m=some (l',n)):
  ∃ w',(execOp a.eval ⟨d,.call ⟨.builtin .copy,#[x,y],#[T,T2]⟩,t,p,af,g⟩).run P w=.ok (.value (.int .i64 n)) w'∧St w0 mu (row U E h.v l'::rs) w':=by
 obtain ⟨h0,h1,h2,rfl,rfl⟩:=PB hk
 obtain ⟨ti,zv,AK,Mu,_⟩:=hS.inf
 have ZF:(P.info? e).map (fun i=>i.size)=some 1:=by rw [AK]; simp [Mu,hE]
 obtain ⟨F0,TM,_⟩:=hX.own
 have QI:=Tu
 obtain ⟨sa,scap,rfl,ZM,pP,KN⟩:=Tu
 have eO:h.n=l.length:=by
  obtain ⟨hm,c,ha,⟨_,hh⟩,hF⟩:=TM
  rcases hh with ⟨hv,cM⟩ | ⟨g,cap,cur,hv,_⟩
  ·simp [Hdr.v] at hv; omega
  ·simp [Hdr.v] at hv; exact hv.2.1
 obtain ⟨da,dcap,eG⟩:∃ da dcap,dv=.slice da (hi.toNat - lo.toNat) dcap:=by
  rcases hd with rfl | ⟨rfl,rfl,rfl⟩
  ·exact ⟨_,_,rfl⟩
  ·exact ⟨h.a,h.c,by simp [Hdr.v,eO]⟩
 by_cases hz:min m.length (hi.toNat - lo.toNat)=0
 ·have cG:m.take (hi.toNat - lo.toNat)=[]:=by
   apply P6
   rw [A4]; omega
  rw [hz,cG,l7,I7,B9]
  refine ⟨w,?_,X,hX⟩
  have hr:=run_copy_none (P:=P) w T T2 t e da sa (hi.toNat - lo.toNat) dcap m.length scap hS.und ZF hz
  subst eG
  simp [execOp,resolve,invoke,builtin,hx,hy,hr,goInt]
 ·cases sa with
  | none=>
   exfalso
   have:m≠[]:=by rintro rfl; simp at hz
   obtain ⟨z,m',rfl⟩:=kD this
   have:=(KN 0 z rfl).1
   cases this
  | some ad=>
  obtain ⟨c2,yF,Tw⟩:=Do QI
  have sy:=yF.1
  obtain ⟨hm,c,ha,⟨Hv,hh⟩,hF⟩:=TM
  rcases hh with ⟨hv,cM⟩ | ⟨gb,cap,cur,hv,ME,hg,Bv,jy,oy,WJ⟩
  ·omega
  have WD:h.a=some ⟨gb,0,none⟩∧h.n=l.length∧h.c=cap:=by simpa [Hdr.v] using hv
  obtain ⟨k1,k2,k3⟩:=WD
  have rO:da=some ⟨gb,lo.toNat,none⟩:=by
   rcases hd with rfl | ⟨rfl,rfl,rfl⟩
   ·simp only [Hdr.v,subH,Value.slice.injEq] at eG
    rw [← eG.1,A0,k1,hE]
    simp [M7]
   ·simp only [Hdr.v,Value.slice.injEq] at eG
    rw [← eG.1,k1]; rfl
  let nn:=min m.length (hi.toNat - lo.toNat)
  let cs:=(cellsOf c2).take nn
  have my:cs.length=nn:=by
   show ((cellsOf c2).take nn).length=nn
   rw [A4,K4,sy,hE]; omega
  have hr:=run_copy_row (P:=P) w T T2 t e gb lo.toNat (hi.toNat - lo.toNat) dcap ad m.length scap cur U cs hS.und ZF hg (by rw [my]) (fun j v hj=>by
   have:((cellsOf c2).take nn)[j]?=some v:=hj
   rw [K5] at this
   split at this
   ·exact Tw j v this
   ·cases this) (by rw [my,oy,hE]; omega) (fun v hv=>mf v (mj hv))
  rw [my] at hr
  refine ⟨w.setRow gb (cur.toList.take lo.toNat++cs++cur.toList.drop (lo.toNat+nn)).toArray,?_,X,hX.upd fun F pE _=>⟨F,fun Fu=>?_,fun _ h=>.inl h,Chg.setRow (b:=gb) ?_⟩⟩
  ·subst eG
   subst rO
   simp [execOp,resolve,invoke,builtin,hx,hy,hr,goInt]
   rfl
  ·obtain ⟨SD,c',BE,⟨bP,fO⟩,LF⟩:=pE
   rcases fO with ⟨hv2,cM⟩ | ⟨gb',Cv,cur',hv2,xL,BK,pG,nG,wI,dL⟩
   ·omega
   have:gb'=gb∧Cv=cap:=by rw [hv] at hv2; simp at hv2; exact ⟨hv2.1.symm,hv2.2.symm⟩
   obtain ⟨rfl,rfl⟩:=this
   obtain rfl:cur'=cur:=by rw [BK] at hg; simpa using hg
   have FE:All2 (w.setRow gb' (cur'.toList.take lo.toNat++cs++cur'.toList.drop (lo.toNat+nn)).toArray) X E (c'.take lo.toNat++c2.take (hi.toNat - lo.toNat)++c'.drop (lo.toNat+nn)) (l.take lo.toNat++m.take (hi.toNat - lo.toNat)++l.drop (lo.toNat+nn)):=
    ((((BE.take _).app (yF.take _)).app (BE.drop _)).mono Fu (fun _ h=>h))
   have qE:(l.take lo.toNat++m.take (hi.toNat - lo.toNat)++l.drop (lo.toNat+nn)).length=l.length:=by
    simp only [H2,A4,P7]
    show _+min (hi.toNat - lo.toNat) m.length+(l.length - (lo.toNat+min m.length (hi.toNat - lo.toNat)))=_
    omega
   refine ⟨by rw [qE]; exact SD,_,FE,⟨by rw [K4,FE.1],.inr ⟨gb',Cv,_,by rw [qE]; exact hv,xL,setRow_heap w gb' cur' _ U (0,0) hg,by rw [qE]; exact pG,nG,?_,?_⟩⟩,LF⟩
   ·simp only [Mc,H2,A4,P7,J9,my,wI,hE]
    show min lo.toNat (Cv*1)+min m.length (hi.toNat - lo.toNat)+(Cv*1 - (lo.toNat+min m.length (hi.toNat - lo.toNat)))=Cv*1
    omega
   ·have PE:∀ k:Nat,k*E.s=k:=fun k=>by rw [hE,ra]
    rw [qE,s9,s9,Vr,Vr,Xr,← dL]
    simp only [PE]
    have AL:(cellsOf c2).take (hi.toNat - lo.toNat)=cs:=by
     show _=(cellsOf c2).take nn
     apply C6
     intro j
     rw [K5,K5]
     have eM:(cellsOf c2).length=m.length:=by rw [K4,sy,hE,ra]
     show (if j < hi.toNat - lo.toNat then _ else _)=if j < min m.length (hi.toNat - lo.toNat) then _ else _
     by_cases hj:j < m.length
     ·by_cases yE:j < hi.toNat - lo.toNat
      ·rw [I0 yE,B0]
      ·rw [J0 yE,A0]
     ·rw [L5 (show (cellsOf c2).length≤j by omega)]
      simp
    rw [AL]
    have zL:cur'.toList.length=Cv:=by rw [J9,wI,hE,ra]
    apply C6
    intro j
    simp only [K5,qj,H2,A4,B6,my,zL,List.toList_toArray]
    have wG:nn≤hi.toNat - lo.toNat:=Nat.min_le_right _ _
    have f1:min lo.toNat Cv=lo.toNat:=n0
    have f2:min lo.toNat (min l.length Cv)=lo.toNat:=n0
    rw [f1,f2]
    by_cases hj:j < l.length
    ·rw [I0 hj]
     by_cases zE:j < lo.toNat+nn
     ·rw [I0 zE,I0 zE]
      by_cases yE:j < lo.toNat
      ·simp [yE,hj]
      ·simp [yE]
     ·rw [J0 zE,J0 zE,B0]
    ·rw [J0 hj,A0,A0]
  ·obtain ⟨_,_,_,_,LF⟩:=pE
   exact (LF gb).2 (by rw [hv]; rfl)
theorem rCp {lo hi:Int} {k:List α×Int} {dv:Value} (nu:St w0 mu (row U E h.v l::rs) w) (hS:SlT P T e E q) (hE:E.s=1) (hx:a.eval x=dv) (hd:dv=(subH h E.s lo hi).v∨(dv=h.v∧lo=0∧hi=l.length)) (hy:a.eval y=u) (hu:Rd mu (row U E h.v l::rs) E u m) (hk:cpI l lo hi m=some k):
  ∃ w',(execOp a.eval ⟨d,.call ⟨.builtin .copy,#[x,y],#[T,T2]⟩,t,p,af,g⟩).run P w=.ok (.value (.int .i64 k.2)) w'∧St w0 mu (row U E h.v k.1::rs) w':=by
 obtain ⟨X,hX⟩:=nu
 exact r_cp hX hS hE hx hd hy (hu _ _ _ hX) hk
theorem fy {lo hi:Int} (hr:Rd mu rs E h.v l) (hk:sli l lo hi=some m):Rd mu rs E (subH h E.s lo hi).v m:=fun w0 X w hX=>by
 obtain ⟨rfl,h0,h1,h2⟩:=Ta hk
 exact qh (hr w0 X w hX) h0 h1 h2
end
end Sx
