/- Walks: each function computes its model, printed. -/
import Derived.Test.YtcoaljcfifecgabGreatDoorW10
namespace Go.Proofs.YtcoaljcfifecgabGreatDoor
open Go Sx M Go.Proofs.Tryz
set_option maxRecDepth 100000
set_option maxHeartbeats 40000000
set_option linter.unusedVariables false
attribute [local irreducible] wpList Code.wp Calls DR QR QS LA LS St row box fam imm rowS loop
variable {w0:World} {ros:List Fact} {rs:List Res} {w:World}
theorem w_ek {h:L2} {b:Int} {i:Hdr} {d:Nat} {out:Int} (c:m_io h b=some out) (l:imm S1 i.v h∈ros) (a:St w0 ros (box d 3 [iV b]::rs) w):
  Calls prog 168 #[i.v,.func (.func 167) #[] #[(pB d)]] w (fun e w=>e=.returned (iV out)∧St w0 ros (box d 3 [iV b]::rs) w):=by
 refine en func168 rfl ntmps168 fun Q j=>?_
 refine z 1 4 ?_
 refine bE c fun m n c=>?_
 refine lp n [0,1,7] (fun f=>[(8,iV f)]) (fun f=>St w0 ros (box d 3 [iV b]::rs)) (fun | .inl ()=>(.exit 0,[],St w0 ros (box d 3 [iV b]::rs)) | .inr k=>(.ret,[(4,iV k)],St w0 ros (box d 3 [iV b]::rs))) rfl a rfl ?_ ?_
 ·clear a
  intro g w a
  rcases m with ⟨⟩ | k
  ·refine q 8 rfl ?_
   cases c
   exact za j results168 ⟨rfl,a⟩
  ·refine q 2 rfl ?_
   cases c
   exact za j results168 ⟨rfl,a⟩
 rintro f g w t a c
 refine q 6 rfl (cI c (fun o c=>?_) fun o c=>?_)
 ·refine z 1 0 ?_;intro u p c
  obtain ⟨x,a⟩:=iLs a l p
  refine y (yCt O_23 e0 a F1 rfl) (bE c fun A r c=>yC (yCallw FN_167 e0 (a1 e0)) (w_ej r F0 a) ?_)
  rintro _ w ⟨rfl,a⟩
  refine ⟨_,rfl,?_⟩
  refine nf (q 2 rfl ?_)
  refine cJ c (fun s c=>?_) fun s c=>?_
  ·refine q 9 rfl ?_
   cases c
   exact xo (a.fc)
  ·refine q 7 rfl ?_
   cases c
   exact lo (a.fc)
 ·refine q 2 rfl ?_
  cases c
  exact xo a
theorem w_el {f:L2} {b:Int} {g:Hdr} {d:Nat} {out:Bool} (c:m_ip f b=some out) (h:imm S1 g.v f∈ros) (a:St w0 ros (box d 3 [iV b]::rs) w):
  Calls prog 166 #[g.v,.func (.func 167) #[] #[(pB d)]] w (fun e w=>e=.returned (.bool out)∧St w0 ros (box d 3 [iV b]::rs) w):=by
 refine en func166 rfl ntmps166 fun Q i=>bE c fun k j c=>q 9 rfl (cZ (w_ek j h a) fun w a=>q 5 rfl ?_)
 cases c
 exact za i results166 ⟨rfl,a⟩
instance:CL prog 166 (type_of% @w_el):=⟨@w_el⟩
theorem w_em {d:L2} {h:Int} {i:Hdr} {out:Int} (c:m_iq d h=some out) (p:imm S1 i.v d∈ros) (a:St w0 ros rs w):
  Calls prog 141 #[i.v,iV h] w (fun e w=>e=.returned (iV out)∧St w0 ros rs w):=by
 refine en func141 rfl ntmps141 fun Q b=>?_
 refine z 4 4 ?_;intro k r c w a l w a w a s t c w a
 refine cJn c (fun m c=>?_) fun m c=>?_
 ·refine q 3 rfl (y (ymf (vf:=#[]) (vc:=#[(pB l)]) a0 (a1 e0)) ?_)
  refine z 1 3 ?_;intro u x c w a
  refine cJ c (fun n c=>?_) fun n c=>?_
  ·refine q 8 rfl ?_
   cases c
   exact za b results141 ⟨rfl,(a.k13)⟩
  ·refine z 1 2 ?_
   refine jW 3 [] [(23,.bool ((decide ((200:Int) < (d.length:Int))) || (decide ((200:Int) < k))))] (St w0 ros rs) rfl (fun j=>?_) ?_
   ·refine gB 20 rfl (fun f=>?_) fun f=>?_
    ·exact q 3 rfl (j _ _ (a.k13) (hasC (congrArg Value.bool (orT f)) rfl))
    ·refine z 1 2 ?_
     exact j _ _ (a.k13) (hasC (congrArg Value.bool (orF f)) rfl)
   intro g w a
   refine q 3 rfl ?_
   refine cJ c (fun o c=>?_) fun o c=>?_
   ·refine q 8 rfl ?_
    cases c
    exact za b results141 ⟨rfl,a⟩
   ·refine q 9 rfl ?_
    cases c
    exact za b results141 ⟨rfl,a⟩
 ·refine q 8 rfl ?_
  cases c
  exact za b results141 ⟨rfl,(a.k13)⟩
instance:CL prog 141 (type_of% @w_em):=⟨@w_em⟩
theorem w_en {d f out:Int} (c:m_is d f=some out) (a:St w0 ros rs w):
  Calls prog 170 #[iV d,iV f] w (fun e w=>e=.returned (iV out)∧St w0 ros rs w):=by
 refine en func170 rfl ntmps170 fun Q h=>?_
 refine z 1 10 ?_;intro j k c
 refine jC Int [] (fun b=>[(5,iV b)]) (fun b w=>St w0 ros rs w∧m_ir b=some out) rfl ?_ ?_
 ·rintro b g w ⟨a,c⟩
  refine q 8 rfl ?_
  cases c
  exact za h results170 ⟨rfl,a⟩
 refine cI c (fun i c=>?_) fun i c=>?_
 ·exact q 6 rfl (jx _ ⟨a,c⟩)
 ·exact q 1 rfl (jx _ ⟨a,c⟩)
instance:CL prog 170 (type_of% @w_en):=⟨@w_en⟩
theorem w_eo {t:L2} {u:Int} {x:Hdr} {out:L2} (c:m_iv t u=some out) (E:imm S1 x.v t∈ros) (a:St w0 ros rs w):
  Calls prog 143 #[x.v,iV u] w (fun e w=>∃ (A:Hdr) (B:List Hdr),e=.returned (A.v)∧St w0 ros (row 23 rH A.v B::fam 3 I1 B out::rs) w):=by
 refine en func143 rfl ntmps143 fun Q F=>?_
 refine z 1 4 ?_
 refine bE c fun C G c=>?_
 replace a:=((a.rowNh 23 rH).fNew 3 I1).k16
 refine lpN (Hdr×(List Hdr)) (Hdr×(List Hdr)) G [1,11,12] (fun (h,j) (d,b)=>[(5,d.v),(13,iV j)]) (fun (h,j) (d,b)=>St w0 ros (row 23 rH d.v b::fam 3 I1 b h::rs)) (fun | C,(k,m)=>(.exit 0,[(5,k.v)],St w0 ros (row 23 rH k.v m::fam 3 I1 m C::rs))) rfl (_,_) a rfl ?_ ?_
 ·clear a
  rintro ⟨k,m⟩ g w a
  refine q 9 rfl ?_
  cases c
  exact F _ _ _ (fin1r results143 ⟨rfl,rfl⟩ ⟨_,_,rfl,a⟩)
 rintro ⟨h,j⟩ ⟨d,b⟩ g w R a c
 refine q 6 rfl (cI c (fun H c=>?_) fun H c=>?_)
 ·refine z 1 0 ?_;intro I J c
  obtain ⟨K,a⟩:=iLs a E J
  refine y (yCt O_23 e0 a F1 rfl) ?_
  refine z 1 4 ?_
  refine bE c fun o L c=>?_
  replace a:=a.rowNh 3 I1
  refine lpN Hdr Hdr L [1,5,11,12,13,17,18] (fun (p,r) i=>[(8,i.v),(19,iV r)]) (fun (p,r) i=>St w0 (imm I1 K.v I::ros) (row 23 rH d.v b::fam 3 I1 b h::row 3 I1 i.v p::rs)) (fun | o,f=>(.exit 2,[(8,f.v)],St w0 ros (row 23 rH d.v b::fam 3 I1 b h::row 3 I1 f.v o::rs))) rfl _ ((a.k1g).facts (allC F0 (allT (allT allI)))) rfl ?_ ?_
  ·clear a
   rintro f g w a
   refine q 5 rfl (yh (rLt (n:=1) (l:=[f]) a SLH_89 [f.v] (bp1 e0) rfl rfl (mks1 rfl (mkF rfl) mks0)) fun S w a=>bE c fun T D c=>?_)
   replace a:=a.k16
   obtain ⟨U,ey110,N⟩:=app_rep D (a.famL R2) (show [f].length=[o].length from rfl)
   refine yh (rAp a SLH_89 e0 e0 rO1 N) fun V w a=>?_
   replace a:=(a.k1i).fPush
   rw [← ey110,← (app_some D).1] at a
   refine q 8 rfl ?_
   cases c
   exact ln (_,_) (a.k1j)
  rintro ⟨p,r⟩ i g w W a c
  refine q 6 rfl (cI c (fun O c=>?_) fun O c=>?_)
  ·refine z 3 0 ?_;intro X Z c s a0 c w a
   refine yh (rLt (n:=1) (l:=[s]) a SL_23 [iV s] (bp1 e0) rfl rfl (mks1 (cs:=[iV s]) rfl mkI mks0)) fun a1 w a=>?_
   refine z 1 8 ?_;intro a2 a3 c a4 w a
   cases c
   exact ln _ (a.k1k)
  ·refine q 2 rfl ?_
   cases c
   exact lx _ (a.fc)
 ·refine q 2 rfl ?_
  cases c
  exact lx (_,_) a
instance:CL prog 143 (type_of% @w_eo):=⟨@w_eo⟩
theorem w_ep {f:LI} {b:Int} {g:Hdr} {d:Nat} {out:Bool} (c:m_iw f b=some out) (i:imm I1 g.v f∈ros) (a:St w0 ros (box d 3 [iV b]::rs) w):
  Calls prog 169 #[g.v,(pB d)] w (fun e w=>e=.returned (.bool out)∧St w0 ros (box d 3 [iV b]::rs) w):=by
 refine en func169 rfl ntmps169 fun Q h=>?_
 refine z 3 5 ?_;intro j k c
 cases c
 exact za h results169 ⟨rfl,a⟩
instance:CL prog 169 (type_of% @w_ep):=⟨@w_ep⟩
theorem w_eq {h:L2} {b:Int} {i:Hdr} {d:Nat} {out:Int} (c:m_iy h b=some out) (l:imm S1 i.v h∈ros) (a:St w0 ros (box d 3 [iV b]::rs) w):
  Calls prog 168 #[i.v,.func (.func 169) #[] #[(pB d)]] w (fun e w=>e=.returned (iV out)∧St w0 ros (box d 3 [iV b]::rs) w):=by
 refine en func168 rfl ntmps168 fun Q j=>?_
 refine z 1 4 ?_
 refine bE c fun m n c=>?_
 refine lp n [0,1,7] (fun f=>[(8,iV f)]) (fun f=>St w0 ros (box d 3 [iV b]::rs)) (fun | .inl ()=>(.exit 0,[],St w0 ros (box d 3 [iV b]::rs)) | .inr k=>(.ret,[(4,iV k)],St w0 ros (box d 3 [iV b]::rs))) rfl a rfl ?_ ?_
 ·clear a
  intro g w a
  rcases m with ⟨⟩ | k
  ·refine q 8 rfl ?_
   cases c
   exact za j results168 ⟨rfl,a⟩
  ·refine q 2 rfl ?_
   cases c
   exact za j results168 ⟨rfl,a⟩
 rintro f g w t a c
 refine q 6 rfl (cI c (fun o c=>?_) fun o c=>?_)
 ·refine z 1 0 ?_;intro u p c
  obtain ⟨x,a⟩:=iLs a l p
  refine y (yCt O_23 e0 a F1 rfl) (bE c fun A r c=>yC (yCallw FN_169 e0 (a1 e0)) (w_ep r F0 a) ?_)
  rintro _ w ⟨rfl,a⟩
  refine ⟨_,rfl,?_⟩
  refine nf (q 2 rfl ?_)
  refine cJ c (fun s c=>?_) fun s c=>?_
  ·refine q 9 rfl ?_
   cases c
   exact xo (a.fc)
  ·refine q 7 rfl ?_
   cases c
   exact lo (a.fc)
 ·refine q 2 rfl ?_
  cases c
  exact xo a
theorem w_er {j k h out:Int} (c:m_i1 j k h=some out) (a:St w0 ros rs w):
  Calls prog 178 #[iV j,iV k,iV h] w (fun e w=>e=.returned (iV out)∧St w0 ros rs w):=by
 refine en func178 rfl ntmps178 fun Q m=>bE c fun l n c=>q 12 rfl ?_
 refine lp n [2] (fun (b,d,i)=>[(0,iV b),(1,iV d),(7,iV i)]) (fun (b,d,i)=>St w0 ros rs) (fun | l=>(.exit 0,[(7,iV l)],St w0 ros rs)) rfl a rfl ?_ ?_
 ·clear a
  intro g w a
  refine q 9 rfl ?_
  cases c
  exact za m results178 ⟨rfl,a⟩
 rintro ⟨b,d,i⟩ g w o a c
 refine q 7 rfl (cI c (fun p c=>?_) fun p c=>?_)
 ·refine q 12 rfl ?_
  refine jC Int [0,1,2] (fun f=>[(7,iV f)]) (fun f w=>St w0 ros rs w∧m_iz b h d f=some o) rfl ?_ ?_
  ·rintro f g w ⟨a,c⟩
   refine z 1 9 ?_;intro s t c
   cases c
   exact lo a
  refine cI c (fun r c=>?_) fun r c=>?_
  ·refine z 1 2 ?_;intro u v c
   exact jx _ ⟨a,c⟩
  ·exact q 1 rfl (jx _ ⟨a,c⟩)
 ·refine q 2 rfl ?_
  cases c
  exact xo a
instance:CL prog 178 (type_of% @w_er):=⟨@w_er⟩
theorem w_es {b d out:Int} (c:m_i2 b d=some out) (a:St w0 ros rs w):
  Calls prog 171 #[iV b,iV d] w (fun e w=>e=.returned (iV out)∧St w0 ros rs w):=by
 refine en func171 rfl ntmps171 fun Q f=>?_
 refine z 1 4 ?_;intro g h c w a
 cases c
 exact za f results171 ⟨rfl,a⟩
instance:CL prog 171 (type_of% @w_es):=⟨@w_es⟩
theorem w_et {h i:LI} {j k:Int} {b l:Hdr} {out:LI} (c:m_i4 h i j k=some out) (u:imm I1 l.v i∈ros) (a:St w0 ros (row 3 I1 b.v h::rs) w):
  Calls prog 172 #[b.v,l.v,iV j,iV k] w (fun e w=>e=.returned (.tuple #[])∧St w0 ros (row 3 I1 b.v out::rs) w):=by
 refine en func172 rfl ntmps172 fun Q o=>?_
 refine z 1 4 ?_
 refine bE c fun m p c=>?_
 refine lp p [0,2,3,10,11] (fun (d,f)=>[(12,iV f)]) (fun (d,f)=>St w0 ros (row 3 I1 b.v d::rs)) (fun | m=>(.exit 0,[],St w0 ros (row 3 I1 b.v m::rs))) rfl a rfl ?_ ?_
 ·clear a
  intro g w a
  refine q 1 rfl ?_
  cases c
  exact o _ _ _ (fin0n results172 ⟨rfl,a⟩)
 rintro ⟨d,f⟩ g w x a c
 refine q 6 rfl (cI c (fun r c=>?_) fun r c=>?_)
 ·refine z 2 4 ?_;intro y A c
  refine bE c fun B C c=>bE c fun D s c=>bE c fun t E c=>bE c fun F n c=>dS [13,15] 2 folM ?_
  replace a:=a.drew
  refine z 2 0 ?_
  refine rQ rfl (yrem e0 e0 s) ?_
  refine z 1 0 ?_;intro w a
  refine dU (D0 16384 3 15 rfl (rQ rfl (yIs SL_23 e0 e0 a rO0 n) (Rn (qS rfl (qS rfl QSn)) (LT wn (r_sti (cs:=[iV t]) a O_3 rfl e0 e0 rfl mkI n) fun w a=>Dw 0 0 (Rn QSn (qx 6 rfl ?_))))))
  cases c
  exact lo a
 ·refine q 2 rfl ?_
  cases c
  exact xo a
instance:CL prog 172 (type_of% @w_et):=⟨@w_et⟩
theorem w_eu {b2:L2} {O:Int} {h:Hdr} {b3:List Hdr} {out:L2×LI×Int} (c:m_jb b2 O=some out) (a:St w0 ros (row 23 rH h.v b3::fam 3 I1 b3 b2::rs) w):
  Calls prog 142 #[h.v,iV O] w (fun e w=>∃ (b4:List Hdr) (b5:Hdr),e=.returned (.tuple #[b5.v,iV out.2.2])∧St w0 ros (row 23 rH h.v b4::fam 3 I1 b4 out.1::row 3 I1 b5.v out.2.1::rs) w):=by
 refine en func142 rfl ntmps142 fun Q d7=>bE c fun g3 d8 c=>q 15 rfl ?_
 have r:=a
 replace a:=a.ffz
 have d:=a.guest0
 replace a:=r
 clear r
 refine yC (yCall FN_165 (a1 e0)) (w_ei d8 F0 d) ?_
 clear d
 rintro _ w ⟨rfl,d⟩
 replace a:=a.back d
 clear d
 refine ⟨_,rfl,?_⟩
 refine nf (q 4 rfl ?_)
 obtain ⟨⟨b6,b7,b8⟩,d9,c⟩:=bs c
 replace a:=a.rowNh 3 I1
 refine lpN ((List Hdr)×Hdr) ((List Hdr)×Hdr) d9 [0,1,14] (fun (R,i,S,b) (t,j)=>[(4,j.v),(5,iV S),(15,iV b)]) (fun (R,i,S,b) (t,j)=>St w0 ros (row 23 rH h.v t::fam 3 I1 t R::row 3 I1 j.v i::rs)) (fun | (b6,b7,b8),(T,U)=>(.exit 0,[(4,U.v),(5,iV b8)],St w0 ros (row 23 rH h.v T::fam 3 I1 T b6::row 3 I1 U.v b7::rs))) rfl (_,_) (a.k1g) rfl ?_ ?_
 ·clear a
  rintro ⟨T,U⟩ g w a
  refine q 11 rfl ?_
  cases c
  exact d7 _ _ _ (fin2r results142 ⟨rfl,rfl⟩ ⟨rfl,rfl⟩ ⟨_,_,rfl,a⟩)
 rintro ⟨R,i,S,b⟩ ⟨t,j⟩ g w b9 a c
 refine q 6 rfl (cI c (fun e1 c=>?_) fun e1 c=>?_)
 ·refine q 3 rfl ?_
  refine jC (L2×LI×Int×(List Hdr)×Hdr) [0,1,14,15] (fun (x,A,B,C,D)=>[(4,D.v),(5,iV B)]) (fun (x,A,B,C,D) w=>St w0 ros (row 23 rH h.v C::fam 3 I1 C x::row 3 I1 D.v A::rs) w∧m_i5 b x A B=some b9) rfl ?_ ?_
  ·rintro ⟨x,A,B,C,D⟩ g w ⟨a,c⟩
   refine q 5 rfl ?_
   cases c
   exact ln (_,_) a
  refine z 3 8 ?_;intro m w a w a
  refine y (yLenF SLH_89 e0 a rO1 R2) (q 3 rfl (cI c (fun e2 c=>?_) fun e2 c=>?_))
  ·refine q 5 rfl ?_
   cases c
   exact lx (_,_) (a.k1l)
  ·refine q 7 rfl (bE c fun g4 c0 c=>y (ySlF (k2:=.i64) SLH_89 e0 a rO1 R2 (.inl (congrArg some e0)) (.inr ⟨rfl,rfl⟩) c0) (y (ymf (vf:=#[]) (vc:=#[(pB m)]) a0 (a1 e0)) (bE c fun g5 e3 c=>?_)))
   have r:=a
   replace a:=((a.k1g).ffz).sub F0 c0
   have d:=a.guestB
   replace a:=r
   clear r
   refine yC (yCall FN_168 (a2 e0 e0)) (w_eq e3 F1 d) ?_
   clear d
   rintro _ w ⟨rfl,d⟩
   replace a:=a.backB d
   clear d
   refine ⟨_,rfl,?_⟩
   refine nf (q 12 rfl (cI c (fun e4 c=>?_) fun e4 c=>?_))
   ·exact q 3 rfl (jx (_,_,_,_,_) ⟨(a.k1l),c⟩)
   ·refine q 10 rfl ?_
    refine jC (L2×Int×(List Hdr)) [0,1,4,6,7,14,15] (fun (E,F,f)=>[(5,iV F)]) (fun (E,F,f) w=>St w0 ros (row 23 rH h.v f::fam 3 I1 f E::row 3 I1 j.v i::box m 3 [iV b]::rs) w∧m_i9 i b O E F=some b9) rfl ?_ ?_
    ·rintro ⟨E,F,f⟩ g w ⟨a,c⟩
     refine bE c fun g6 V c=>bE c fun g7 c1 c=>bE c fun e5 e6 c=>q 2 rfl (dS [11] 1 folM ?_)
     replace a:=a.drew
     refine D1 2047 0 11 rfl (qR 3 rfl ?_)
     obtain ⟨g8,G⟩:=a.famI R1 V
     refine rQ rfl (yIa SLH_89 e0 e0 a rO0 G) (rQ rfl (yF1 O_23 e0 a rO0 G rfl) (rQ rfl (lb_ (iV b) O_3 e0 a R3) (rQ rfl (yIa SL_23 e0 e0 a (rdF R1 G V) c1) (rQ rfl (yI O_3 e0 a (rdF R1 G V) c1) (qR 2 rfl (rQ rfl (yrem e0 e0 e6) (Rn QSn (Ly wn (a_ (iV e5) e0) (dU (Dw 0 0 (Rn QSn (bE c fun g9 W c=>bE c fun h0 c2 c=>?_))))))))))))
     refine bE c fun e7 e8 c=>qx 2 rfl (dS [8,9] 2 folM ?_)
     replace a:=a.drew
     refine D1 255 0 8 rfl (qR 2 rfl ?_)
     obtain ⟨h1,H⟩:=a.famI R1 W
     refine rQ rfl (yIa SLH_89 e0 e0 a rO0 H) (rQ rfl (yF1 O_23 e0 a rO0 H rfl) (rQ rfl (lb_ (iV b) O_3 e0 a R3) (rQ rfl (yIa SL_23 e0 e0 a (rdF R1 H W) c2) (rQ rfl (yI O_3 e0 a (rdF R1 H W) c2) (qR 1 rfl (Rn QSn (kZ (w_es e8 a) fun w a=>dU (D1 0 0 9 rfl (Rn QSn (Ly wn (a_ (iV e7) e0) (dU (Dw 0 0 ?_))))))))))))
     refine Rn QSn (bE c fun h3 c3 c=>qx 6 rfl ?_)
     obtain ⟨h4,X⟩:=a.famI R1 c3
     refine y (yIa SLH_89 e0 e0 a rO0 X) (y (yF1 O_23 e0 a rO0 X rfl) (y (yLen SL_23 e0 a (rdF R1 X c3)) (bE c fun c4 e9 c=>q 4 rfl ?_)))
     refine lp e9 [0,1,4,5,6,7,9,14,15,79] (fun (Z,a3)=>[(80,iV a3)]) (fun (Z,a3)=>St w0 ros (row 23 rH h.v f::fam 3 I1 f Z::row 3 I1 j.v i::box m 3 [iV b]::rs)) (fun | c4=>(.exit 2,[],St w0 ros (row 23 rH h.v f::fam 3 I1 f c4::row 3 I1 j.v i::box m 3 [iV b]::rs))) rfl a rfl ?_ ?_
     ·clear a
      intro g w a
      refine q 6 rfl (y (yLenF SLH_89 e0 a rO0 R1) (bE c fun c5 f0 c=>q 4 rfl ?_))
      refine lp f0 [0,1,4,5,6,7,14,15,101,102] (fun (I,J)=>[(103,iV J)]) (fun (I,J)=>St w0 ros (row 23 rH h.v f::fam 3 I1 f I::row 3 I1 j.v i::box m 3 [iV b]::rs)) (fun | c5=>(.exit 4,[],St w0 ros (row 23 rH h.v f::fam 3 I1 f c5::row 3 I1 j.v i::box m 3 [iV b]::rs))) rfl a rfl ?_ ?_
      ·clear a
       intro g w a
       refine z 1 0 ?_
       refine yh (rLt (n:=1) (l:=[b]) a SL_23 [iV b] (bp1 e0) rfl rfl (mks1 (cs:=[iV b]) rfl mkI mks0)) fun h5 w a=>?_
       refine z 1 3 ?_;intro h6 h7 c h8 w a
       exact jx (_,_,_,_,_) ⟨(a.k1m),c⟩
      rintro ⟨I,J⟩ g w f1 a c
      refine q 6 rfl (cI c (fun f2 c=>?_) fun f2 c=>?_)
      ·refine q 7 rfl (bE c fun h9 p c=>?_)
       obtain ⟨i0,k⟩:=a.famI R1 p
       refine y (yIa SLH_89 e0 e0 a rO0 k) (y (yF1 O_23 e0 a rO0 k rfl) (bE c fun f3 o c=>q 10 rfl ?_))
       refine jW 6 [0,1,4,5,6,7,12,14,15,101,102,103] [(117,.bool f3)] (St w0 ros (row 23 rH h.v f::fam 3 I1 f I::row 3 I1 j.v i::box m 3 [iV b]::rs)) rfl (fun c6=>?_) ?_
       ·refine gIn 111 o rfl (fun f4 o=>?_) fun f4 o=>?_
        ·refine q 6 rfl ?_
         cases o
         exact c6 _ _ a rfl
        ·refine z 1 0 ?_
         refine bE o fun i1 c7 o=>y (yIa SL_23 e0 e0 a (rdF R1 k p) c7) (y (yI O_3 e0 a (rdF R1 k p) c7) (q 2 rfl ?_))
         cases o
         exact c6 _ _ a rfl
       intro g w a
       refine q 2 rfl ?_
       refine jC L2 [0,1,4,5,6,7,14,15,101,102,103] (fun K=>[]) (fun K w=>St w0 ros (row 23 rH h.v f::fam 3 I1 f K::row 3 I1 j.v i::box m 3 [iV b]::rs) w∧m_i6 J K=some f1) rfl ?_ ?_
       ·rintro K g w ⟨a,c⟩
        refine q 6 rfl ?_
        cases c
        exact lo a
       refine cJ c (fun f5 c=>?_) fun f5 c=>?_
       ·refine bE c fun i2 c8 c=>bE c fun i3 c9 c=>bE c fun u2628 gu2628 c=>bE c fun i4 f6 c=>bE c fun i5 f7 c=>dS [10] 1 folM ?_
        replace a:=a.drew
        refine D1 1023 0 10 rfl (qR 3 rfl ?_)
        obtain ⟨i6,a5⟩:=a.famI R1 c8
        refine rQ rfl (yIa SLH_89 e0 e0 a rO0 a5) (rQ rfl (yF1 O_23 e0 a rO0 a5 rfl) (qR 1 rfl (rQ rfl (lb_ (iV b) O_3 e0 a R3) (rQ rfl (yIa SL_23 e0 e0 a (rdF R1 k p) c9) (rQ rfl (yI O_3 e0 a (rdF R1 k p) c9) (qR 1 rfl (Rn QSn ?_)))))))
        replace a:=(a.k16).foc k p
        have d:=a.guestX gu2628 k a5 c8
        refine Lk wn (yCall FN_172 (a4 e0 e0 e0 e0)) (w_et f6 F0 d) ?_
        clear d
        rintro _ w ⟨rfl,d⟩
        replace a:=a.backR d
        clear d
        refine ⟨_,rfl,?_⟩
        replace a:=a.unfoc' k f7
        exact dU (Dw 0 0 (Rn QSn (qx 0 rfl (jx _ ⟨(a.k1n),c⟩))))
       ·exact q 1 rfl (jx _ ⟨a,c⟩)
      ·refine q 2 rfl ?_
       cases c
       exact xo a
     rintro ⟨Z,a3⟩ g w i7 a c
     refine q 6 rfl (cI c (fun f8 c=>?_) fun f8 c=>?_)
     ·refine q 10 rfl (bE c fun i8 a6 c=>bE c fun i9 a7 c=>bE c fun j0 d0 c=>bE c fun f9 g0 c=>bE c fun j1 d1 c=>bE c fun j2 g1 c=>dS [17] 1 folM ?_)
      replace a:=a.drew
      refine D0 131071 0 17 rfl (qR 2 rfl ?_)
      obtain ⟨j3,s⟩:=a.famI R1 a6
      refine rQ rfl (yIa SLH_89 e0 e0 a rO0 s) (rQ rfl (yF1 O_23 e0 a rO0 s rfl) (qR 3 rfl ?_))
      obtain ⟨j4,L⟩:=a.famI R1 a7
      refine rQ rfl (yIa SLH_89 e0 e0 a rO0 L) (rQ rfl (yF1 O_23 e0 a rO0 L rfl) (qR 1 rfl (rQ rfl (yIa SL_23 e0 e0 a (rdF R1 L a7) d0) (rQ rfl (yI O_3 e0 a (rdF R1 L a7) d0) (qR 3 rfl (rQ rfl (yrem e0 e0 g0) (rQ rfl (yIs SL_23 e0 e0 a (rdF R1 s a6) d1) (Rn QSn ?_))))))))
      replace a:=a.k16
      refine LT wn (r_sti (cs:=[iV f9]) (a.foc s a6) O_3 rfl e0 e0 rfl mkI d1) fun w a=>?_
      replace a:=a.unfoc' s g1
      refine Dw 0 0 (Rn QSn (qx 6 rfl ?_))
      cases c
      exact lo (a.k1n)
     ·refine q 2 rfl ?_
      cases c
      exact xo a
    refine cI c (fun g2 c=>?_) fun g2 c=>?_
    ·refine q 1 rfl (bE c fun j5 d2 c=>bE c fun j6 d3 c=>bE c fun j7 a8 c=>bE c fun j8 d4 c=>dS [13,15] 2 folM ?_)
     replace a:=a.drew
     refine D0 8191 0 13 rfl (qR 6 rfl ?_)
     obtain ⟨d5,a9⟩:=a.famI R2 d2
     refine rQ rfl (yIa SLH_89 e0 e0 a rO1 a9) (rQ rfl (yF1 O_23 e0 a rO1 a9 rfl) (qR 2 rfl ?_))
     obtain ⟨d6,b0⟩:=a.famI R2 d3
     refine rQ rfl (yIa SLH_89 e0 e0 a rO1 b0) (rQ rfl (yF1 O_23 e0 a rO1 b0 rfl) ?_)
     obtain ⟨j9,N⟩:=setI_len (u:=d5) a8 (a.famL (mtR (mtR mhR)))
     refine rQ rfl (yIs SLH_89 e0 e0 a rO1 N) (Rn QSn ?_)
     replace a:=a.k16
     refine LT wn (r_sti (cs:=[d5.v]) a O_23 rfl e0 e0 rfl (mkF rfl) N) fun w a=>D0 16384 12 15 rfl ?_
     obtain ⟨k0,b1⟩:=setI_len (u:=d6) d4 (swap_len a8 N (a.famL (mtR (mtR mhR))))
     refine rQ rfl (yIs SLH_89 e0 e0 a rO0 b1) (Rn (qS rfl (qS rfl QSn)) (LT wn (r_sti (cs:=[d6.v]) a O_23 rfl e0 e0 rfl (mkF rfl) b1) fun w a=>?_))
     replace a:=(a.k15).fswap a9 d2 b0 d3 N a8 b1 d4
     refine Dw 0 0 (Rn QSn (qx 0 rfl ?_))
     refine z 1 2 ?_;intro k1 k3 c w a
     exact jx (_,_,_) ⟨(a.k1o),c⟩
    ·exact q 1 rfl (jx (_,_,_) ⟨(a.k1p),c⟩)
 ·refine q 2 rfl ?_
  cases c
  exact lx (_,_) a
instance:CL prog 142 (type_of% @w_eu):=⟨@w_eu⟩
theorem w_ev {b:L2} {d:Int} {f:Hdr} {out:Int×Int} (c:m_jc b d=some out) (g:imm S1 f.v b∈ros) (a:St w0 ros rs w):
  Calls prog 108 #[f.v,iV d] w (fun e w=>e=.returned (.tuple #[iV out.1,iV out.2])∧St w0 ros rs w):=by
 refine en func108 rfl ntmps108 fun Q h=>bE c fun m i c=>q 10 rfl (cZ (w_em i g a) fun w a=>q 10 rfl ?_)
 refine cIn c (fun j c=>?_) fun j c=>?_
 ·refine q 6 rfl (bE c fun n k c=>cT_ (w_eo k g a) fun o p w a=>bE c fun r l c=>q 1 rfl (cT_ (w_eu l a) fun s t w a=>q 10 rfl (y (yLen SL_23 e0 a rO2) (q 5 rfl ?_))))
  cases c
  exact zb h results108 ⟨rfl,(a.k1b)⟩
 ·refine q 9 rfl ?_
  cases c
  exact zb h results108 ⟨rfl,a⟩
instance:CL prog 108 (type_of% @w_ev):=⟨@w_ev⟩
theorem w_ew {s:L2} {t:Int} {u:Hdr} {out:LI} (c:m_jf s t=some out) (D:imm S1 u.v s∈ros) (a:St w0 ros rs w):
  Calls prog 49 #[u.v,iV t] w (fun e w=>∃ (x:Hdr),e=.returned (x.v)∧St w0 ros (row 3 I1 x.v out::rs) w):=by
 refine en func49 rfl ntmps49 fun Q E=>?_
 refine z 1 4 ?_
 refine bE c fun A F c=>?_
 replace a:=(a.rowNh 3 I1).immNh S1
 refine lpN (Hdr×Hdr) Hdr F [1,12,13] (fun (o,p,b) (f,h)=>[(5,f.v),(6,h.v),(14,iV b)]) (fun (o,p,b) (f,h)=>St w0 (imm S1 h.v p::ros) (row 3 I1 f.v o::rs)) (fun | A,r=>(.exit 0,[(5,r.v)],St w0 ros (row 3 I1 r.v A::rs))) rfl (_,_) a rfl ?_ ?_
 ·clear a
  rintro r g w a
  refine q 9 rfl ?_
  cases c
  exact E _ _ _ (fin1r results49 ⟨rfl,rfl⟩ ⟨_,rfl,a⟩)
 rintro ⟨o,p,b⟩ ⟨f,h⟩ g w G a c
 refine q 6 rfl (cI c (fun H c=>?_) fun H c=>?_)
 ·refine z 1 0 ?_;intro I J c
  obtain ⟨B,a⟩:=iLs a (mtF D) J
  refine y (yCt O_23 e0 a F1 rfl) ?_
  refine z 1 1 ?_;intro O R c w a
  refine yh (rLt (n:=1) (l:=[I]) a SL_89 [B.v] (bp1 e0) rfl rfl (mks1 (cs:=[B.v]) rfl (mkS F0) mks0)) fun S w a=>bE c fun T K c=>yh (rApC a SL_89 e0 F2 e0 rO0 K (List.cons_ne_nil _ _)) fun U w a=>bE c fun V L c=>q 7 rfl ?_
  have C:=a
  replace a:=a.fz
  have d:=a.guest0
  replace a:=C
  clear C
  refine yC (yCall FN_108 (a2 e0 e0)) (w_ev L F0 d) ?_
  clear d
  rintro _ w ⟨rfl,d⟩
  replace a:=a.back d
  clear d
  refine ⟨_,rfl,?_⟩
  refine nf ?_
  refine z 1 3 ?_
  refine jC (LI×L2×Hdr×Hdr) [1,12,13,14] (fun (i,j,k,m)=>[(5,k.v),(6,m.v)]) (fun (i,j,k,m) w=>St w0 (imm S1 m.v j::ros) (row 3 I1 k.v i::rs) w∧m_jd b i j=some G) rfl ?_ ?_
  ·rintro ⟨i,j,k,m⟩ g w ⟨a,c⟩
   refine q 6 rfl ?_
   cases c
   exact ln (_,_) a
  refine cI c (fun N c=>?_) fun N c=>?_
  ·refine q 3 rfl (yh (rLt (n:=1) (l:=[b]) a SL_23 [iV b] (bp1 e0) rfl rfl (mks1 (cs:=[iV b]) rfl mkI mks0)) fun W w a=>?_)
   refine z 1 4 ?_;intro X Z c a0 w a
   replace a:=(a.k15).fz
   exact jx (_,_,_,_) ⟨((a.k1q).facts (allC F0 (allT (allT (allT (allT allI)))))),c⟩
  ·exact q 1 rfl (jx (_,_,_,_) ⟨((a.k1r).facts (allC F2 (allT (allT (allT allI))))),c⟩)
 ·refine q 2 rfl ?_
  cases c
  exact lx _ (a.fc)
instance:CL prog 49 (type_of% @w_ew):=⟨@w_ew⟩
theorem w_ex {t:L2} {x:Int} {A:Hdr} {out:L2} (c:m_ji t x=some out) (J:imm S1 A.v t∈ros) (a:St w0 ros rs w):
  Calls prog 50 #[A.v,iV x] w (fun e w=>∃ (B:Hdr) (C:List Hdr),e=.returned (B.v)∧St w0 ros (row 23 rH B.v C::fam 3 I1 C out::rs) w):=by
 refine en func50 rfl ntmps50 fun Q K=>bE c fun X L c=>q 8 rfl ?_
 obtain ⟨N,em5,O⟩:=mkL_rep L hnil
 refine yh (rMk a SLH_89 e0 O) fun d w a=>?_
 replace a:=(a.fReps 3 I1 N).k16
 rw [← em5] at a
 refine q 7 rfl (y (yLenF SLH_89 e0 a rO0 R1) (bE c fun D R c=>q 4 rfl ?_))
 refine lpN (List Hdr) (List Hdr) R [0,5,12] (fun (i,j) f=>[(13,iV j)]) (fun (i,j) f=>St w0 ros (row 23 rH d.v f::fam 3 I1 f i::rs)) (fun | D,k=>(.exit 0,[],St w0 ros (row 23 rH d.v k::fam 3 I1 k D::rs))) rfl _ a rfl ?_ ?_
 ·clear a
  rintro k g w a
  refine q 9 rfl ?_
  cases c
  exact K _ _ _ (fin1r results50 ⟨rfl,rfl⟩ ⟨_,_,rfl,a⟩)
 rintro ⟨i,j⟩ f g w Z a c
 refine q 6 rfl (cI c (fun S c=>?_) fun S c=>?_)
 ·refine z 1 4 ?_
  refine bE c fun E T c=>?_
  refine lpN (List Hdr) (List Hdr) T [0,5,6,12,13,16,17] (fun (m,o) h=>[(18,iV o)]) (fun (m,o) h=>St w0 ros (row 23 rH d.v h::fam 3 I1 h m::rs)) (fun | E,p=>(.exit 2,[],St w0 ros (row 23 rH d.v p::fam 3 I1 p E::rs))) rfl _ a rfl ?_ ?_
  ·clear a
   rintro p g w a
   refine q 7 rfl ?_
   cases c
   exact ln _ a
  rintro ⟨m,o⟩ h g w a0 a c
  refine q 6 rfl (cI c (fun U c=>?_) fun U c=>?_)
  ·refine z 1 0 ?_;intro a1 V c
   obtain ⟨a2,a⟩:=iLs a J V
   refine y (yCt O_23 e0 a F1 rfl) (bE c fun a3 F c=>bE c fun r G c=>bE c fun a4 W c=>bE c fun a5 H c=>q 3 rfl (dS [10,11,13] 3 folM ?_))
   replace a:=a.drew
   refine D1 1023 0 10 rfl (qR 4 rfl ?_)
   obtain ⟨a6,b⟩:=a.famI R1 F
   refine rQ rfl (yIa SLH_89 e0 e0 a rO0 b) (rQ rfl (yF1 O_23 e0 a rO0 b rfl) (qR 2 rfl (rQ rfl (yIa SL_23 e0 e0 a (rdI F0) G) (rQ rfl (yI O_3 e0 a (rdI F0) G) (Rn QSn (LH wn (rLt (n:=1) (l:=[r]) a SL_23 [iV r] (bp1 e0) rfl rfl (mks1 (cs:=[iV r]) rfl mkI mks0)) fun a7 w a=>dU (D1 0 63 11 rfl (Rn (qS rfl (qS rfl (qS rfl (qS rfl (sY rfl (yIa SLH_89 e0 e0 a rO1 b) (sY rfl (yF1 O_23 e0 a rO1 b rfl) QSn)))))) ?_))))))))
   replace a:=(a.k15).foc b F
   refine LH wn (rAp a SL_23 e0 e0 rO2 W) fun I w a=>dU (D0 4096 3 13 rfl ?_)
   obtain ⟨a8,s⟩:=setI_len (u:=I) H (a.famLx (mtR mhR))
   refine rQ rfl (yIs SLH_89 e0 e0 a rO3 s) (Rn (qS rfl (qS rfl QSn)) ?_)
   replace a:=a.k1e
   refine LT wn (r_sti (cs:=[I.v]) a O_23 rfl e0 e0 rfl (mkF rfl) s) fun w a=>?_
   replace a:=(a.k1g).unfS b s H
   refine Dw 0 0 (Rn QSn (qx 6 rfl ?_))
   cases c
   exact ln _ ((a.k1j).fc)
  ·refine q 2 rfl ?_
   cases c
   exact lx _ a
 ·refine q 2 rfl ?_
  cases c
  exact lx _ a
instance:CL prog 50 (type_of% @w_ex):=⟨@w_ex⟩
end Go.Proofs.YtcoaljcfifecgabGreatDoor
