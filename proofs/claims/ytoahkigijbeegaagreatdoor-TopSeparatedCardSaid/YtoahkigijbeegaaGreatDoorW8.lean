/- Walks: each function computes its model, printed. -/
import Derived.Test.YtoahkigijbeegaaGreatDoorW5
namespace Go.Proofs.YtoahkigijbeegaaGreatDoor
open Go Sx M Go.Proofs.Tryz
set_option maxRecDepth 100000
set_option maxHeartbeats 40000000
set_option linter.unusedVariables false
attribute [local irreducible] wpList Code.wp Calls DR QR QS LA LS St row box fam imm rowS loop
variable {w0:World} {mu:List Fact} {rs:List Res} {w:World}
theorem im {e:L2} {f:Int} {d:Hdr} {out:L2} (c:m_e8 e f=some out) (m:imm S1 d.v e∈mu) (a:St w0 mu rs w):
  Calls prog 166 #[.agg #[d.v],iV f] w (ro w0 mu rs 24 S1 out):=by
 refine en func166 rfl ntmps166 fun Q i=>?_
 refine z 3 2 ?_;intro j w a n o c w a
 refine bE c fun k b c=>?_
 refine jW 5 [1,2] [(13,.bool k)] (St w0 mu (box j 32 [d.v]::rs)) rfl (fun h=>?_) ?_
 ·refine gIn 8 b rfl (fun l b=>?_) fun l b=>?_
  ·refine z 1 1 ?_
   refine bE b fun p r b=>?_
   refine z 1 2 ?_;intro w a
   cases b
   exact h _ _ a rfl
  ·refine q 5 rfl ?_
   cases b
   exact h _ _ a rfl
 intro g w a
 refine v 0 ?_
 refine ⟨fun _ c=>?_,vt⟩
 cases c
 replace a:=a.rowNh 24 S1
 exact i _ _ _ (X1 results166 ⟨rfl,rfl⟩ ⟨_,rfl,(a.k11)⟩)
instance:CL prog 166 (type_of% @im):=⟨@im⟩
theorem gm {t:L2} {u:LI} {x:L2} {d e f:Hdr} {out:LI} (c:m_fb t u x=some out) (V:imm S1 d.v t∈mu) (W:imm I1 e.v u∈mu) (X:imm S1 f.v x∈mu) (a:St w0 mu rs w):
  Calls prog 118 #[.agg #[d.v,e.v,f.v]] w (ro w0 mu rs 3 I1 out):=by
 refine en func118 rfl ntmps118 fun Q A=>?_
 refine z 1 5 ?_;intro h w a
 refine yh (rLt (n:=1) (l:=[1]) a N0 [iV 1] (bp1 rfl) rfl rfl (J1 (cs:=[iV 1]) rfl mkI L1)) fun Z w a=>?_
 refine z 8 4 ?_;intro a0 a1 c b w a a2 a3 c w a i a4 c j w a
 refine bE c fun H I c=>?_
 refine lp I [1,3,4,20,21] (fun (k,m,o)=>[(5,iV m),(22,iV o)]) (fun (k,m,o)=>St w0 mu (box h 121 [d.v,e.v,f.v]::row 3 I1 b.v k::row 24 S1 j.v i::rs)) (fun | .inl B=>(.exit 0,[],St w0 mu (row 3 I1 b.v B::rs)) | .inr C=>(.ret,[(2,b.v)],St w0 mu (row 3 I1 b.v C::rs))) rfl ((a.k18).fc) rfl ?_ ?_
 ·clear a
  intro g w a
  rcases H with B | C
  ·refine q 9 rfl ?_
   cases c
   exact A _ _ _ (X1 results118 ⟨rfl,rfl⟩ ⟨_,rfl,a⟩)
  ·refine q 2 rfl ?_
   cases c
   exact A _ _ _ (X1 results118 ⟨rfl,rfl⟩ ⟨_,rfl,a⟩)
 rintro ⟨k,m,o⟩ g w a5 a c
 refine q 6 rfl (cI c (fun J c=>?_) fun J c=>?_)
 ·refine z 1 0 ?_;intro a6 K c
  obtain ⟨a7,L,a⟩:=rLs a rO2 K
  refine y (yCe P0 e0 L rfl) (bE c fun a8 a9 c=>bE c fun b0 b1 c=>bE c fun b2 b3 c=>bE c fun N b4 c=>q 4 rfl (dS [7,8,9] 3 V0 ?_))
  replace a:=a.drew
  refine z 9 2 ?_;intro w a b5 w a O w a
  refine bE c fun R S c=>?_
  refine lp S [1,3,4,20,21,22,35,36] (fun (p,r,s)=>[(5,iV r),(37,iV s)]) (fun (p,r,s)=>St w0 mu (box h 121 [d.v,e.v,f.v]::row 3 I1 b.v p::row 24 S1 j.v i::row 3 I1 O.v N::rs)) (fun | .inl (D,E)=>(.exit 2,[(5,iV E)],St w0 mu (box h 121 [d.v,e.v,f.v]::row 3 I1 b.v D::row 24 S1 j.v i::rs)) | .inr F=>(.ret,[(2,b.v)],St w0 mu (row 3 I1 b.v F::rs))) rfl ((a.k1n).fc) rfl ?_ ?_
  ·clear a
   intro g w a
   rcases R with ⟨D,E⟩ | F
   ·refine q 7 rfl ?_
    cases c
    exact lo a
   ·refine q 3 rfl ?_
    cases c
    exact xo a
  rintro ⟨p,r,s⟩ g w b6 a c
  refine q 6 rfl (cI c (fun T c=>?_) fun T c=>?_)
  ·refine z 2 12 ?_;intro b8 b9 c
   refine cI c (fun U c=>?_) fun U c=>?_
   ·refine q 10 rfl ?_
    cases c
    exact xo (a.k15)
   ·refine q 6 rfl (bE c fun c0 G c=>y (yIs N0 e0 e0 a rO1 G) ?_)
    replace a:=a.k10
    refine yt (V1 (cs:=[iV 0]) a O_3 rfl e0 rfl rfl mkI G) fun w a=>?_
    refine z 3 9 ?_;intro c1 c2 c
    cases c
    exact lo (a.k46)
  ·refine q 2 rfl ?_
   cases c
   exact xo (a.k1k)
 ·refine q 2 rfl ?_
  cases c
  exact xo (a.k13)
instance:CL prog 118 (type_of% @gm):=⟨@gm⟩
theorem dm {I:L2} {J:LI} {K:L2} {o:LI} {f b h d:Hdr} {out:LI} (c:m_fi I J K o=some out) (b0:imm S1 f.v I∈mu) (l:imm I1 b.v J∈mu) (L:imm S1 h.v K∈mu) (a:St w0 mu (row 3 I1 d.v o::rs) w):
  Calls prog 121 #[.agg #[f.v,b.v,h.v],d.v] w (fun e w=>e=.returned (.tuple #[])∧St w0 mu (row 3 I1 d.v out::rs) w):=by
 refine en func121 rfl ntmps121 fun Q N=>?_
 refine z 2 0 ?_;intro i w a j w a
 replace a:St w0 mu (row 205 I1 (arrH j 2).v [0,0]::box i 121 [f.v,b.v,h.v]::row 3 I1 d.v o::rs) w:=a.boxRow rfl rfl rfl
 refine z 1 4 ?_
 refine bE c fun O b1 c=>?_
 refine lp b1 [1,2,4,14,15] (fun (u,x)=>[(16,iV x)]) (fun (u,x)=>St w0 mu (row 3 I1 d.v o::box i 121 [f.v,b.v,h.v]::row 205 I1 (arrH j 2).v u::rs)) (fun | O=>(.exit 0,[],St w0 mu (row 3 I1 d.v o::box i 121 [f.v,b.v,h.v]::row 205 I1 (arrH j 2).v O::rs))) rfl (a.k18) rfl ?_ ?_
 ·clear a
  intro g w a
  refine bE c fun d6 b2 c=>q 4 rfl (y (Ja W8 e0 rfl a rO2 rfl b2) ?_)
  refine z 1 0 ?_
  refine bE c fun d7 b3 c=>y (Ja W8 e0 rfl a rO2 rfl b3) ?_
  refine z 1 10 ?_
  refine bE c fun b4 b5 c=>?_
  refine lp b5 [1,2,4,7] (fun (A,B,C)=>[(37,iV C)]) (fun (A,B,C)=>St w0 mu (row 3 I1 d.v A::box i 121 [f.v,b.v,h.v]::row 205 I1 (arrH j 2).v B::rs)) (fun | .inl R=>(.exit 2,[],St w0 mu (row 3 I1 d.v R::rs)) | .inr S=>(.ret,[],St w0 mu (row 3 I1 d.v S::rs))) rfl a rfl ?_ ?_
  ·clear a
   intro g w a
   rcases b4 with R | S
   ·refine q 1 rfl ?_
    cases c
    exact N _ _ _ (p9 results121 ⟨rfl,a⟩)
   ·refine q 1 rfl ?_
    cases c
    exact N _ _ _ (Jq results121 ⟨rfl,a⟩)
  rintro ⟨A,B,C⟩ g w d8 a c
  refine v 0 ?_
  refine ⟨fun _ c=>?_,vt⟩
  obtain ⟨⟨T,U,V⟩,b6,c⟩:=bs c
  refine lp b6 [1,2,4,7,37,39,40] (fun (m,n,D,p)=>[(8,.bool D),(41,iV p)]) (fun (m,n,D,p)=>St w0 mu (row 3 I1 d.v m::box i 121 [f.v,b.v,h.v]::row 205 I1 (arrH j 2).v n::rs)) (fun | (T,U,V)=>(.exit 4,[(8,.bool V)],St w0 mu (row 3 I1 d.v T::box i 121 [f.v,b.v,h.v]::row 205 I1 (arrH j 2).v U::rs))) rfl a rfl ?_ ?_
  ·clear a
   intro g w a
   exact vx
  rintro ⟨m,n,D,p⟩ g w b7 a c
  refine v 0 ?_
  refine ⟨fun _ _ b8 _ _ c0 c1 c=>?_,vt⟩
  obtain ⟨c2,a⟩:=iLs a b0 c1
  refine y (yCt P0 e0 a F1 rfl) ?_
  refine z 1 4 ?_
  refine bE c fun W c3 c=>?_
  refine lp c3 [1,2,4,7,8,9,10,37,39,40,41,51,52] (fun (E,F)=>[(11,iV E),(53,iV F)]) (fun (E,F)=>St w0 (imm I1 c2.v c0::mu) (row 3 I1 d.v m::box i 121 [f.v,b.v,h.v]::row 205 I1 (arrH j 2).v n::rs)) (fun | W=>(.exit 6,[(11,iV W)],St w0 mu (row 3 I1 d.v m::box i 121 [f.v,b.v,h.v]::row 205 I1 (arrH j 2).v n::rs))) rfl (a.facts (U0 F0 (M0 (M0 M1)))) rfl ?_ ?_
  ·clear a
   intro g w a
   refine bE c fun G k c=>q 3 rfl ?_
   refine jN Unit [1,2,4,7,8,9,10,37,39,40,41] (fun _=>[(102,.bool G)]) (fun _=>St w0 mu (row 3 I1 d.v m::box i 121 [f.v,b.v,h.v]::row 205 I1 (arrH j 2).v n::rs)) rfl ?_ ?_
   ·rcases Z4 k with ⟨H,k⟩ | ⟨H,k⟩
    ·refine bE k fun d9 X k=>bE k fun e1 Z k=>?_
     have c4:=U2 k
     refine dS [] 0 V0 ?_
     replace a:=a.drew
     exact Dw 262143 0 (qR 3 rfl (rK 87 rfl (dT H) (qR 2 rfl (rQ rfl (Ja W8 e0 e0 a rO2 rfl X) (rQ rfl (yI O_3 e0 a rO2 X) (qR 1 rfl (rQ rfl (lb_ b.v P0 e0 a R1) (qR 1 rfl (rQ rfl (yIa N0 e0 e0 a (rdI l) Z) (rQ rfl (yI O_3 e0 a (rdI l) Z) (qR 5 rfl (rQ rfl (pt_ (.bool G) e0 rfl (eqv c4 e0)) (Rn QSn (jr () a))))))))))))))
    ·have c5:=U2 k
     refine dS [] 0 V0 ?_
     replace a:=a.drew
     exact Dw 262143 0 (qR 3 rfl (rK 87 rfl (dF H) (qR 14 rfl (rQ rfl (pf_ (.bool G) e0 rfl (eqv c5 rfl)) (Rn QSn (jr () a))))))
   rintro _ g w a
   refine q 1 rfl ?_
   refine jC (LI×LI×Bool) [1,2,4,7,37,39,40,41] (fun (r,s,t)=>[(8,.bool t)]) (fun (r,s,t) w=>St w0 mu (row 3 I1 d.v r::box i 121 [f.v,b.v,h.v]::row 205 I1 (arrH j 2).v s::rs) w∧m_fc p r s t=some b7) rfl ?_ ?_
   ·rintro ⟨r,s,t⟩ g w ⟨a,c⟩
    exact vx
   refine cJ c (fun c6 c=>?_) fun c6 c=>?_
   ·refine q 6 rfl (bE c fun e2 a0 c=>y (yIs N0 e0 e0 a rO0 a0) (yt (V1 (cs:=[iV (ws .i64 1 b8)]) a O_3 rfl e0 e0 rfl mkI a0) fun w a=>bE c fun c7 a1 c=>bE c fun c8 a2 c=>bE c fun e3 a3 c=>q 4 rfl (dS [10] 1 V0 ?_)))
    replace a:=a.drew
    refine D0 1023 0 10 rfl (qR 1 rfl (rQ rfl (Ja W8 e0 e0 a rO2 rfl a1) (rQ rfl (yI O_3 e0 a rO2 a1) (qR 1 rfl (rQ rfl (lb_ b.v P0 e0 a R1) (qR 1 rfl (rQ rfl (yIa N0 e0 e0 a (rdI l) a2) (rQ rfl (yI O_3 e0 a (rdI l) a2) (qR 1 rfl (rQ rfl (ig W8 e0 e0 a rO2 rfl a3) (Rn QSn ?_)))))))))))
    replace a:=a.k16
    refine LT wn (V1 (cs:=[iV (ws .i64 c7 c8)]) a O_3 rfl e0 e0 rfl mkI a3) fun w a=>?_
    refine z 1 1 ?_
    refine bE c fun c9 a4 c=>bE c fun d0 a5 c=>bE c fun e4 a6 c=>dS [11] 1 V0 ?_
    replace a:=a.drew
    exact D0 2047 0 11 rfl (qR 2 rfl (rQ rfl (Ja W8 e0 e0 a rO0 rfl a4) (rQ rfl (yI O_3 e0 a rO0 a4) (qR 1 rfl (rQ rfl (lb_ b.v P0 e0 a R2) (qR 1 rfl (rQ rfl (yIa N0 e0 e0 a (rdI l) a5) (rQ rfl (yI O_3 e0 a (rdI l) a5) (qR 1 rfl (rQ rfl (ig W8 e0 e0 a rO0 rfl a6) (Rn QSn (LT wn (V1 (cs:=[iV (wa .i64 c9 d0)]) a O_3 rfl e0 e0 rfl mkI a6) fun w a=>vx))))))))))))
   ·exact vx
  rintro ⟨E,F⟩ g w e5 a c
  refine v 0 ?_
  refine ⟨fun _ _ _ _ _ _ _ _=>⟨fun _ _ _ d1 c=>?_,fun _ _ _ d2 c=>?_⟩,vt⟩
  ·obtain ⟨e6,a⟩:=iLs a (mtF L) d1
   exact vx
  ·obtain ⟨e7,a⟩:=iLs a (mtF L) d2
   exact vx
 rintro ⟨u,x⟩ g w e8 a c
 refine q 6 rfl (cI c (fun d3 c=>?_) fun d3 c=>?_)
 ·refine z 2 4 ?_;intro e9 f0 c
  refine bE c fun d4 a7 c=>bE c fun d5 a8 c=>bE c fun f1 a9 c=>dS [10] 1 V0 ?_
  replace a:=a.drew
  refine D0 1023 0 10 rfl (qR 1 rfl (rQ rfl (Ja W8 e0 e0 a rO2 rfl a7) (rQ rfl (yI O_3 e0 a rO2 a7) (qR 1 rfl (rQ rfl (lb_ b.v P0 e0 a R1) (qR 1 rfl (rQ rfl (yIa N0 e0 e0 a (rdI l) a8) (rQ rfl (yI O_3 e0 a (rdI l) a8) (qR 1 rfl (rQ rfl (ig W8 e0 e0 a rO2 rfl a9) (Rn QSn ?_)))))))))))
  replace a:=a.k16
  exact LT wn (V1 (cs:=[iV (wa .i64 d4 d5)]) a O_3 rfl e0 e0 rfl mkI a9) fun w a=>vx
 ·exact vx
instance:CL prog 121 (type_of% @dm):=⟨@dm⟩
theorem Vg {b:L2} {d:LI} {f:L2} {g h i:Hdr} {out:LI×Bool} (c:m_fk b d f=some out) (k:imm S1 g.v b∈mu) (l:imm I1 h.v d∈mu) (m:imm S1 i.v f∈mu) (a:St w0 mu rs w):
  Calls prog 67 #[.agg #[g.v,h.v,i.v]] w (fun e w=>∃ (j:Hdr),e=.returned (.tuple #[j.v,.bool out.2])∧St w0 mu (row 3 I1 j.v out.1::rs) w):=by
 refine en func67 rfl ntmps67 fun Q n=>?_
 refine v 0 ?_
 refine fun _ _ _ _ _ _ _ _ a=>⟨fun _ c=>?_,vt⟩
 cases c
instance:CL prog 67 (type_of% @Vg):=⟨@Vg⟩
theorem Ug {h:Int} {i:LI} {b:Int} {d:Nat} {f:Hdr} {g:Nat} {out:Bool} (c:m_fl h i b=some out) (j:imm I1 f.v i∈mu) (a:St w0 mu (box d 24 [f.v]::box g 3 [iV b]::rs) w):
  Calls prog 170 #[iV h,(pB d),(pB g)] w (fun e w=>e=.returned (.bool out)∧St w0 mu (box d 24 [f.v]::box g 3 [iV b]::rs) w):=by
 exact en func170 rfl ntmps170 fun Q k=>vx
instance:CL prog 170 (type_of% @Ug):=⟨@Ug⟩
theorem w_cr {j k:LI} {b:Int} {l:Hdr} {d:Nat} {f:Hdr} {h:Nat} {out:Int} (c:m_fn j k b=some out) (r:imm I1 l.v j∈mu) (n:imm I1 f.v k∈mu) (a:St w0 mu (box d 24 [f.v]::box h 3 [iV b]::rs) w):
  Calls prog 174 #[l.v,.func (.func 170) #[] #[(pB d),(pB h)]] w (fun e w=>e=.returned (iV out)∧St w0 mu (box d 24 [f.v]::box h 3 [iV b]::rs) w):=by
 refine en func174 rfl ntmps174 fun Q s=>?_
 refine z 1 4 ?_
 refine bE c fun o p c=>?_
 refine lp p [0,1,7] (fun i=>[(8,iV i)]) (fun i=>St w0 mu (box d 24 [f.v]::box h 3 [iV b]::rs)) (fun | .inl ()=>(.exit 0,[],St w0 mu (box d 24 [f.v]::box h 3 [iV b]::rs)) | .inr m=>(.ret,[(4,iV m)],St w0 mu (box d 24 [f.v]::box h 3 [iV b]::rs))) rfl a rfl ?_ ?_
 ·clear a
  intro g w a
  rcases o with ⟨⟩ | m
  ·exact vx
  ·exact vx
 rintro i g w t a c
 refine v 0 ?_
 refine ⟨fun _ _ _ _ c=>?_,vt⟩
 refine bE c fun u q c=>yC (A8 xD e0 (a1 e0)) (Ug q n a) ?_
 rintro _ w ⟨rfl,a⟩
 refine ⟨_,rfl,?_⟩
 exact nf vx
theorem w_cs {h i:LI} {b:Int} {j:Hdr} {d:Nat} {f:Hdr} {g:Nat} {out:Bool} (c:m_fo h i b=some out) (k:imm I1 j.v h∈mu) (l:imm I1 f.v i∈mu) (a:St w0 mu (box d 24 [f.v]::box g 3 [iV b]::rs) w):
  Calls prog 127 #[j.v,.func (.func 170) #[] #[(pB d),(pB g)]] w (fun e w=>e=.returned (.bool out)∧St w0 mu (box d 24 [f.v]::box g 3 [iV b]::rs) w):=by
 exact en func127 rfl ntmps127 fun Q n=>bE c fun o m c=>q 9 rfl (cZ (w_cr m k l a) fun w a=>vx)
theorem cm {r:L2} {s:LI} {d:Int} {t e:Hdr} {out:LI} (c:m_fr r s d=some out) (x:imm S1 t.v r∈mu) (f:imm I1 e.v s∈mu) (a:St w0 mu rs w):
  Calls prog 123 #[.agg #[t.v],e.v,iV d] w (ro w0 mu rs 3 I1 out):=by
 refine en func123 rfl ntmps123 fun Q F=>?_
 refine z 5 4 ?_;intro G w a k w a l w a
 refine bE c fun u A c=>?_
 replace a:=a.rowNh 3 I1
 refine lpN Hdr Hdr A [4,5,11,12] (fun (i,m) h=>[(7,h.v),(13,iV m)]) (fun (i,m) h=>St w0 mu (box k 24 [e.v]::box l 3 [iV d]::row 3 I1 h.v i::rs)) (fun | u,n=>(.exit 0,[(7,n.v)],St w0 mu (row 3 I1 n.v u::rs))) rfl _ (a.k48) rfl ?_ ?_
 ·clear a
  rintro n g w a
  exact vx
 rintro ⟨i,m⟩ h g w H a c
 refine v 0 ?_
 refine ⟨fun _ _ _ B c=>?_,vt⟩
 obtain ⟨I,a⟩:=iLs a x B
 refine y (yCt P0 e0 a F1 rfl) (bE c fun J j c=>bE c fun o b c=>q 5 rfl ?_)
 refine jN Unit [4,5,7,8,11,12,13] (fun _=>[(28,.bool o)]) (fun _=>St w0 mu (box k 24 [e.v]::box l 3 [iV d]::row 3 I1 h.v i::rs)) rfl ?_ ?_
 ·rcases Z4 b with ⟨p,b⟩ | ⟨p,b⟩
  ·refine bE b fun K C b=>?_
   have D:=U2 b
   refine dS [9] 1 V0 ?_
   replace a:=a.drew
   refine D1 511 0 9 rfl (rQ rfl (lb_ e.v P0 e0 a R0) (qR 1 rfl (rQ rfl (yIa N0 e0 e0 a (rdI (F_2 f)) j) (rQ rfl (yI O_3 e0 a (rdI (F_2 f)) j) (rQ rfl (lb_ (iV d) O_3 e0 a R1) (qR 2 rfl (rK 24 rfl (dT p) (qR 1 rfl (rQ rfl (ymf (vf:=#[]) (vc:=#[(pB k),(pB l)]) a0 (a2 e0 e0)) (Rn QSn (kZ (w_cs C F0 (F_2 f) a) fun w a=>dU (Dw 1024 0 ?_))))))))))))
   exact rQ rfl (pt_ (.bool o) e0 rfl (eqv D e0)) (Rn QSn (jr () (a.fc)))
  ·have E:=U2 b
   refine dS [9] 1 V0 ?_
   replace a:=a.drew
   refine D1 511 0 9 rfl (rQ rfl (lb_ e.v P0 e0 a R0) (qR 1 rfl (rQ rfl (yIa N0 e0 e0 a (rdI (F_2 f)) j) (rQ rfl (yI O_3 e0 a (rdI (F_2 f)) j) (rQ rfl (lb_ (iV d) O_3 e0 a R1) (qR 2 rfl (rK 24 rfl (dF p) (qR 2 rfl (Rn QSn (Lx (N3.2 rfl) (dU (Dw 1024 0 (rQ rfl (pf_ (.bool o) e0 rfl (eqv E rfl)) ?_)))))))))))))
   exact Rn QSn (jr () (a.fc))
 rintro _ g w a
 exact vx
instance:CL prog 123 (type_of% @cm):=⟨@cm⟩
theorem bm {f h:Int} {l m n:LI} {b d i:Hdr} {out:L2} (c:m_ft f h l m n=some out) (e:imm I1 b.v l∈mu) (o:imm I1 d.v m∈mu) (F:imm iu i.v n∈mu) (a:St w0 mu rs w):
  Calls prog 221 #[.agg #[iV f,iV h,b.v,d.v,i.v]] w (ro w0 mu rs 24 S1 out):=by
 refine en func221 rfl ntmps221 fun Q G=>?_
 refine z 2 0 ?_;intro y w a
 refine bE c fun H A c=>yh (rMk a Q4 e0 A) fun p w a=>?_
 refine z 1 4 ?_
 refine bE c fun r B c=>?_
 refine lp B [1,3,9] (fun (j,k)=>[(10,iV k)]) (fun (j,k)=>St w0 mu (box y 27 [iV f,iV h,b.v,d.v,i.v]::row 24 S1 p.v j::rs)) (fun | r=>(.exit 0,[],St w0 mu (row 24 S1 p.v r::rs))) rfl (a.k10) rfl ?_ ?_
 ·clear a
  intro g w a
  exact vx
 rintro ⟨j,k⟩ g w I a c
 refine q 6 rfl (cI c (fun C c=>?_) fun C c=>?_)
 ·refine q 10 rfl (bE c fun D s c=>bE c fun E t c=>bE c fun J u c=>bE c fun K x c=>dS [17] 1 V0 ?_)
  replace a:=a.drew
  refine D0 131071 0 17 rfl (qR 3 rfl (rQ rfl (lb_ d.v P0 e0 a R0) (qR 1 rfl (rQ rfl (lb_ b.v P0 e0 a R0) (qR 1 rfl (rQ rfl (yIa N0 e0 e0 a (rdI e) s) (rQ rfl (yI O_3 e0 a (rdI e) s) (qR 1 rfl (rQ rfl (lb_ b.v P0 e0 a R0) (qR 2 rfl (rQ rfl (yIa N0 e0 e0 a (rdI e) t) (rQ rfl (yI O_3 e0 a (rdI e) t) (rQ rfl (ySl N0 e0 a (rdI o) (.inl (S0 some e0)) (.inl (S0 some e0)) u) ?_)))))))))))))
  replace a:=a.sub o u
  refine rQ rfl (yIs Q4 e0 e0 a rO1 x) (Rn QSn ?_)
  replace a:=a.k10
  exact LT wn (V1 (cs:=[(subH d 1 D E).v]) a P0 rfl e0 e0 rfl (mkS F0) x) fun w a=>vx
 ·exact vx
instance:CL prog 221 (type_of% @bm):=⟨@bm⟩
theorem Zl {f b:Int} {out:LI} (c:m_fv f b=some out) (a:St w0 mu rs w):
  Calls prog 222 #[iV f,iV b] w (ro w0 mu rs 3 I1 out):=by
 refine en func222 rfl ntmps222 fun Q k=>bE c fun o l c=>q 8 rfl (yh (rMk a N0 e0 l) fun h w a=>?_)
 refine z 1 4 ?_
 refine bE c fun i m c=>?_
 refine lp m [1,5,10] (fun (d,e)=>[(11,iV e)]) (fun (d,e)=>St w0 mu (row 3 I1 h.v d::rs)) (fun | i=>(.exit 0,[],St w0 mu (row 3 I1 h.v i::rs))) rfl a rfl ?_ ?_
 ·clear a
  intro g w a
  refine q 9 rfl ?_
  cases c
  exact k _ _ _ (X1 results222 ⟨rfl,rfl⟩ ⟨_,rfl,a⟩)
 rintro ⟨d,e⟩ g w p a c
 refine q 6 rfl (cI c (fun n c=>?_) fun n c=>?_)
 ·refine q 14 rfl (bE c fun r j c=>y (yIs N0 e0 e0 a rO0 j) (yt (V1 (cs:=[iV b]) a O_3 rfl e0 e0 rfl mkI j) fun w a=>q 7 rfl ?_))
  cases c
  exact lo a
 ·refine q 2 rfl ?_
  cases c
  exact xo a
instance:CL prog 222 (type_of% @Zl):=⟨@Zl⟩
theorem w_cw {rec:L2→LI→LI→BL→Int→Option (LI×LI×BL×Bool)} (S:∀ {w0:World} {mu:List Fact} {rs:List Res} {w:World} {i:L2} {m n:LI} {o:BL} {l:Int} {j:Nat} {f b d h:Hdr} {out:LI×LI×BL×Bool} (c:rec i m n o l=some out) (a:St w0 mu (box j 240 [f.v,b.v,d.v,h.v]::row 24 S1 f.v i::row 3 I1 b.v m::row 3 I1 d.v n::row 4 rB h.v o::rs) w),Calls prog 223 #[(pB j),iV l] w (fun e w=>e=.returned (.bool out.2.2.2)∧St w0 mu (row 24 S1 f.v i::row 3 I1 b.v out.1::row 3 I1 d.v out.2.1::row 4 rB h.v out.2.2.1::box j 240 [f.v,b.v,d.v,h.v]::rs) w)) {w0:World} {mu:List Fact} {rs:List Res} {w:World} {i:L2} {m n:LI} {o:BL} {l:Int} {j:Nat} {f b d h:Hdr} {out:LI×LI×BL×Bool} (c:m_fy rec i m n o l=some out) (a:St w0 mu (box j 240 [f.v,b.v,d.v,h.v]::row 24 S1 f.v i::row 3 I1 b.v m::row 3 I1 d.v n::row 4 rB h.v o::rs) w):
  Calls prog 223 #[(pB j),iV l] w (fun e w=>e=.returned (.bool out.2.2.2)∧St w0 mu (row 24 S1 f.v i::row 3 I1 b.v out.1::row 3 I1 d.v out.2.1::row 4 rB h.v out.2.2.1::box j 240 [f.v,b.v,d.v,h.v]::rs) w):=by
 refine en func223 rfl ntmps223 fun Q E=>?_
 refine z 2 0 ?_;intro x T c
 obtain ⟨A,U,a⟩:=rLs a rO1 T
 refine y (yCe P0 e0 U rfl) ?_
 refine z 1 4 ?_
 refine bE c fun V W c=>?_
 refine lp W [0,1,13,14] (fun (B,C,D,p)=>[(15,iV p)]) (fun (B,C,D,p)=>St w0 (imm I1 A.v x::mu) (row 24 S1 f.v i::row 3 I1 b.v B::row 3 I1 d.v C::row 4 rB h.v D::box j 240 [f.v,b.v,d.v,h.v]::rs)) (fun | .inl (F,G,H)=>(.exit 0,[],St w0 mu (row 24 S1 f.v i::row 3 I1 b.v F::row 3 I1 d.v G::row 4 rB h.v H::box j 240 [f.v,b.v,d.v,h.v]::rs)) | .inr (I,J,K)=>(.ret,[(4,.bool true)],St w0 mu (row 24 S1 f.v i::row 3 I1 b.v I::row 3 I1 d.v J::row 4 rB h.v K::box j 240 [f.v,b.v,d.v,h.v]::rs))) rfl (a.k49) rfl ?_ ?_
 ·clear a
  intro g w a
  rcases V with ⟨F,G,H⟩ | ⟨I,J,K⟩
  ·refine q 8 rfl ?_
   cases c
   exact za E results223 ⟨rfl,a⟩
  ·refine q 2 rfl ?_
   cases c
   exact za E results223 ⟨rfl,a⟩
 rintro ⟨B,C,D,p⟩ g w X a c
 refine q 6 rfl (cI c (fun Z c=>?_) fun Z c=>?_)
 ·refine q 3 rfl ?_
  refine jC (LI×LI×BL) [0,1,13,14,15] (fun (r,s,t)=>[]) (fun (r,s,t) w=>St w0 (imm I1 A.v x::mu) (row 24 S1 f.v i::row 3 I1 b.v r::row 3 I1 d.v s::row 4 rB h.v t::box j 240 [f.v,b.v,d.v,h.v]::rs) w∧m_fw p r s t=some X) rfl ?_ ?_
  ·rintro ⟨r,s,t⟩ g w ⟨a,c⟩
   refine q 5 rfl ?_
   cases c
   exact lo a
  refine z 4 0 ?_;intro a0 a6 c a7 a1 c
  refine y (yB O_4 e0 a rO3 a1) (q 2 rfl ?_)
  refine cJ c (fun a2 c=>?_) fun a2 c=>?_
  ·exact q 3 rfl (jx (_,_,_) ⟨a,c⟩)
  ·refine z 1 1 ?_
   refine bE c fun a8 L c=>y (yIs K3 e0 e0 a rO3 L) ?_
   replace a:=a.k1d
   refine yt (V1 (cs:=[.bool true]) a O_4 rfl e0 rfl rfl mkB L) fun w a=>?_
   refine z 3 2 ?_;intro a9 b0 c
   refine bE c fun u k c=>?_
   refine jW 10 [0,1,6,13,14,15] [(50,.bool u.1)] (St w0 (imm I1 A.v x::mu) (row 24 S1 f.v i::row 3 I1 b.v u.2.1::row 3 I1 d.v u.2.2.1::row 4 rB h.v u.2.2.2::box j 240 [f.v,b.v,d.v,h.v]::rs)) rfl (fun N=>?_) ?_
   ·refine gI 40 k rfl (fun a3 k=>?_) fun a3 k=>?_
    ·refine q 10 rfl ?_
     cases k
     exact N _ _ (a.k1e) rfl
    ·refine z 1 1 ?_
     refine bE k fun b2 b3 k=>?_
     refine z 2 0 ?_
     refine bE k fun b4 a4 k=>?_
     replace a:=a.k4a
     refine cZ (S a4 a) fun w a=>q 1 rfl ?_
     cases k
     exact N _ _ a rfl
   intro g w a
   refine q 2 rfl ?_
   refine cJ c (fun a5 c=>?_) fun a5 c=>?_
   ·refine q 1 rfl (bE c fun b5 O c=>bE c fun b6 R c=>dS [13,15] 2 V0 ?_)
    replace a:=a.drew
    refine D0 8191 0 13 rfl (qR 3 rfl (rQ rfl (lb_ b.v P0 e0 a R4) (qR 4 rfl (rQ rfl (lb_ d.v P0 e0 a R4) (qR 3 rfl (rQ rfl (yIs N0 e0 e0 a rO1 O) (Rn QSn ?_)))))))
    replace a:=a.k10
    refine LT wn (V1 (cs:=[iV a0]) a O_3 rfl e0 e0 rfl mkI O) fun w a=>D0 16384 2560 15 rfl (rQ rfl (yIs N0 e0 e0 a rO2 R) (Rn (qS rfl (qS rfl QSn)) ?_))
    replace a:=a.k16
    refine LT wn (V1 (cs:=[iV l]) a O_3 rfl e0 e0 rfl mkI R) fun w a=>?_
    refine z 1 10 ?_
    cases c
    exact xo ((a.k4b).fc)
   ·exact q 2 rfl (jx (_,_,_) ⟨a,c⟩)
 ·refine q 2 rfl ?_
  cases c
  exact xo (a.fc)
theorem w_cx (n:Nat):∀ {w0:World} {mu:List Fact} {rs:List Res} {w:World} {h:L2} {j k:LI} {l:BL} {m:Int} {i:Nat} {b d f g:Hdr} {out:LI×LI×BL×Bool} (c:m_fz n h j k l m=some out) (a:St w0 mu (box i 240 [b.v,d.v,f.v,g.v]::row 24 S1 b.v h::row 3 I1 d.v j::row 3 I1 f.v k::row 4 rB g.v l::rs) w),
  Calls prog 223 #[(pB i),iV m] w (fun e w=>e=.returned (.bool out.2.2.2)∧St w0 mu (row 24 S1 b.v h::row 3 I1 d.v out.1::row 3 I1 f.v out.2.1::row 4 rB g.v out.2.2.1::box i 240 [b.v,d.v,f.v,g.v]::rs) w):=by
 induction n with
 | zero=>intro _ _ _ _ _ _ _ _ _ _ _ _ _ _ out c; cases c
 | succ n ih=>exact fun c a=>w_cw (rec:=m_fz n) ih c a
theorem w_cy {h:L2} {j k:LI} {l:BL} {m:Int} {i:Nat} {b d f g:Hdr} {out:LI×LI×BL×Bool} (c:m_fz FUEL h j k l m=some out) (a:St w0 mu (box i 240 [b.v,d.v,f.v,g.v]::row 24 S1 b.v h::row 3 I1 d.v j::row 3 I1 f.v k::row 4 rB g.v l::rs) w):
  Calls prog 223 #[(pB i),iV m] w (fun e w=>e=.returned (.bool out.2.2.2)∧St w0 mu (row 24 S1 b.v h::row 3 I1 d.v out.1::row 3 I1 f.v out.2.1::row 4 rB g.v out.2.2.1::box i 240 [b.v,d.v,f.v,g.v]::rs) w):=w_cx FUEL c a
theorem Tg {i j:Int} {t u x:LI} {k l m:Hdr} {out:L2×LI×LI×BL} (c:m_f1 i j t u x=some out) (S:imm I1 k.v t∈mu) (T:imm I1 l.v u∈mu) (U:imm iu m.v x∈mu) (a:St w0 mu rs w):
  Calls prog 202 #[.agg #[iV i,iV j,k.v,l.v,m.v]] w (fun e w=>∃ (y:Nat) (A B C D:Hdr),e=.returned (pB y)∧St w0 mu (row 24 S1 A.v out.1::row 3 I1 B.v out.2.1::row 3 I1 C.v out.2.2.1::row 4 rB D.v out.2.2.2::box y 240 [A.v,B.v,C.v,D.v]::rs) w):=by
 refine en func202 rfl ntmps202 fun Q J=>?_
 refine z 1 4 ?_;intro K w a
 refine bE c fun E V c=>bE c fun W X c=>bE c fun Z a0 c=>dS [1,4,7,9,10] 5 V0 ?_
 replace a:=a.drew
 refine z 11 4 ?_;intro b w a d w a f w a F w a
 obtain ⟨⟨G,H,I⟩,L,c⟩:=bs c
 replace a:=a.rowNh 4 rB
 refine lpN Hdr Hdr L [1,3,16] (fun (n,o,p,r) h=>[(17,iV r)]) (fun (n,o,p,r) h=>St w0 mu (box K 27 [iV i,iV j,k.v,l.v,m.v]::row 24 S1 b.v E::row 3 I1 d.v n::row 3 I1 f.v o::row 4 rB h.v p::box F 240 [b.v,d.v,f.v,h.v]::rs)) (fun | (G,H,I),s=>(.exit 0,[],St w0 mu (row 24 S1 b.v E::row 3 I1 d.v G::row 3 I1 f.v H::row 4 rB s.v I::box F 240 [b.v,d.v,f.v,s.v]::rs))) rfl _ (a.k4c) rfl ?_ ?_
 ·clear a
  rintro s g w a
  refine q 9 rfl ?_
  cases c
  exact J _ _ _ (X1 results202 ⟨rfl,rfl⟩ ⟨_,_,_,_,_,rfl,a⟩)
 rintro ⟨n,o,p,r⟩ h g w a1 a c
 refine q 6 rfl (cI c (fun N c=>?_) fun N c=>?_)
 ·refine z 1 0 ?_
  refine bE c fun a2 O c=>yh (rMk a K3 e0 O) fun a3 w a=>?_
  refine z 1 5 ?_;intro w a
  refine bE c fun a4 R c=>?_
  replace a:=a.k4d
  refine cZ (w_cy R a) fun w a=>q 7 rfl ?_
  cases c
  exact ln _ (a.k4e)
 ·refine q 2 rfl ?_
  cases c
  exact lx _ (a.k4f)
instance:CL prog 202 (type_of% @Tg):=⟨@Tg⟩
theorem ah {J s:Int} {a2 a3 a4:LI} {a5 a6 a7:Hdr} {out:BL×BL} (c:m_f7 J s a2 a3 a4=some out) (c7:imm I1 a5.v a2∈mu) (c8:imm I1 a6.v a3∈mu) (c9:imm iu a7.v a4∈mu) (a:St w0 mu rs w):
  Calls prog 171 #[.agg #[iV J,iV s,a5.v,a6.v,a7.v]] w (fun e w=>∃ (a8 a9:Hdr),e=.returned (.tuple #[a8.v,a9.v])∧St w0 mu (row 4 rB a8.v out.1::row 4 rB a9.v out.2::rs) w):=by
 refine en func171 rfl ntmps171 fun Q d0=>?_
 refine z 2 0 ?_;intro f0 w a
 refine bE c fun b d1 c=>yC (S7 wD (a1 e0)) (Tg d1 c7 c8 c9 a) ?_
 rintro _ w ⟨m,d,f,h,i,rfl,a⟩
 refine ⟨_,rfl,?_⟩
 refine nf (bE c fun t b0 c=>bE c fun d2 K c=>q 4 rfl ?_)
 refine jN (Hdr×Hdr) [4] (fun (j,k)=>[(2,j.v),(3,k.v)]) (fun (j,k)=>St w0 mu (row 4 rB j.v t::row 4 rB k.v d2::row 24 S1 d.v b.1::row 3 I1 f.v b.2.1::row 3 I1 h.v b.2.2.1::row 4 rB i.v b.2.2.2::box m 240 [d.v,f.v,h.v,i.v]::rs)) rfl ?_ ?_
 ·refine dS [2,5,6,7] 4 V0 ?_
  replace a:=a.drew
  refine Dm 27 0 [2,5] ?_
  refine z 2 0 ?_
  refine La1 rfl ?_ (La1 rfl ?_ LAn)
  ·refine LH wn (rMk a K3 e0 b0) fun b1 w a=>dU (Dm 0 24 [5,6] (Rn (qS rfl (sY rfl (lb_ (iV s) O_3 e0 a R6) QSn)) ?_))
   refine La1 rfl ?_ (La1 rfl ?_ LAn)
   ·refine LH wn (rMk a K3 e0 K) fun b2 w a=>dU ?_
    refine z 2 0 ?_
    exact dU (Dw 0 0 (Rn QSn (jr (_,_) (a.k4g))))
   ·refine Ly wn (a_ b1.v e0) (dU (D1 0 24 5 rfl (Rn (qS rfl (sY rfl (lb_ (iV s) O_3 e0 a R6) QSn)) (LH wn (rMk a K3 e0 K) fun b2 w a=>dU ?_))))
    refine z 1 0 ?_
    exact dU (Dw 0 0 (Rn QSn (jr (_,_) (a.k4g))))
  ·refine LH wn (rMk a K3 e0 K) fun b2 w a=>dU (D1 0 3 2 rfl (Rn (qS rfl (sY rfl (lb_ (iV J) O_3 e0 a R6) QSn)) (LH wn (rMk a K3 e0 b0) fun b1 w a=>dU ?_)))
   refine z 2 0 ?_
   exact dU (Dw 0 0 (Rn QSn (jr (_,_) (a.k4h))))
 rintro ⟨j,k⟩ g w a
 refine z 2 4 ?_
 obtain ⟨⟨b3,b4⟩,d3,c⟩:=bs c
 replace a:=a.rowNh 3 I1
 refine lpN Hdr Hdr d3 [2,3,4,23,24] (fun (L,N,o) u=>[(5,u.v),(25,iV o)]) (fun (L,N,o) u=>St w0 mu (row 4 rB j.v t::row 4 rB k.v L::row 24 S1 d.v b.1::row 3 I1 f.v b.2.1::row 3 I1 h.v b.2.2.1::row 4 rB i.v b.2.2.2::box m 240 [d.v,f.v,h.v,i.v]::row 3 I1 u.v N::rs)) (fun | (b3,b4),O=>(.exit 0,[(5,O.v)],St w0 mu (row 4 rB j.v t::row 4 rB k.v b3::row 24 S1 d.v b.1::row 3 I1 f.v b.2.1::row 3 I1 h.v b.2.2.1::row 4 rB i.v b.2.2.2::box m 240 [d.v,f.v,h.v,i.v]::row 3 I1 O.v b4::rs))) rfl _ (a.k4i) rfl ?_ ?_
 ·clear a
  rintro O g w a
  refine q 4 rfl ?_
  obtain ⟨⟨b5,b6⟩,d4,c⟩:=bs c
  replace a:=(a.k3n).toQ
  refine lpN Hdr Unit d4 [2,3,4] (fun (R,S,T) x=>[(5,x.v)]) (fun (R,S,T) x=>St w0 mu (row 4 rB j.v R::row 4 rB k.v S::row 24 S1 d.v b.1::row 3 I1 f.v b.2.1::row 3 I1 h.v b.2.2.1::row 4 rB i.v b.2.2.2::box m 240 [d.v,f.v,h.v,i.v]::rowS 3 I1 x.v T::rs)) (fun | (b5,b6),_=>(.exit 2,[],St w0 mu (row 4 rB j.v b5::row 4 rB k.v b6::rs))) rfl _ (a.k4i) rfl ?_ ?_
  ·clear a
   rintro _ g w a
   refine q 11 rfl ?_
   cases c
   exact d0 _ _ _ (M3 results171 ⟨rfl,rfl⟩ ⟨rfl,rfl⟩ ⟨_,_,rfl,a⟩)
  rintro ⟨R,S,T⟩ x g w f1 a c
  refine q 4 rfl (y (T1 N0 e0 a (rdQ R7)) (q 3 rfl (cI c (fun d5 c=>?_) fun d5 c=>?_)))
  ·refine q 6 rfl (bE c fun f2 b7 c=>y (yIa N0 e0 rfl a (rdQ R7) b7) (y (yI O_3 e0 a (rdQ R7) b7) (bE c fun f3 b8 c=>q 6 rfl ?_)))
   replace a:=a.k3n
   refine y (ySl (k2:=.i64) N0 e0 a (rdQ R0) (.inl (S0 some rfl)) (.inr ⟨rfl,rfl⟩) b8) ?_
   replace a:=a.qcut b8 rfl
   refine z 2 0 ?_;intro U d6 c
   obtain ⟨V,d7,a⟩:=rLs a rO3 d6
   refine y (yCe P0 e0 d7 rfl) ?_
   refine z 1 4 ?_
   obtain ⟨⟨c0,c1,c2⟩,d8,c⟩:=bs c
   refine lpN Hdr Hdr d8 [2,3,4,54,55] (fun (W,A,B,C) r=>[(5,r.v),(56,iV C)]) (fun (W,A,B,C) r=>St w0 (imm I1 V.v U::mu) (row 4 rB j.v W::row 4 rB k.v A::row 24 S1 d.v b.1::row 3 I1 f.v b.2.1::row 3 I1 h.v b.2.2.1::row 4 rB i.v b.2.2.2::box m 240 [d.v,f.v,h.v,i.v]::rowS 3 I1 r.v B::rs)) (fun | (c0,c1,c2),X=>(.exit 4,[(5,X.v)],St w0 mu (row 4 rB j.v c0::row 4 rB k.v c1::row 24 S1 d.v b.1::row 3 I1 f.v b.2.1::row 3 I1 h.v b.2.2.1::row 4 rB i.v b.2.2.2::box m 240 [d.v,f.v,h.v,i.v]::rowS 3 I1 X.v c2::rs))) rfl _ (a.k4i) rfl ?_ ?_
   ·clear a
    rintro X g w a
    refine q 2 rfl ?_
    cases c
    exact ln _ a
   rintro ⟨W,A,B,C⟩ r g w d9 a c
   refine q 6 rfl (cI c (fun e1 c=>?_) fun e1 c=>?_)
   ·refine z 2 7 ?_;intro f4 f5 c
    refine bE c fun Z c3 c=>y (yIs K3 e0 e0 a rO0 c3) (yt (V1 (cs:=[.bool true]) a O_4 rfl e0 rfl rfl mkB c3) fun w a=>?_)
    refine z 3 8 ?_;intro a0 f6 c
    refine bE c fun e2 p c=>?_
    refine jW 6 [2,3,4,5,11,54,55,56] [(78,.bool e2)] (St w0 (imm I1 V.v U::mu) (row 4 rB j.v Z::row 4 rB k.v A::row 24 S1 d.v b.1::row 3 I1 f.v b.2.1::row 3 I1 h.v b.2.2.1::row 4 rB i.v b.2.2.2::box m 240 [d.v,f.v,h.v,i.v]::rowS 3 I1 r.v B::rs)) rfl (fun c4=>?_) ?_
    ·refine gIn 72 p rfl (fun e3 p=>?_) fun e3 p=>?_
     ·refine q 6 rfl ?_
      cases p
      exact c4 _ _ a rfl
     ·refine q 2 rfl (bE p fun f7 e4 p=>?_)
      refine z 1 0 ?_
      refine y (yB O_4 e0 a rO1 e4) (q 2 rfl ?_)
      cases p
      exact c4 _ _ a rfl
    intro g w a
    refine q 2 rfl ?_
    refine jC (BL×LI×Hdr) [2,3,4,54,55,56] (fun (D,E,F)=>[(5,F.v)]) (fun (D,E,F) w=>St w0 (imm I1 V.v U::mu) (row 4 rB j.v Z::row 4 rB k.v D::row 24 S1 d.v b.1::row 3 I1 f.v b.2.1::row 3 I1 h.v b.2.2.1::row 4 rB i.v b.2.2.2::box m 240 [d.v,f.v,h.v,i.v]::rowS 3 I1 F.v E::rs) w∧m_f2 Z C D E=some d9) rfl ?_ ?_
    ·rintro ⟨D,E,F⟩ g w ⟨a,c⟩
     refine q 6 rfl ?_
     cases c
     exact ln _ a
    refine cJ c (fun e5 c=>?_) fun e5 c=>?_
    ·refine q 4 rfl (bE c fun f8 c5 c=>y (yIs K3 e0 e0 a rO1 c5) ?_)
     replace a:=a.k10
     refine yt (V1 (cs:=[.bool true]) a O_4 rfl e0 rfl rfl mkB c5) fun w a=>q 5 rfl (yh (rLt (n:=1) (l:=[a0]) a N0 [iV a0] (bp1 e0) rfl rfl (J1 (cs:=[iV a0]) rfl mkI L1)) fun f9 w a=>bE c fun g0 e6 c=>?_)
     replace a:=a.k29
     exact yh (rQAp a N0 e0 e0 rO1 (List.cons_ne_nil _ _) e6) fun g1 w a=>q 2 rfl (jx (_,_,_) ⟨(a.k4j),c⟩)
    ·exact q 1 rfl (jx (_,_,_) ⟨a,c⟩)
   ·refine q 2 rfl ?_
    cases c
    exact lx _ (a.fc)
  ·refine q 2 rfl ?_
   cases c
   exact lx () (a.k4k)
 rintro ⟨L,N,o⟩ u g w e7 a c
 refine q 6 rfl (cI c (fun e8 c=>?_) fun e8 c=>?_)
 ·refine z 2 10 ?_;intro g2 g3 c
  refine jC (BL×LI×Hdr) [2,3,4,23,24,25] (fun (G,H,I)=>[(5,I.v)]) (fun (G,H,I) w=>St w0 mu (row 4 rB j.v t::row 4 rB k.v G::row 24 S1 d.v b.1::row 3 I1 f.v b.2.1::row 3 I1 h.v b.2.2.1::row 4 rB i.v b.2.2.2::box m 240 [d.v,f.v,h.v,i.v]::row 3 I1 I.v H::rs) w∧m_f5 o G H=some e7) rfl ?_ ?_
  ·rintro ⟨G,H,I⟩ g w ⟨a,c⟩
   refine q 6 rfl ?_
   cases c
   exact ln _ a
  refine cI c (fun e9 c=>?_) fun e9 c=>?_
  ·refine q 4 rfl (bE c fun g4 c6 c=>y (yIs K3 e0 e0 a rO1 c6) ?_)
   replace a:=a.k10
   refine yt (V1 (cs:=[.bool true]) a O_4 rfl e0 rfl rfl mkB c6) fun w a=>q 5 rfl (yh (rLt (n:=1) (l:=[o]) a N0 [iV o] (bp1 e0) rfl rfl (J1 (cs:=[iV o]) rfl mkI L1)) fun g5 w a=>?_)
   refine z 1 2 ?_;intro g6 g7 c g8 w a
   exact jx (_,_,_) ⟨(a.k4j),c⟩
  ·exact q 1 rfl (jx (_,_,_) ⟨a,c⟩)
 ·refine q 2 rfl ?_
  cases c
  exact lx _ a
instance:CL prog 171 (type_of% @ah):=⟨@ah⟩
theorem Wd {h:BL} {i:Bool} {j:Hdr} {out:LI} (c:m_ga h i=some out) (l:imm rB j.v h∈mu) (a:St w0 mu rs w):
  Calls prog 172 #[j.v,.bool i] w (ro w0 mu rs 3 I1 out):=by
 refine en func172 rfl ntmps172 fun Q o=>?_
 refine z 1 4 ?_
 refine bE c fun k m c=>?_
 replace a:=a.rowNh 3 I1
 refine lpN Hdr Hdr m [1,8,9] (fun (d,e) b=>[(5,b.v),(10,iV e)]) (fun (d,e) b=>St w0 mu (row 3 I1 b.v d::rs)) (fun | k,f=>(.exit 0,[(5,f.v)],St w0 mu (row 3 I1 f.v k::rs))) rfl _ a rfl ?_ ?_
 ·clear a
  rintro f g w a
  exact vx
 rintro ⟨d,e⟩ b g w p a c
 refine v 0 ?_
 refine ⟨fun _ _ _ n c=>?_,vt⟩
 exact y (yB O_4 e0 a (rdI l) n) (q 8 rfl (y (Dd H0 e0 e0) vx))
instance:CL prog 172 (type_of% @Wd):=⟨@Wd⟩
theorem Sq {p:Prop}(h:p:=by
  refine z 4 0 ?_;intro b4 w a b7 w a w a w a
  exact Dw 0 0 (Rn QSn (jr (_,_) ((a.k4t).fc)))):p:=h
theorem Em {b d:Int} {i j k:LI} {f g h:Hdr} {out:LI×LI×Int} (c:m_gb b d i j k=some out) (l:imm I1 f.v i∈mu) (m:imm I1 g.v j∈mu) (n:imm iu h.v k∈mu) (a:St w0 mu rs w):
  Calls prog 124 #[.agg #[iV b,iV d,f.v,g.v,h.v]] w (fun e w=>∃ (o p:Hdr),e=.returned (.tuple #[.agg #[o.v,p.v],iV out.2.2])∧St w0 mu (row 3 I1 o.v out.1::row 3 I1 p.v out.2.1::rs) w):=by
 refine en func124 rfl ntmps124 fun Q r=>q 2 rfl (yb (W5 (vals:=[iV b,iV d,f.v,g.v,h.v]) a e0 rfl) fun C w a=>yb (rAl a Ks) fun D w a=>q 5 rfl (y (A1 [iV b,iV d,f.v,g.v,h.v] E5 e0 a R1) (bE c fun E u c=>cZ (Xd u l m n a) fun w a=>q 10 rfl ?_)))
 refine cIn c (fun x c=>?_) fun x c=>?_
 ·refine q 4 rfl (y (A1 [iV b,iV d,f.v,g.v,h.v] E5 e0 a R1) (bE c fun F z c=>cT_ (ah z l m n a) fun G H w a=>bE c fun I A c=>q 10 rfl ?_))
  replace a:=a.fz
  refine cO (Wd A F0 a) fun s w a=>bE c fun J B c=>q 1 rfl ?_
  replace a:=(a.k10).fz
  refine cO (Wd B F0 a) fun t w a=>y (D6 (us:=[s.v,t.v]) [(0,s.v),(1,t.v)] Wi (bp2 e0 e0) rfl) ?_
  replace a:=a.k16
  refine sB rfl a Hc fun w a=>q 4 rfl ?_
  cases c
  exact r _ _ _ (M3 results124 (V2 rfl rfl a R0 Hc rfl) ⟨rfl,rfl⟩ ⟨_,_,rfl,((a.k4l).fc)⟩)
 ·refine q 2 rfl (y (D6 (us:=[hnil.v,hnil.v]) [] Wi bp0 rfl) (q 1 rfl (sB rfl a Hc fun w a=>q 5 rfl ?_)))
  cases c
  replace a:=(a.rowNh 3 I1).rowNh 3 I1
  exact r _ _ _ (M3 results124 (V2 rfl rfl a R2 Hc rfl) ⟨rfl,rfl⟩ ⟨_,_,rfl,(a.k22)⟩)
instance:CL prog 124 (type_of% @Em):=⟨@Em⟩
theorem Zg {a1:L2} {a2:LI} {i a3:Hdr} {out:BL} (c:m_gh a1 a2=some out) (b8:imm S1 i.v a1∈mu) (d5:imm I1 a3.v a2∈mu) (a:St w0 mu rs w):
  Calls prog 69 #[.agg #[i.v],a3.v] w (ro w0 mu rs 4 rB out):=by
 refine en func69 rfl ntmps69 fun Q a4=>?_
 refine z 1 4 ?_;intro o w a
 refine bE c fun d d6 c=>bE c fun b d7 c=>dS [2,5,6,7] 4 V0 ?_
 replace a:=a.drew
 refine z 9 0 ?_;intro j w a h w a
 refine yh (rLt (n:=1) (l:=[0]) a N0 [iV 0] (bp1 rfl) rfl rfl (J1 (cs:=[iV 0]) rfl mkI L1)) fun d8 w a=>?_
 refine z 4 4 ?_;intro p w a w a
 obtain ⟨⟨a5,a6,a7⟩,b9,c⟩:=bs c
 replace a:=(a.rowNh 3 I1).rowNh 56 iu
 refine lpN (Hdr×Hdr×Hdr) (Hdr×Hdr×Hdr) b9 [2,5,6,7,33,34] (fun (k,J,K,L) (e,x,A)=>[(35,iV L)]) (fun (k,J,K,L) (e,x,A)=>St w0 mu (box o 32 [i.v]::row 3 I1 j.v d::row 3 I1 h.v b::row 3 I1 e.v k::row 3 I1 x.v J::row 56 iu A.v K::box p 27 [iV (d.length:Int),iV (b.length:Int),e.v,x.v,A.v]::rs)) (fun | (a5,a6,a7),(N,O,R)=>(.exit 0,[],St w0 mu (box o 32 [i.v]::row 3 I1 j.v d::row 3 I1 h.v b::row 3 I1 N.v a5::row 3 I1 O.v a6::row 56 iu R.v a7::box p 27 [iV (d.length:Int),iV (b.length:Int),N.v,O.v,R.v]::rs))) rfl (_,_,_) (a.k4m) rfl ?_ ?_
 ·clear a
  rintro ⟨N,O,R⟩ g w a
  refine z 2 0 ?_
  refine bE c fun d9 c0 c=>yh (rMk a K3 e0 c0) fun B w a=>?_
  refine z 4 10 ?_;intro s e1 c C t w a a8 w a w a
  refine cIn c (fun c1 c=>?_) fun c1 c=>?_
  ·refine z 2 4 ?_
   refine bE c fun a9 c2 c=>?_
   refine lp c2 [5,6,14,15,91,92] (fun (S,T)=>[(93,iV T)]) (fun (S,T)=>St w0 mu (row 3 I1 j.v d::row 3 I1 h.v b::row 4 rB B.v S::row 3 I1 C.v s.1::row 3 I1 t.v s.2.1::box a8 169 [C.v,t.v]::rs)) (fun | a9=>(.exit 4,[],St w0 mu (row 3 I1 h.v b::row 4 rB B.v a9::row 3 I1 C.v s.1::row 3 I1 t.v s.2.1::box a8 169 [C.v,t.v]::rs))) rfl ((a.k4n).fc) rfl ?_ ?_
   ·clear a
    intro g w a
    refine z 2 4 ?_
    refine bE c fun b0 c3 c=>?_
    refine lp c3 [6,14,105,106] (fun (U,V)=>[(107,iV V)]) (fun (U,V)=>St w0 mu (row 3 I1 h.v b::row 4 rB B.v U::row 3 I1 t.v s.2.1::rs)) (fun | b0=>(.exit 6,[],St w0 mu (row 4 rB B.v b0::rs))) rfl (a.k4o) rfl ?_ ?_
    ·clear a
     intro g w a
     refine q 9 rfl ?_
     cases c
     exact a4 _ _ _ (X1 results69 ⟨rfl,rfl⟩ ⟨_,rfl,a⟩)
    rintro ⟨U,V⟩ g w e2 a c
    refine q 6 rfl (cI c (fun c4 c=>?_) fun c4 c=>?_)
    ·refine z 4 0 ?_;intro e3 e4 c e5 e6 c
     refine bE c fun e7 b1 c=>y (yIs K3 e0 e0 a rO1 b1) ?_
     replace a:=a.k10
     refine yt (V1 (cs:=[.bool true]) a O_4 rfl e0 rfl rfl mkB b1) fun w a=>q 7 rfl ?_
     cases c
     exact lo (a.k1j)
    ·refine q 2 rfl ?_
     cases c
     exact xo (a.k13)
   rintro ⟨S,T⟩ g w e8 a c
   refine q 6 rfl (cI c (fun c5 c=>?_) fun c5 c=>?_)
   ·refine z 4 0 ?_;intro e9 f0 c f1 f2 c
    refine bE c fun f3 b2 c=>y (yIs K3 e0 e0 a rO2 b2) ?_
    replace a:=a.k16
    refine yt (V1 (cs:=[.bool true]) a O_4 rfl e0 rfl rfl mkB b2) fun w a=>q 7 rfl ?_
    cases c
    exact lo (a.k4p)
   ·refine q 2 rfl ?_
    cases c
    exact xo (a.k4f)
  ·refine q 8 rfl ?_
   cases c
   exact a4 _ _ _ (X1 results69 ⟨rfl,rfl⟩ ⟨_,rfl,((a.k4q).fc)⟩)
 rintro ⟨k,J,K,L⟩ ⟨e,x,A⟩ g w f4 a c
 refine q 6 rfl (cI c (fun c6 c=>?_) fun c6 c=>?_)
 ·refine z 3 4 ?_;intro f5 f6 c
  obtain ⟨⟨u,b3⟩,c7,c⟩:=bs c
  refine lpN (Hdr×Hdr) (Hdr×Hdr) c7 [2,5,6,7,9,33,34,35,39,40] (fun (W,X,f) (r,m)=>[(41,iV f)]) (fun (W,X,f) (r,m)=>St w0 mu (box o 32 [i.v]::row 3 I1 j.v d::row 3 I1 h.v b::row 3 I1 e.v k::row 3 I1 r.v W::row 56 iu m.v X::box p 27 [iV (d.length:Int),iV (b.length:Int),e.v,r.v,m.v]::rs)) (fun | (u,b3),(Z,a0)=>(.exit 2,[],St w0 mu (box o 32 [i.v]::row 3 I1 j.v d::row 3 I1 h.v b::row 3 I1 e.v k::row 3 I1 Z.v u::row 56 iu a0.v b3::box p 27 [iV (d.length:Int),iV (b.length:Int),e.v,Z.v,a0.v]::rs))) rfl (_,_) a rfl ?_ ?_
  ·clear a
   rintro ⟨Z,a0⟩ g w a
   refine z 3 0 ?_
   refine yh (rLt (n:=1) (l:=[(u.length:Int)]) a N0 [iV (u.length:Int)] (bp1 e0) rfl rfl (J1 (cs:=[iV (u.length:Int)]) rfl mkI L1)) fun f7 w a=>?_
   refine z 2 7 ?_;intro f8 f9 c g0 w a w a
   cases c
   exact ln (_,_,_) (a.k4r)
  rintro ⟨W,X,f⟩ ⟨r,m⟩ g w c8 a c
  refine q 6 rfl (cI c (fun c9 c=>?_) fun c9 c=>?_)
  ·refine z 4 0 ?_;intro g1 g2 c g3 d0 c
   obtain ⟨g4,a⟩:=iLs a b8 d0
   refine y (yCt P0 e0 a F1 rfl) ?_
   refine z 1 12 ?_;intro g5 g6 c w a
   refine jC (LI×LI×Hdr×Hdr) [2,5,6,7,9,33,34,35,39,40,41] (fun (D,E,F,G)=>[]) (fun (D,E,F,G) w=>St w0 mu (box o 32 [i.v]::row 3 I1 j.v d::row 3 I1 h.v b::row 3 I1 e.v k::row 3 I1 F.v D::row 56 iu G.v E::box p 27 [iV (d.length:Int),iV (b.length:Int),e.v,F.v,G.v]::rs) w∧m_ge f D E=some c8) rfl ?_ ?_
   ·rintro ⟨D,E,F,G⟩ g w ⟨a,c⟩
    refine q 6 rfl ?_
    cases c
    exact ln (_,_) a
   refine cJ c (fun d1 c=>?_) fun d1 c=>?_
   ·refine bE c fun d2 g7 c=>bE c fun d3 g8 c=>?_
    refine jN (Hdr×Hdr) [2,5,6,7,9,33,34,35,39,40,41] (fun (H,I)=>[]) (fun (H,I)=>St w0 mu (box o 32 [i.v]::row 3 I1 j.v d::row 3 I1 h.v b::row 3 I1 e.v k::row 3 I1 H.v d2::row 56 iu I.v d3::box p 27 [iV (d.length:Int),iV (b.length:Int),e.v,H.v,I.v]::rs)) rfl ?_ ?_
    ·refine dS [3,4,7,8,10,12] 6 V0 ?_
     replace a:=a.drew
     refine Dm 103 0 [3,7] ?_
     refine z 2 0 ?_
     refine La1 rfl ?_ (La1 rfl ?_ LAn)
     ·refine LH wn (rLt (n:=1) (l:=[f]) a N0 [iV f] (bp1 e0) rfl rfl (J1 (cs:=[iV f]) rfl mkI L1)) fun d4 w a=>dU (Dm 0 99 [4,7] (Rn (qS rfl (sY rfl (lb_ r.v P0 e0 a R7) (qS rfl (sY rfl (lb_ m.v T3 e0 a R7) QSn)))) ?_))
      refine La1 rfl ?_ (La1 rfl ?_ LAn)
      ·refine z 1 0 ?_;intro b4 w a
       refine dU (D1 512 96 7 rfl (qR 1 rfl (Rn (qS rfl (sY rfl (lb_ m.v T3 e0 a R7) QSn)) (LH wn (rLt (n:=1) (l:=[4607182418800017408]) a E2 [.int .u64 4607182418800017408] (bp1 rfl) rfl rfl (J1 (cs:=[.int .u64 4607182418800017408]) rfl mkI L1)) fun b6 w a=>dU ?_))))
       refine z 3 0 ?_;intro b7 w a w a w a
       exact Dw 0 0 (Rn QSn (jr (_,_) ((a.k4s).fc)))
      ·refine LH wn (rLt (n:=1) (l:=[4607182418800017408]) a E2 [.int .u64 4607182418800017408] (bp1 rfl) rfl rfl (J1 (cs:=[.int .u64 4607182418800017408]) rfl mkI L1)) fun b6 w a=>dU ?_
       exact Sq
     ·refine LH wn (rLt (n:=1) (l:=[4607182418800017408]) a E2 [.int .u64 4607182418800017408] (bp1 rfl) rfl rfl (J1 (cs:=[.int .u64 4607182418800017408]) rfl mkI L1)) fun b6 w a=>dU (D1 0 103 3 rfl (Rn (qS rfl (sY rfl (lb_ r.v P0 e0 a R7) (qS rfl (qS rfl (sY rfl (lb_ m.v T3 e0 a R7) QSn))))) (LH wn (rLt (n:=1) (l:=[f]) a N0 [iV f] (bp1 e0) rfl rfl (J1 (cs:=[iV f]) rfl mkI L1)) fun d4 w a=>dU ?_)))
      exact Sq
    rintro ⟨H,I⟩ g w a
    exact jx (_,_,_,_) ⟨a,c⟩
   ·exact q 1 rfl (jx (_,_,_,_) ⟨(a.fc),c⟩)
  ·refine q 2 rfl ?_
   cases c
   exact lx (_,_) a
 ·refine q 2 rfl ?_
  cases c
  exact lx (_,_,_) a
instance:CL prog 69 (type_of% @Zg):=⟨@Zg⟩
theorem Cm {N:L2} {i:Hdr} {out:LI×LI×LI} (c:m_gl N=some out) (F:imm S1 i.v N∈mu) (a:St w0 mu rs w):
  Calls prog 31 #[.agg #[i.v]] w (fun e w=>∃ (O R S:Hdr),e=.returned (.agg #[O.v,R.v,S.v])∧St w0 mu (row 3 I1 O.v out.1::row 3 I1 R.v out.2.1::row 3 I1 S.v out.2.2::rs) w):=by
 refine en func31 rfl ntmps31 fun Q a0=>q 2 rfl (yb (W5 (vals:=[i.v]) a e0 rfl) fun b6 w a=>yb (rAl a Cf) fun k w a=>q 4 rfl (y (A1 [i.v] Z3 e0 a R1) (bE c fun b7 a1 c=>cR_ (Wg a1 F a) fun b8 b9 c0 w a=>bE c fun G a2 c=>?_)))
 replace a:=a.fz.fz
 refine cO (Vg a2 F2 F1 F0 a) fun H w a=>q 9 rfl (y (A1 [i.v] Z3 e0 a R2) (bE c fun I a3 c=>q 1 rfl ?_))
 replace a:=a.fz
 refine cO (Zg a3 (F_4 F) F0 a) fun J w a=>q 5 rfl (yb (rAl a Cf) fun m w a=>q 6 rfl (y (lb_ i.v M4 e0 a R3) (y (T1 Q4 e0 a (rdI (F_4 F))) (q 4 rfl ?_))))
 obtain ⟨⟨T,U,V⟩,a4,c⟩:=bs c
 replace a:=((a.rowNh 3 I1).rowNh 3 I1).rowNh 3 I1
 refine lpN (Hdr×Hdr×Hdr) (Hdr×Hdr×Hdr) a4 [2,3,5,6,19] (fun (K,L,j,b) (f,h,d)=>[(20,iV b)]) (fun (K,L,j,b) (f,h,d)=>St w0 (imm I1 H.v G.1::mu) (box k 37 [hnil.v,hnil.v,hnil.v]::row 4 rB J.v I::row 3 I1 f.v K::row 3 I1 h.v L::row 3 I1 d.v j::box m 37 [f.v,h.v,d.v]::rs)) (fun | (T,U,V),(o,p,r)=>(.exit 0,[],St w0 mu (box k 37 [hnil.v,hnil.v,hnil.v]::row 3 I1 o.v T::row 3 I1 p.v U::row 3 I1 r.v V::box m 37 [o.v,p.v,r.v]::rs))) rfl (_,_,_) ((a.k4u).facts (U0 F0 (M0 (M0 (M0 (M0 M1)))))) rfl ?_ ?_
 ·clear a
  rintro ⟨o,p,r⟩ g w a
  refine q 4 rfl (y (A1 [o.v,p.v,r.v] Db e0 a R4) (sB rfl a Db fun w a=>q 3 rfl ?_))
  cases c
  exact a0 _ _ _ (X1 results31 (V2 rfl rfl a R0 Db rfl) ⟨_,_,_,rfl,(a.k3g)⟩)
 rintro ⟨K,L,j,b⟩ ⟨f,h,d⟩ g w W a c
 refine q 6 rfl (cI c (fun a5 c=>?_) fun a5 c=>?_)
 ·refine q 15 rfl (bE c fun c1 X c=>y (yIa K3 e0 e0 a rO1 X) (y (yB O_4 e0 a rO1 X) (q 3 rfl ?_)))
  refine jC (LI×LI×LI×Hdr×Hdr×Hdr) [2,3,5,6,19,20] (fun (s,t,u,x,z,A)=>[]) (fun (s,t,u,x,z,A) w=>St w0 (imm I1 H.v G.1::mu) (box k 37 [hnil.v,hnil.v,hnil.v]::row 4 rB J.v I::row 3 I1 x.v s::row 3 I1 z.v t::row 3 I1 A.v u::box m 37 [x.v,z.v,A.v]::rs) w∧m_gi b s t u=some W) rfl ?_ ?_
  ·rintro ⟨s,t,u,x,z,A⟩ g w ⟨a,c⟩
   refine q 7 rfl ?_
   cases c
   exact ln (_,_,_) a
  refine cJ c (fun a6 c=>?_) fun a6 c=>?_
  ·refine q 2 rfl (y (lb_ d.v P0 e0 a R5) (q 1 rfl (yh (rLt (n:=1) (l:=[b]) a N0 [iV b] (bp1 e0) rfl rfl (J1 (cs:=[iV b]) rfl mkI L1)) fun c2 w a=>bE c fun c3 a7 c=>?_)))
   replace a:=a.k2q
   refine yh (rAp a N0 e0 e0 rO1 a7) fun a8 w a=>q 1 rfl ?_
   replace a:=a.k3i
   exact yt (Yb (ru:=[f.v,h.v,a8.v]) a P0 e0 e0 rfl rfl rfl rfl) fun w a=>q 1 rfl (jx (_,_,_,_,_,_) ⟨(a.k4v),c⟩)
  ·refine q 4 rfl (bE c fun c4 Z c=>y (yIa N0 e0 e0 a (rdI F0) Z) (y (yI O_3 e0 a (rdI F0) Z) (q 4 rfl ?_)))
   refine jC (LI×LI×Hdr×Hdr) [2,3,5,6,19,20] (fun (B,C,D,E)=>[]) (fun (B,C,D,E) w=>St w0 (imm I1 H.v G.1::mu) (box k 37 [hnil.v,hnil.v,hnil.v]::row 4 rB J.v I::row 3 I1 D.v B::row 3 I1 E.v C::row 3 I1 d.v j::box m 37 [D.v,E.v,d.v]::rs) w∧m_gj b j B C=some W) rfl ?_ ?_
   ·rintro ⟨B,C,D,E⟩ g w ⟨a,c⟩
    exact jx (_,_,_,_,_,_) ⟨a,c⟩
   refine cI c (fun a9 c=>?_) fun a9 c=>?_
   ·refine q 2 rfl (y (lb_ f.v P0 e0 a R5) (q 1 rfl (yh (rLt (n:=1) (l:=[b]) a N0 [iV b] (bp1 e0) rfl rfl (J1 (cs:=[iV b]) rfl mkI L1)) fun c5 w a=>bE c fun c6 b0 c=>?_)))
    replace a:=a.k1d
    refine yh (rAp a N0 e0 e0 rO1 b0) fun b1 w a=>q 1 rfl ?_
    replace a:=a.k3i
    exact yt (Yb (ru:=[b1.v,h.v,d.v]) a P0 e0 e0 rfl rfl rfl rfl) fun w a=>q 1 rfl (jx (_,_,_,_) ⟨(a.k3l),c⟩)
   ·refine q 2 rfl (y (lb_ h.v P0 e0 a R5) (q 1 rfl (yh (rLt (n:=1) (l:=[b]) a N0 [iV b] (bp1 e0) rfl rfl (J1 (cs:=[iV b]) rfl mkI L1)) fun c7 w a=>bE c fun c8 b2 c=>?_)))
    replace a:=a.k1o
    refine yh (rAp a N0 e0 e0 rO1 b2) fun b5 w a=>q 1 rfl ?_
    replace a:=a.k3i
    exact yt (Yb (ru:=[f.v,b5.v,d.v]) a P0 e0 e0 rfl rfl rfl rfl) fun w a=>q 1 rfl (jx (_,_,_,_) ⟨(a.k4w),c⟩)
 ·refine q 2 rfl ?_
  cases c
  exact lx (_,_,_) ((a.k3q).fc)
instance:CL prog 31 (type_of% @Cm):=⟨@Cm⟩
theorem Yg {b:L2} {d:Hdr} {out:LI×LI×LI×Int} (c:m_gm b=some out) (j:imm S1 d.v b∈mu) (a:St w0 mu rs w):
  Calls prog 8 #[.agg #[d.v]] w (fun e w=>∃ (f g h:Hdr),e=.returned (.tuple #[.agg #[f.v,g.v,h.v],iV out.2.2.2])∧St w0 mu (row 3 I1 f.v out.1::row 3 I1 g.v out.2.1::row 3 I1 h.v out.2.2.1::rs) w):=by
 refine en func8 rfl ntmps8 fun Q i=>?_
 refine v 0 ?_
 refine fun _ _ _ _ _ _ _ _ _ _ a=>⟨vt,fun _ c _ a=>?_⟩
 cases c
 replace a:=((a.rowNh 3 I1).rowNh 3 I1).rowNh 3 I1
 exact i _ _ _ (M3 results8 (V2 rfl rfl a R3 Db rfl) ⟨rfl,rfl⟩ ⟨_,_,_,rfl,(a.k4x)⟩)
instance:CL prog 8 (type_of% @Yg):=⟨@Yg⟩
theorem Bm {k:L2} {l:Hdr} {out:(List BL)} (c:m_gp k=some out) (r:imm S1 l.v k∈mu) (a:St w0 mu rs w):
  Calls prog 173 #[.agg #[l.v]] w (fun e w=>∃ (m:Hdr) (n:List Hdr),e=.returned (m.v)∧St w0 mu (row 95 rH m.v n::fam 4 rB n out::rs) w):=by
 refine en func173 rfl ntmps173 fun Q s=>?_
 refine z 6 4 ?_;intro E w a F G c d b w a
 refine bE c fun o t c=>?_
 refine lp t [3,13,14] (fun (f,h)=>[(15,iV h)]) (fun (f,h)=>St w0 mu (row 95 rH d.v b::fam 4 rB b f::rs)) (fun | o=>(.exit 0,[],St w0 mu (row 95 rH d.v b::fam 4 rB b o::rs))) rfl (a.k24) rfl ?_ ?_
 ·clear a
  intro g w a
  refine q 9 rfl ?_
  cases c
  exact s _ _ _ (X1 results173 ⟨rfl,rfl⟩ ⟨_,_,rfl,a⟩)
 rintro ⟨f,h⟩ g w H a c
 refine q 6 rfl (cI c (fun u c=>?_) fun u c=>?_)
 ·refine z 1 0 ?_;intro x A c
  obtain ⟨B,a⟩:=iLs a r A
  refine y (yCt P0 e0 a F1 rfl) ?_
  refine z 1 4 ?_
  refine bE c fun p C c=>?_
  refine lp C [3,4,13,14,15,20,21] (fun (i,j)=>[(22,iV j)]) (fun (i,j)=>St w0 (imm I1 B.v x::mu) (row 95 rH d.v b::fam 4 rB b i::rs)) (fun | p=>(.exit 2,[],St w0 mu (row 95 rH d.v b::fam 4 rB b p::rs))) rfl (a.facts (U0 F0 (M0 (M0 M1)))) rfl ?_ ?_
  ·clear a
   intro g w a
   refine q 7 rfl ?_
   cases c
   exact lo a
  rintro ⟨i,j⟩ g w I a c
  refine q 6 rfl (cI c (fun D c=>?_) fun D c=>?_)
  ·refine z 3 7 ?_;intro J K c L N c w a
   cases c
   exact lo a
  ·refine q 2 rfl ?_
   cases c
   exact xo (a.fc)
 ·refine q 2 rfl ?_
  cases c
  exact xo a
instance:CL prog 173 (type_of% @Bm):=⟨@Bm⟩
theorem Xg {j:L2} {i:Hdr} {out:(List BL)×BL} (c:m_gq j=some out) (p:imm S1 i.v j∈mu) (a:St w0 mu rs w):
  Calls prog 125 #[.agg #[i.v]] w (fun e w=>∃ (k:Nat) (l:Hdr) (m:List Hdr) (n:Hdr),e=.returned (pB k)∧St w0 mu (row 95 rH l.v m::fam 4 rB m out.1::row 4 rB n.v out.2::box k 175 [l.v,n.v]::rs) w):=by
 refine en func125 rfl ntmps125 fun Q r=>?_
 refine z 1 4 ?_;intro B w a
 refine bE c fun s C c=>bE c fun t o c=>?_
 refine jN (Nat×Hdr×(List Hdr)×Hdr) [] (fun (b,d,f,h)=>[(2,(pB b))]) (fun (b,d,f,h)=>St w0 mu (row 95 rH d.v f::fam 4 rB f s::row 4 rB h.v t::box b 175 [d.v,h.v]::rs)) rfl ?_ ?_
 ·refine dS [1,5,7,8] 4 V0 ?_
  replace a:=a.drew
  refine Dm 29 0 [1,5] ?_
  refine z 3 0 ?_
  refine La1 rfl ?_ (La1 rfl ?_ LAn)
  ·refine z 1 0 ?_;intro u x w a
   refine dU (D1 0 28 5 rfl (Rn (qS rfl (sY rfl (lb_ i.v M4 e0 a R2) (sY rfl (T1 Q4 e0 a (rdI p)) QSn))) (LH wn (rMk a K3 e0 o) fun y w a=>dU ?_)))
   refine z 3 0 ?_;intro A w a
   exact dU (Dw 0 0 (Rn QSn (jr (_,_,_,_) (a.k4y))))
  ·refine LH wn (rMk a K3 e0 o) fun y w a=>dU ?_
   refine z 4 0 ?_;intro u x w a A w a
   exact dU (Dw 0 0 (Rn QSn (jr (_,_,_,_) (a.k4z))))
 rintro ⟨b,d,f,h⟩ g w a
 refine q 2 rfl ?_
 cases c
 exact r _ _ _ (X1 results125 ⟨rfl,rfl⟩ ⟨_,_,_,_,rfl,a⟩)
instance:CL prog 125 (type_of% @Xg):=⟨@Xg⟩
theorem Am {u:List BL} {i:BL} {x:Int} {h:Nat} {b:Hdr} {d:List Hdr} {f:Hdr} {out:(List BL)×BL×LI} (c:m_gt u i x=some out) (a:St w0 mu (box h 175 [b.v,f.v]::row 95 rH b.v d::fam 4 rB d u::row 4 rB f.v i::rs) w):
  Calls prog 126 #[(pB h),iV x] w (fun e w=>∃ (A:Hdr),e=.returned (A.v)∧St w0 (imm I1 A.v out.2.2::mu) (row 95 rH b.v d::fam 4 rB d out.1::row 4 rB f.v out.2.1::box h 175 [b.v,f.v]::rs) w):=by
 refine en func126 rfl ntmps126 fun Q J=>?_
 refine z 1 1 ?_
 refine bE c fun n K c=>?_
 have B:=a
 replace a:=(a.k1i).ffz
 have j:=a.guest0
 replace a:=B
 clear B
 refine yC (S7 Rt (a2 e0 e0)) (Zd K F0 j) ?_
 clear j
 rintro _ w ⟨k,rfl,j⟩
 replace a:=a.back1 j
 clear j
 refine ⟨_,rfl,?_⟩
 refine nf ?_
 refine z 1 4 ?_
 refine bE c fun C L c=>?_
 replace a:=a.fz
 refine lp L [0,1,5,16,17] (fun (p,o)=>[(18,iV o)]) (fun (p,o)=>St w0 (imm I1 k.v n::mu) (row 95 rH b.v d::fam 4 rB d p::row 4 rB f.v i::box h 175 [b.v,f.v]::rs)) (fun | C=>(.exit 0,[],St w0 (imm I1 k.v n::mu) (row 95 rH b.v d::fam 4 rB d C::row 4 rB f.v i::box h 175 [b.v,f.v]::rs))) rfl (a.k1n) rfl ?_ ?_
 ·clear a
  intro g w a
  refine z 1 1 ?_
  refine bE c fun W D c=>y (yIs K3 e0 e0 a rO2 D) ?_
  replace a:=a.k16
  refine yt (V1 (cs:=[.bool true]) a O_4 rfl e0 rfl rfl mkB D) fun w a=>q 9 rfl ?_
  cases c
  exact J _ _ _ (X1 results126 ⟨rfl,rfl⟩ ⟨_,rfl,(a.k32)⟩)
 rintro ⟨p,o⟩ g w X a c
 refine q 6 rfl (cI c (fun N c=>?_) fun N c=>?_)
 ·refine z 2 9 ?_;intro Z a0 c
  refine bE c fun O E c=>y (ySl (k1:=.i64) N0 e0 a (rdI F0) (.inr ⟨rfl,rfl⟩) (.inl (S0 some e0)) E) ?_
  replace a:=a.sub F0 E
  refine z 1 4 ?_
  refine bE c fun F R c=>?_
  refine lp R [0,1,5,7,16,17,18,25,26] (fun (r,s)=>[(27,iV s)]) (fun (r,s)=>St w0 (imm I1 k.v n::imm I1 (subH k 1 0 o).v O::mu) (row 95 rH b.v d::fam 4 rB d r::row 4 rB f.v i::box h 175 [b.v,f.v]::rs)) (fun | F=>(.exit 2,[],St w0 (imm I1 k.v n::mu) (row 95 rH b.v d::fam 4 rB d F::row 4 rB f.v i::box h 175 [b.v,f.v]::rs))) rfl (a.facts (U0 F1 (U0 F0 (M0 (M0 M1))))) rfl ?_ ?_
  ·clear a
   intro g w a
   refine bE c fun a1 t c=>bE c fun a3 S c=>bE c fun a4 G c=>bE c fun a5 T c=>bE c fun a6 H c=>bE c fun a7 I c=>bE c fun a8 U c=>q 2 rfl (dS [17,19] 2 V0 ?_)
   replace a:=a.drew
   refine D0 131071 0 17 rfl (qR 3 rfl (rQ rfl (lb_ b.v Xi e0 a R3) (qR 1 rfl ?_)))
   obtain ⟨a9,l⟩:=a.famI R1 t
   refine rQ rfl (yIa na e0 e0 a rO0 l) (rQ rfl (yF1 qa e0 a rO0 l rfl) (qR 4 rfl (rQ rfl (lb_ b.v Xi e0 a R3) (qR 1 rfl ?_))))
   obtain ⟨b0,m⟩:=a.famI R1 S
   refine rQ rfl (yIa na e0 e0 a rO0 m) (rQ rfl (yF1 qa e0 a rO0 m rfl) (qR 1 rfl (rQ rfl (yIs K3 e0 e0 a (rdF R1 l t) G) (Rn QSn ?_))))
   replace a:=a.k10
   refine LT wn (V1 (cs:=[.bool false]) (a.foc l t) O_4 rfl e0 rfl rfl mkB G) fun w a=>?_
   replace a:=a.unfoc' l T
   refine D0 262144 32768 19 rfl (rQ rfl (yIs K3 e0 e0 a (rdF R0 m H) I) (Rn (qS rfl QSn) (LT wn (V1 (cs:=[.bool false]) (a.foc m H) O_4 rfl e0 rfl rfl mkB I) fun w a=>?_)))
   replace a:=a.unfoc' m U
   refine z 1 6 ?_
   cases c
   exact lo (a.k46)
  rintro ⟨r,s⟩ g w b2 a c
  refine q 6 rfl (cI c (fun V c=>?_) fun V c=>?_)
  ·refine z 4 7 ?_;intro b3 b4 c b5 b6 c w a
   cases c
   exact lo a
  ·refine q 2 rfl ?_
   cases c
   exact xo (a.facts (U0 F0 (M0 (M0 M1))))
 ·refine q 2 rfl ?_
  cases c
  exact xo a
instance:CL prog 126 (type_of% @Am):=⟨@Am⟩
theorem zm {u:L2} {i:Hdr} {out:LI×Int} (c:m_gx u=some out) (D:imm S1 i.v u∈mu) (a:St w0 mu rs w):
  Calls prog 70 #[.agg #[i.v]] w (fun e w=>∃ (x:Hdr),e=.returned (.tuple #[x.v,iV out.2])∧St w0 mu (row 3 I1 x.v out.1::rs) w):=by
 refine en func70 rfl ntmps70 fun Q E=>?_
 refine v 0 ?_
 refine fun n _ _ _ _ _ w a=>⟨fun _ c=>?_,fun _ c=>?_⟩
 ·refine bE c fun K F c=>yC (S7 AD (a1 e0)) (Xg F D a) ?_
  rintro _ w ⟨o,b,d,f,rfl,a⟩
  refine ⟨_,rfl,?_⟩
  refine nf ?_
  refine z 2 4 ?_
  refine bE c fun A G c=>?_
  replace a:=a.rowNh 3 I1
  refine lpN Hdr Hdr G [1,5,20] (fun (j,k,l,p) h=>[(6,h.v),(21,iV p)]) (fun (j,k,l,p) h=>St w0 mu (box n 32 [i.v]::row 95 rH b.v d::fam 4 rB d j::row 4 rB f.v k::box o 175 [b.v,f.v]::row 3 I1 h.v l::rs)) (fun | A,q=>(.exit 0,[(6,q.v)],St w0 mu (row 3 I1 q.v A::rs))) rfl _ (a.k50) rfl ?_ ?_
  ·clear a
   rintro q g w a
   exact vx
  rintro ⟨j,k,l,p⟩ h g w L a c
  refine v 0 ?_
  refine ⟨fun _ c=>?_,vt⟩
  refine bE c fun B H c=>?_
  refine lp H [1,5,6,20,21,25] (fun (r,s,t)=>[(7,iV r),(8,iV s),(26,iV t)]) (fun (r,s,t)=>St w0 mu (box n 32 [i.v]::row 95 rH b.v d::fam 4 rB d j::row 4 rB f.v k::box o 175 [b.v,f.v]::row 3 I1 h.v l::rs)) (fun | B=>(.exit 2,[(7,iV B)],St w0 mu (box n 32 [i.v]::row 95 rH b.v d::fam 4 rB d j::row 4 rB f.v k::box o 175 [b.v,f.v]::row 3 I1 h.v l::rs))) rfl a rfl ?_ ?_
  ·clear a
   intro g w a
   exact vx
  rintro ⟨r,s,t⟩ g w N a c
  refine v 0 ?_
  refine ⟨fun _ c=>?_,vt⟩
  refine bE c fun O I c=>?_
  have C:=a
  replace a:=(a.k1i).ffz
  have m:=a.guest0
  replace a:=C
  clear C
  refine yC (S7 Rt (a2 e0 e0)) (Zd I F0 m) ?_
  clear m
  rintro _ w ⟨R,rfl,m⟩
  replace a:=a.back1 m
  clear m
  refine ⟨_,rfl,?_⟩
  refine nf ?_
  refine z 3 0 ?_;intro S J c
  exact y (yB O_4 e0 a rO4 J) vx
 ·cases c
  replace a:=a.rowNh 3 I1
  exact E _ _ _ (M3 results70 ⟨rfl,rfl⟩ ⟨rfl,rfl⟩ ⟨_,rfl,(a.k11)⟩)
instance:CL prog 70 (type_of% @zm):=⟨@zm⟩
theorem Qg {f:Int} {g:L2} {b:Nat} {d:Hdr} {out:Bool} (c:m_gy f g=some out) (h:imm S1 d.v g∈mu) (a:St w0 mu (box b 32 [d.v]::rs) w):
  Calls prog 128 #[iV f,(pB b)] w (fun e w=>e=.returned (.bool out)∧St w0 mu (box b 32 [d.v]::rs) w):=by
 exact en func128 rfl ntmps128 fun Q i=>vx
instance:CL prog 128 (type_of% @Qg):=⟨@Qg⟩
theorem w_db {h:LI} {i:L2} {j:Hdr} {b:Nat} {d:Hdr} {out:Int} (c:m_g0 h i=some out) (p:imm I1 j.v h∈mu) (l:imm S1 d.v i∈mu) (a:St w0 mu (box b 32 [d.v]::rs) w):
  Calls prog 174 #[j.v,.func (.func 128) #[] #[(pB b)]] w (fun e w=>e=.returned (iV out)∧St w0 mu (box b 32 [d.v]::rs) w):=by
 refine en func174 rfl ntmps174 fun Q q=>?_
 refine z 1 4 ?_
 refine bE c fun m n c=>?_
 refine lp n [0,1,7] (fun f=>[(8,iV f)]) (fun f=>St w0 mu (box b 32 [d.v]::rs)) (fun | .inl ()=>(.exit 0,[],St w0 mu (box b 32 [d.v]::rs)) | .inr k=>(.ret,[(4,iV k)],St w0 mu (box b 32 [d.v]::rs))) rfl a rfl ?_ ?_
 ·clear a
  intro g w a
  rcases m with ⟨⟩ | k
  ·exact vx
  ·exact vx
 rintro f g w r a c
 refine v 0 ?_
 refine ⟨fun _ _ _ _ c=>?_,vt⟩
 refine bE c fun s o c=>yC (A8 zD e0 (a1 e0)) (Qg o l a) ?_
 rintro _ w ⟨rfl,a⟩
 refine ⟨_,rfl,?_⟩
 exact nf vx
theorem w_dc {f:LI} {g:L2} {h:Hdr} {b:Nat} {d:Hdr} {out:Bool} (c:m_g1 f g=some out) (i:imm I1 h.v f∈mu) (j:imm S1 d.v g∈mu) (a:St w0 mu (box b 32 [d.v]::rs) w):
  Calls prog 127 #[h.v,.func (.func 128) #[] #[(pB b)]] w (fun e w=>e=.returned (.bool out)∧St w0 mu (box b 32 [d.v]::rs) w):=by
 exact en func127 rfl ntmps127 fun Q l=>bE c fun m k c=>q 9 rfl (cZ (w_db k i j a) fun w a=>vx)
theorem Sl {d:LI} {b:Hdr} {out:Unit} (c:m_g2 d=some out) (h:imm I1 b.v d∈mu) (a:St w0 mu rs w):
  Calls prog 177 #[b.v] w (fun e w=>∃ (f:Nat),e=.returned (.func (.func 204) #[] #[(pB f)])∧St w0 mu (box f 24 [b.v]::rs) w):=by
 refine en func177 rfl ntmps177 fun Q i=>?_
 refine z 1 5 ?_;intro g w a
 exact y (ymf (vf:=#[]) (vc:=#[(pB g)]) a0 (a1 e0)) vx
instance:CL prog 177 (type_of% @Sl):=⟨@Sl⟩
theorem Rl {f:LI} {b:Nat} {d:Hdr} {out:LI} (c:m_g3 f=some out) (h:imm I1 d.v f∈mu) (a:St w0 mu (box b 24 [d.v]::rs) w):
  Calls prog 203 #[.func (.func 204) #[] #[(pB b)]] w (fun e w=>∃ (g:Hdr),e=.returned (g.v)∧St w0 mu (box b 24 [d.v]::row 3 I1 g.v out::rs) w):=by
 exact en func203 rfl ntmps203 fun Q j=>bE c fun k i c=>q 8 rfl (cO (eC i h a) fun l w a=>vx)
instance:CL prog 203 (type_of% @Rl):=⟨@Rl⟩
theorem Ql {f:LI} {b:Nat} {d:Hdr} {out:LI} (c:m_g4 f=some out) (i:imm I1 d.v f∈mu) (a:St w0 mu (box b 24 [d.v]::rs) w):
  Calls prog 176 #[.func (.func 204) #[] #[(pB b)]] w (fun e w=>∃ (g:Hdr),e=.returned (g.v)∧St w0 mu (box b 24 [d.v]::row 3 I1 g.v out::rs) w):=by
 refine en func176 rfl ntmps176 fun Q j=>?_
 refine z 1 6 ?_;intro k l c m w a
 refine bE c fun n h c=>?_
 replace a:=a.k10
 exact cZ (nh h a) fun w a=>vx
instance:CL prog 176 (type_of% @Ql):=⟨@Ql⟩
theorem mi {p:Prop}(h:p:=by
  cases c
  replace a:=a.rowNh 24 S1
  exact b _ _ _ (M3 results71 (V2 rfl rfl a R1 Z3 rfl) ⟨rfl,rfl⟩ ⟨_,rfl,(a.k1l)⟩)):p:=h
theorem xc {p:Prop}(h:p:=by
  refine q 2 rfl ?_
  cases c
  exact xo a):p:=h
theorem ki {p:Prop}(h:p:=by exact k _ _ _ (M3 results72 ⟨rfl,rfl⟩ ⟨rfl,rfl⟩ ⟨_,rfl,a⟩)):p:=h
theorem Rq {p:Prop}(h:p:=by
  cases c
  replace a:=a.rowNh 3 I1
  exact j _ _ _ (M3 results9 ⟨rfl,rfl⟩ ⟨rfl,rfl⟩ ⟨_,rfl,(a.k11)⟩)):p:=h
theorem Qq {p:Prop}(h:p:=by
  intro g w a
  refine q 4 rfl ?_
  cases c
  exact r _ _ _ (Jq results243 ⟨rfl,a⟩)):p:=h
theorem Ol {b:LI} {d:Hdr} {out:Bool} (c:m_g5 b=some out) (f:imm I1 d.v b∈mu) (a:St w0 mu rs w):
  Calls prog 130 #[d.v] w (rv w0 mu rs (.bool out)):=by
 refine en func130 rfl ntmps130 fun Q g=>?_
 refine z 2 0 ?_;intro h i c j w a k l c m w a
 refine bE c fun n e c=>?_
 replace a:=a.k10
 exact cO (ZB e a) fun o w a=>vx
instance:CL prog 130 (type_of% @Ol):=⟨@Ol⟩
theorem Nl {o:L2} {p:LI} {d j:Hdr} {out:L2} (c:m_g9 o p=some out) (D:imm S1 d.v o∈mu) (r:imm I1 j.v p∈mu) (a:St w0 mu rs w):
  Calls prog 81 #[.agg #[d.v],j.v] w (fun e w=>∃ (s:Hdr),e=.returned (.agg #[s.v])∧St w0 mu (row 24 S1 s.v out::rs) w):=by
 refine en func81 rfl ntmps81 fun Q E=>?_
 refine z 5 4 ?_;intro k w a f w a F G c h b w a
 refine bE c fun t A c=>?_
 refine lp A [1,2,4,5,13,14] (fun (l,i)=>[(15,iV i)]) (fun (l,i)=>St w0 mu (box k 32 [d.v]::box f 32 [hnil.v]::row 95 rH h.v b::fam 4 rB b l::rs)) (fun | t=>(.exit 0,[],St w0 mu (box f 32 [hnil.v]::row 95 rH h.v b::fam 4 rB b t::rs))) rfl (a.k3v) rfl ?_ ?_
 ·clear a
  intro g w a
  refine bE c fun H I c=>q 5 rfl ?_
  replace a:=(a.k1i).ffz
  exact vx
 rintro ⟨l,i⟩ g w J a c
 refine v 0 ?_
 refine ⟨fun _ _ _ _ c=>?_,vt⟩
 refine bE c fun B u c=>y (ySl (k1:=.i64) N0 e0 a (rdI r) (.inr ⟨rfl,rfl⟩) (.inl (S0 some e0)) u) ?_
 replace a:=a.sub r u
 refine z 1 4 ?_
 refine bE c fun x C c=>?_
 refine lp C [1,2,4,5,6,7,13,14,15,22,23] (fun (m,n)=>[(24,iV n)]) (fun (m,n)=>St w0 (imm I1 (subH j 1 0 i).v B::mu) (box k 32 [d.v]::box f 32 [hnil.v]::row 95 rH h.v b::fam 4 rB b m::rs)) (fun | x=>(.exit 2,[],St w0 mu (box k 32 [d.v]::box f 32 [hnil.v]::row 95 rH h.v b::fam 4 rB b x::rs))) rfl a rfl ?_ ?_
 ·clear a
  intro g w a
  exact vx
 rintro ⟨m,n⟩ g w K a c
 exact vx
instance:CL prog 81 (type_of% @Nl):=⟨@Nl⟩
theorem Ml {d:L2} {f:LI} {g h:Hdr} {out:L2×Int} (c:m_ha d f=some out) (j:imm S1 g.v d∈mu) (k:imm I1 h.v f∈mu) (a:St w0 mu rs w):
  Calls prog 71 #[.agg #[g.v],h.v] w (fun e w=>∃ (i:Hdr),e=.returned (.tuple #[.agg #[i.v],iV out.2])∧St w0 mu (row 24 S1 i.v out.1::rs) w):=by
 refine en func71 rfl ntmps71 fun Q b=>?_
 refine v 0 ?_
 refine fun l _ _ _ _ _ _ _ _ w a=>⟨fun _ c=>?_,fun _ c _ a=>?_⟩
 ·refine y (ymf (vf:=#[]) (vc:=#[(pB l)]) a0 (a1 e0)) (bE c fun n m c=>?_)
  replace a:=a.k10
  refine cZ (w_dc m k j a) fun w a=>?_
  refine v 0 ?_
  refine ⟨fun _ c _ a=>?_,fun _ _ _ _ _ _ a=>⟨fun _ c _ a=>?_,vt⟩⟩
  ·exact mi
  ·exact mi
 ·exact mi
instance:CL prog 71 (type_of% @Ml):=⟨@Ml⟩
theorem w_dj {rec:L2→Int→Option (LI)} (N:∀ {w0:World} {mu:List Fact} {rs:List Res} {w:World} {m:L2} {o:Int} {j:Hdr} {out:LI} (c:rec m o=some out) (O:imm S1 j.v m∈mu) (a:St w0 mu rs w),Calls prog 32 #[.agg #[j.v],iV o] w (ro w0 mu rs 3 I1 out)) {w0:World} {mu:List Fact} {rs:List Res} {w:World} {m:L2} {o:Int} {j:Hdr} {out:LI} (c:m_he rec m o=some out) (O:imm S1 j.v m∈mu) (a:St w0 mu rs w):
  Calls prog 32 #[.agg #[j.v],iV o] w (fun e w=>∃ (H:Hdr),e=.returned (H.v)∧St w0 mu (row 3 I1 H.v out::rs) w):=by
 refine en func32 rfl ntmps32 fun Q I=>?_
 refine z 6 4 ?_;intro r w a p w a w a
 refine jC (LI×LI×LI×Hdr×Hdr×Hdr) [1,2,5] (fun (f,h,k,b,d,i)=>[]) (fun (f,h,k,b,d,i) w=>St w0 mu (box r 32 [j.v]::row 3 I1 b.v f::row 3 I1 d.v h::row 3 I1 i.v k::box p 37 [b.v,d.v,i.v]::rs) w∧m_hd rec m o f h k=some out) rfl ?_ ?_
 ·rintro ⟨f,h,k,b,d,i⟩ g w ⟨a,c⟩
  refine z 2 2 ?_
  refine jW 5 [1,2,5] [(32,.bool ((decide ((f.length:Int)=0)) || (decide ((h.length:Int)=0))))] (St w0 mu (box r 32 [j.v]::row 3 I1 b.v f::row 3 I1 d.v h::row 3 I1 i.v k::box p 37 [b.v,d.v,i.v]::rs)) rfl (fun J=>?_) ?_
  ·refine gB 27 rfl (fun u=>?_) fun u=>?_
   ·exact q 5 rfl (J _ _ a (Z0 (S0 Value.bool (orT u)) rfl))
   ·refine z 2 2 ?_
    exact J _ _ a (Z0 (S0 Value.bool (orF u)) rfl)
  intro g w a
  refine q 2 rfl ?_
  refine cJ c (fun R c=>?_) fun R c=>?_
  ·refine z 2 15 ?_;intro a5 a6 c a7 w a
   cases c
   exact I _ _ _ (X1 results32 ⟨rfl,rfl⟩ ⟨_,rfl,(a.k54)⟩)
  ·refine z 2 0 ?_
   replace a:=(((a.k10).fz).k10).fz
   refine yh (rLt (n:=2) (l:=[f,h]) a Q4 [b.v,d.v] (bp2 e0 e0) rfl rfl (J1 (cs:=[b.v]) rfl (mkS F1) (J1 (cs:=[d.v]) rfl (mkS F0) L1))) fun x w a=>?_
   refine z 1 4 ?_
   refine bE c fun K S c=>?_
   replace a:=a.rowNh 3 I1
   refine lpN Hdr Hdr S [1,2,5,43,44] (fun (A,B) s=>[(8,s.v),(45,iV B)]) (fun (A,B) s=>St w0 (imm I1 b.v f::imm I1 d.v h::mu) (box r 32 [j.v]::row 3 I1 i.v k::box p 37 [b.v,d.v,i.v]::row 3 I1 s.v A::row 24 S1 x.v [f,h]::rs)) (fun | K,C=>(.exit 0,[(8,C.v)],St w0 (imm I1 b.v f::imm I1 d.v h::mu) (row 3 I1 i.v k::box p 37 [b.v,d.v,i.v]::row 3 I1 C.v K::rs))) rfl _ ((a.k55).facts (U0 F1 (U0 F0 (M0 (M0 M1))))) rfl ?_ ?_
   ·clear a
    rintro C g w a
    refine z 2 4 ?_;intro a8 a9 c b0 w a
    cases c
    exact I _ _ _ (X1 results32 ⟨rfl,rfl⟩ ⟨_,rfl,((a.k1l).fc)⟩)
   rintro ⟨A,B⟩ s g w b1 a c
   refine q 6 rfl (cI c (fun T c=>?_) fun T c=>?_)
   ·refine z 1 0 ?_;intro U V c
    obtain ⟨W,X,a⟩:=rLs a rO4 V
    refine y (yCe P0 e0 X rfl) ?_
    refine z 5 1 ?_;intro b2 b3 c b6 w a b7 w a w a
    refine bE c fun Z a0 c=>?_
    replace a:=(a.k10).fz
    refine cO (N a0 F0 a) fun a1 w a=>?_
    refine z 1 4 ?_
    refine bE c fun L a2 c=>?_
    refine lpN Hdr Hdr a2 [1,2,5,10,43,44,45,57,58] (fun (D,E) t=>[(8,t.v),(59,iV E)]) (fun (D,E) t=>St w0 (imm I1 b.v f::imm I1 d.v h::imm I1 W.v U::mu) (box r 32 [j.v]::row 3 I1 i.v k::box p 37 [b.v,d.v,i.v]::row 3 I1 t.v D::row 24 S1 x.v [f,h]::row 3 I1 a1.v Z::rs)) (fun | L,F=>(.exit 2,[(8,F.v)],St w0 (imm I1 b.v f::imm I1 d.v h::mu) (box r 32 [j.v]::row 3 I1 i.v k::box p 37 [b.v,d.v,i.v]::row 3 I1 F.v L::row 24 S1 x.v [f,h]::rs))) rfl _ ((a.k56).facts (U0 F2 (U0 F3 (U0 F1 (M0 (M0 (M0 (M0 M1)))))))) rfl ?_ ?_
    ·clear a
     rintro F g w a
     refine q 7 rfl ?_
     cases c
     exact ln _ a
    rintro ⟨D,E⟩ t g w b8 a c
    refine q 6 rfl (cI c (fun a3 c=>?_) fun a3 c=>?_)
    ·refine z 4 0 ?_;intro b9 c0 c G c1 c
     refine yh (rLt (n:=1) (l:=[G]) a N0 [iV G] (bp1 e0) rfl rfl (J1 (cs:=[iV G]) rfl mkI L1)) fun c2 w a=>?_
     refine z 1 8 ?_;intro c3 c4 c c5 w a
     cases c
     exact ln _ (a.k57)
    ·refine q 2 rfl ?_
     cases c
     exact lx _ ((a.k3u).facts (U0 F0 (U0 F1 (M0 (M0 (M0 M1))))))
   ·refine q 2 rfl ?_
    cases c
    exact lx _ (a.k3g)
 refine cI c (fun a4 c=>?_) fun a4 c=>?_
 ·refine z 3 1 ?_;intro c6 c7 c c8 c9 d0 w a w a
  exact jx (_,_,_,_,_,_) ⟨(a.k4a),c⟩
 ·refine q 1 rfl ?_
  replace a:=((a.rowNh 3 I1).rowNh 3 I1).rowNh 3 I1
  exact jx (_,_,_,_,_,_) ⟨(a.k58),c⟩
theorem w_dk (n:Nat):∀ {w0:World} {mu:List Fact} {rs:List Res} {w:World} {b:L2} {d:Int} {e:Hdr} {out:LI} (c:m_hf n b d=some out) (f:imm S1 e.v b∈mu) (a:St w0 mu rs w),
  Calls prog 32 #[.agg #[e.v],iV d] w (ro w0 mu rs 3 I1 out):=by
 induction n with
 | zero=>intro _ _ _ _ _ _ _ out c; cases c
 | succ n ih=>exact fun c f a=>w_dj (rec:=m_hf n) ih c f a
theorem w_dl {b:L2} {d:Int} {e:Hdr} {out:LI} (c:m_hf FUEL b d=some out) (f:imm S1 e.v b∈mu) (a:St w0 mu rs w):
  Calls prog 32 #[.agg #[e.v],iV d] w (ro w0 mu rs 3 I1 out):=w_dk FUEL c f a
theorem Pg {h:L2} {b:Int} {d:Hdr} {out:LI×Int} (c:m_hg h b=some out) (l:imm S1 d.v h∈mu) (a:St w0 mu rs w):
  Calls prog 9 #[.agg #[d.v],iV b] w (fun e w=>∃ (i:Hdr),e=.returned (.tuple #[i.v,iV out.2])∧St w0 mu (row 3 I1 i.v out.1::rs) w):=by
 refine en func9 rfl ntmps9 fun Q j=>?_
 refine v 17 ?_
 refine fun m _ _ _ _ _ w a=>⟨fun _ c=>?_,fun _ c=>?_⟩
 ·refine jW 3 [1,2] [(19,.bool ((decide (b < 1)) || (decide ((200:Int) < b))))] (St w0 mu (box m 32 [d.v]::rs)) rfl (fun k=>?_) ?_
  ·refine gB 16 rfl (fun f=>?_) fun f=>?_
   ·exact q 3 rfl (k _ _ a (Z0 (S0 Value.bool (orT f)) rfl))
   ·exact q 3 rfl (k _ _ a (Z0 (S0 Value.bool (orF f)) rfl))
  intro g w a
  refine v 0 ?_
  refine ⟨fun _ c=>?_,fun _ c=>?_⟩
  ·exact Rq
  ·exact bE c fun o n c=>cO (w_dl n l a) fun p w a=>vx
 ·exact Rq
instance:CL prog 9 (type_of% @Pg):=⟨@Pg⟩
theorem Og {n:LI} {j:Int} {o:Hdr} {out:LI×Bool} (c:m_hi n j=some out) (L:imm I1 o.v n∈mu) (a:St w0 mu rs w):
  Calls prog 72 #[o.v,iV j] w (fun e w=>∃ (p:Hdr),e=.returned (.tuple #[p.v,.bool out.2])∧St w0 mu (row 3 I1 p.v out.1::rs) w):=by
 refine en func72 rfl ntmps72 fun Q k=>?_
 refine z 1 4 ?_
 refine cIn c (fun B c=>?_) fun B c=>?_
 ·refine q 5 rfl (bE c fun N C c=>yh (rMk a N0 e0 C) fun h w a=>bE c fun O D c=>q 6 rfl (yh (rMk a K3 e0 D) fun l w a=>?_))
  refine z 1 4 ?_
  refine bE c fun E F c=>?_
  refine lp F [1,6,7,18,19] (fun (d,f,i)=>[(20,iV i)]) (fun (d,f,i)=>St w0 mu (row 3 I1 h.v d::row 4 rB l.v f::rs)) (fun | .inl r=>(.exit 0,[],St w0 mu (row 3 I1 h.v r::rs)) | .inr ()=>(.ret,[(4,hnil.v),(5,.bool false)],St w0 mu rs)) rfl (a.k10) rfl ?_ ?_
  ·clear a
   intro g w a
   rcases E with r | ⟨⟩
   ·refine q 10 rfl ?_
    cases c
    exact ki
   ·refine q 2 rfl ?_
    cases c
    replace a:=a.rowNh 3 I1
    exact ki
  rintro ⟨d,f,i⟩ g w R a c
  refine q 6 rfl (cI c (fun G c=>?_) fun G c=>?_)
  ·refine z 2 10 ?_;intro s S c
   refine jW 4 [1,6,7,8,9,18,19,20] [(31,.bool ((decide (s < 0)) || (decide (j≤s))))] (St w0 mu (row 3 I1 h.v d::row 4 rB l.v f::rs)) rfl (fun t=>?_) ?_
   ·refine gB 27 rfl (fun m=>?_) fun m=>?_
    ·exact q 4 rfl (t _ _ a (Z0 (S0 Value.bool (orT m)) rfl))
    ·exact q 4 rfl (t _ _ a (Z0 (S0 Value.bool (orF m)) rfl))
   intro g w a
   refine bE c fun H b c=>q 1 rfl ?_
   refine jW 5 [1,6,7,8,9,18,19,20] [(37,.bool H)] (St w0 mu (row 3 I1 h.v d::row 4 rB l.v f::rs)) rfl (fun u=>?_) ?_
   ·refine gJ 32 b rfl (fun I b=>?_) fun I b=>?_
    ·refine q 5 rfl ?_
     cases b
     exact u _ _ a rfl
    ·refine q 2 rfl (bE b fun T J b=>?_)
     refine z 1 0 ?_
     refine y (yB O_4 e0 a rO1 J) (q 1 rfl ?_)
     cases b
     exact u _ _ a rfl
   intro g w a
   refine q 2 rfl ?_
   refine cJ c (fun K c=>?_) fun K c=>?_
   ·refine q 10 rfl ?_
    cases c
    exact xo (a.k19)
   ·refine q 8 rfl (bE c fun U x c=>y (yIs N0 e0 e0 a rO0 x) (yt (V1 (cs:=[iV i]) a O_3 rfl e0 e0 rfl mkI x) fun w a=>bE c fun V A c=>y (yIs K3 e0 e0 a rO1 A) ?_))
    replace a:=a.k10
    refine yt (V1 (cs:=[.bool true]) a O_4 rfl e0 rfl rfl mkB A) fun w a=>q 7 rfl ?_
    cases c
    exact lo (a.k10)
  ·refine q 2 rfl ?_
   cases c
   exact xo (a.k11)
 ·refine q 8 rfl ?_
  cases c
  replace a:=a.rowNh 3 I1
  exact ki
instance:CL prog 72 (type_of% @Og):=⟨@Og⟩
theorem Ll {e:List (Int×Int×Int)} {d:Hdr} {out:(List (Int×Int×Int))} (c:m_hj e=some out) (f:imm rTi64i64u64 d.v e∈mu) (a:St w0 mu rs w):
  Calls prog 205 #[d.v] w (ro w0 mu rs 58 rTi64i64u64 out):=by
 refine en func205 rfl ntmps205 fun Q g=>q 9 rfl (y (gg H5 e0 rfl) (q 2 rfl ?_))
 rcases Bh d with b | b
 ·refine kT b ?_
  obtain rfl:=Dh b f a
  replace c:=Ch c
  refine q 7 rfl ?_
  cases c
  replace a:=a.rowNh 58 rTi64i64u64
  exact g _ _ _ (X1 results205 ⟨rfl,rfl⟩ ⟨_,rfl,a⟩)
 ·exact kF b (q 4 rfl (yh (rLt (n:=0) (l:=[]) a H5 [] bp0 rfl rfl L1) fun h w a=>vx))
instance:CL prog 205 (type_of% @Ll):=⟨@Ll⟩
theorem Kl {b d out:Int} (c:m_hk b d=some out) (a:St w0 mu rs w):
  Calls prog 209 #[iV b,iV d] w (rv w0 mu rs (iV out)):=by
 exact en func209 rfl ntmps209 fun Q e=>vx
instance:CL prog 209 (type_of% @Kl):=⟨@Kl⟩
theorem Jl {d:LI} {e:Hdr} {out:Int} (c:m_hm d=some out) (j:imm I1 e.v d∈mu) (a:St w0 mu rs w):
  Calls prog 208 #[e.v] w (rv w0 mu rs (iV out)):=by
 refine en func208 rfl ntmps208 fun Q k=>?_
 refine z 1 4 ?_
 refine bE c fun h i c=>?_
 refine lp i [3,6,7] (fun b=>[(8,iV b)]) (fun b=>St w0 mu rs) (fun | .inl ()=>(.exit 0,[],St w0 mu rs) | .inr f=>(.ret,[(2,iV f)],St w0 mu rs)) rfl a rfl ?_ ?_
 ·clear a
  intro g w a
  rcases h with ⟨⟩ | f
  ·exact vx
  ·exact vx
 rintro b g w l a c
 exact vx
instance:CL prog 208 (type_of% @Jl):=⟨@Jl⟩
theorem Ma {e f g h i j out:Int} (c:m_hn e f g h i j=some out) (a:St w0 mu rs w):
  Calls prog 207 #[.agg #[iV e,iV f,.int .u64 g],.agg #[iV h,iV i,.int .u64 j]] w (rv w0 mu rs (iV out)):=by
 refine en func207 rfl ntmps207 fun Q k=>?_
 refine z 2 4 ?_;intro m w a o w a
 refine bE c fun b p c=>bE c fun d q c=>bE c fun r s c=>dS [4,9,10,11,12] 5 V0 ?_
 replace a:=a.drew
 refine z 6 0 ?_;intro w a w a
 refine dU (D1 0 0 10 rfl (Rn QSn (LH wn (rLt (n:=2) (l:=[b,d]) a N0 [iV b,iV d] (bp2 e0 e0) rfl rfl (J1 (cs:=[iV b]) rfl mkI (J1 (cs:=[iV d]) rfl mkI L1))) fun t w a=>dU ?_)))
 refine z 3 2 ?_;intro w a
 cases c
 exact za k results207 ⟨rfl,((a.k19).fc)⟩
instance:CL prog 207 (type_of% @Ma):=⟨@Ma⟩
theorem Il {i:List (Int×Int×Int)} {j k:Int} {l:Hdr} {out:Unit} (c:m_hq i j k=some out) (d:imm rTi64i64u64 l.v i∈mu) (a:St w0 mu rs w):
  Calls prog 242 #[l.v,iV j,iV k,.func (.func 207) #[] #[]] w (rv w0 mu rs (.tuple #[])):=by
 refine en func242 rfl ntmps242 fun Q o=>bE c fun ⟨⟩ p c=>q 8 rfl ?_
 refine lp p [0,1,2,3] (fun e=>[(8,iV e)]) (fun e=>St w0 mu rs) (fun | ()=>(.exit 0,[],St w0 mu rs)) rfl a rfl ?_ ?_
 ·clear a
  intro g w a
  refine q 1 rfl ?_
  cases c
  exact o _ _ _ (p9 results242 ⟨rfl,a⟩)
 rintro e g w x a c
 refine v 0 ?_
 refine ⟨fun _ c=>?_,vt⟩
 refine bE c fun ⟨⟩ r c=>?_
 refine lp r [0,1,2,3,8,9] (fun _=>[]) (fun _=>St w0 mu rs) (fun | ()=>(.exit 2,[],St w0 mu rs)) rfl a rfl ?_ ?_
 ·clear a
  intro g w a
  exact vx
 rintro _ g w y a c
 refine bE c fun f b c=>q 2 rfl ?_
 refine jN Unit [0,1,2,3,8,9] (fun _=>[(34,.bool f)]) (fun _=>St w0 mu rs) rfl ?_ ?_
 ·rcases Z4 b with ⟨h,b⟩ | ⟨h,b⟩
  ·refine bE b fun z m b=>bE b fun A n b=>bE b fun B s b=>?_
   have t:=U2 b
   refine dS [14] 1 V0 ?_
   replace a:=a.drew
   refine D1 16383 0 14 rfl (qR 4 rfl (rK 21 rfl (dT h) (qR 3 rfl (rQ rfl (yIa H5 e0 e0 a (rdI d) m) (rQ rfl (yFn j7 e0 a (rdI d) m rfl) (qR 3 rfl (rQ rfl (yIa H5 e0 e0 a (rdI d) n) (rQ rfl (yFn j7 e0 a (rdI d) n rfl) (Rn QSn (Lk (N3.1 rfl) (A8 Xf e0 (a2 e0 e0)) (Ma s a) ?_))))))))))
   rintro _ w ⟨rfl,a⟩
   refine ⟨_,rfl,?_⟩
   exact dU (Dw 98304 0 (qR 1 rfl (rQ rfl (pt_ (.bool f) e0 rfl (eqv t e0)) (Rn QSn (jr () a)))))
  ·have u:=U2 b
   refine dS [14] 1 V0 ?_
   replace a:=a.drew
   exact D1 16383 0 14 rfl (qR 4 rfl (rK 21 rfl (dF h) (qR 10 rfl (Rn QSn (Lx (N3.2 rfl) (dU (Dw 98304 0 (qR 1 rfl (rQ rfl (pf_ (.bool f) e0 rfl (eqv u rfl)) (Rn QSn (jr () a)))))))))))
 rintro _ g w a
 refine v 0 ?_
 refine ⟨fun _ c=>?_,vt⟩
 cases c
instance:CL prog 242 (type_of% @Il):=⟨@Il⟩
theorem w_dt {rec:(List (Int×Int×Int))→Int→Int→Int→Option (Unit)} (x:∀ {w0:World} {mu:List Fact} {rs:List Res} {w:World} {j:List (Int×Int×Int)} {f b h:Int} {l:Hdr} {out:Unit} (c:rec j f b h=some out) (d:imm rTi64i64u64 l.v j∈mu) (a:St w0 mu rs w),Calls prog 243 #[l.v,iV f,iV b,iV h,.func (.func 207) #[] #[]] w (rv w0 mu rs (.tuple #[]))) {w0:World} {mu:List Fact} {rs:List Res} {w:World} {j:List (Int×Int×Int)} {f b h:Int} {l:Hdr} {out:Unit} (c:m_h3 rec j f b h=some out) (d:imm rTi64i64u64 l.v j∈mu) (a:St w0 mu rs w):
  Calls prog 243 #[l.v,iV f,iV b,iV h,.func (.func 207) #[] #[]] w (fun e w=>e=.returned (.tuple #[])∧St w0 mu rs w):=by
 refine en func243 rfl ntmps243 fun Q r=>q 9 rfl (cI c (fun J c=>?_) fun J c=>?_)
 ·refine q 14 rfl (bE c fun ⟨⟩ K c=>?_)
  refine lp K [0,1,4,10] (fun m=>[(11,iV m)]) (fun m=>St w0 mu rs) (fun | ()=>(.exit 0,[],St w0 mu rs)) rfl a rfl ?_ ?_
  ·clear a
   intro g w a
   refine bE c fun ⟨⟩ L c=>q 10 rfl ?_
   refine lp L [0,10,13] (fun _=>[]) (fun _=>St w0 mu rs) (fun | ()=>(.exit 2,[],St w0 mu rs)) rfl a rfl ?_ ?_
   ·clear a
    exact Qq
   rintro _ g w b5 a c
   refine q 9 rfl (cI c (fun N c=>?_) fun N c=>?_)
   ·cases c
   ·exact xc
  rintro m g w O a c
  refine q 8 rfl (cI c (fun R c=>?_) fun R c=>?_)
  ·refine q 15 rfl (bE c fun b6 y c=>bE c fun b7 A c=>bE c fun b8 S c=>dS [9] 1 V0 ?_)
   replace a:=a.drew
   refine D1 511 0 9 rfl (qR 3 rfl (rQ rfl (yIa H5 e0 e0 a (rdI d) y) (rQ rfl (yFn j7 e0 a (rdI d) y rfl) (qR 2 rfl (rQ rfl (yIa H5 e0 e0 a (rdI d) A) (rQ rfl (yFn j7 e0 a (rdI d) A rfl) (Rn QSn (Lk wn (A8 Xf e0 (a2 e0 e0)) (Ma S a) ?_))))))))
   rintro _ w ⟨rfl,a⟩
   refine ⟨_,rfl,?_⟩
   refine dU ?_
   refine z 1 1 ?_
   refine jC Unit [0,1,4,10] (fun _=>[(11,iV (wc .i64 (wsrc .u64 (wc .u64 (wa .i64 b m)) 1)))]) (fun _ w=>St w0 mu rs w∧m_hs b m=some O) rfl ?_ ?_
   ·rintro _ g w ⟨a,c⟩
    refine q 1 rfl ?_
    cases c
    exact lo a
   refine cI c (fun T c=>?_) fun T c=>?_
   ·cases c
   ·exact q 4 rfl (jx () ⟨a,c⟩)
  ·exact xc
 ·refine q 11 rfl (cI c (fun U c=>?_) fun U c=>?_)
  ·refine q 14 rfl (bE c fun B V c=>?_)
   refine lp V [0,2,4,15] (fun n=>[(14,iV n)]) (fun n=>St w0 mu rs) (fun | B=>(.exit 4,[(14,iV B)],St w0 mu rs)) rfl a rfl ?_ ?_
   ·clear a
    intro g w a
    refine bE c fun ⟨⟩ W c=>q 10 rfl ?_
    refine lp W [0,14,17] (fun _=>[]) (fun _=>St w0 mu rs) (fun | ()=>(.exit 6,[],St w0 mu rs)) rfl a rfl ?_ ?_
    ·clear a
     exact Qq
    rintro _ g w b9 a c
    refine q 8 rfl (cI c (fun X c=>?_) fun X c=>?_)
    ·cases c
    ·exact xc
   rintro n g w Z a c
   refine q 8 rfl (cI c (fun a0 c=>?_) fun a0 c=>?_)
   ·refine q 15 rfl (bE c fun c0 C c=>bE c fun c1 D c=>bE c fun c2 a1 c=>dS [9] 1 V0 ?_)
    replace a:=a.drew
    refine D1 511 0 9 rfl (qR 3 rfl (rQ rfl (yIa H5 e0 e0 a (rdI d) C) (rQ rfl (yFn j7 e0 a (rdI d) C rfl) (qR 2 rfl (rQ rfl (yIa H5 e0 e0 a (rdI d) D) (rQ rfl (yFn j7 e0 a (rdI d) D rfl) (Rn QSn (Lk wn (A8 Xf e0 (a2 e0 e0)) (Ma a1 a) ?_))))))))
    rintro _ w ⟨rfl,a⟩
    refine ⟨_,rfl,?_⟩
    refine dU ?_
    refine z 1 1 ?_
    refine jC Unit [0,2,4,15] (fun _=>[(14,iV (wa .i64 (wc .i64 (wsrc .u64 (wc .u64 (wa .i64 n b)) 1)) 1))]) (fun _ w=>St w0 mu rs w∧m_hv n b=some Z) rfl ?_ ?_
    ·rintro _ g w ⟨a,c⟩
     refine q 1 rfl ?_
     cases c
     exact lo a
    refine cIn c (fun a3 c=>?_) fun a3 c=>?_
    ·cases c
    ·exact q 5 rfl (jx () ⟨a,c⟩)
   ·exact xc
  ·refine q 35 rfl ?_
   refine jC (Int×Int) [0,1,2,3,4,18,19] (fun (p,k)=>[(20,iV p),(21,iV k)]) (fun (p,k) w=>St w0 mu rs w∧m_h2 rec j f h b p k=some out) rfl ?_ ?_
   ·rintro ⟨p,k⟩ g w ⟨a,c⟩
    refine bE c fun i a4 c=>q 10 rfl ?_
    refine lp a4 [0,1,2,3,4,18,19,21,22] (fun o=>[(20,iV o)]) (fun o=>St w0 mu rs) (fun | i=>(.exit 8,[(20,iV i)],St w0 mu rs)) rfl a rfl ?_ ?_
    ·clear a
     intro g w a
     refine q 17 rfl ?_
     refine jW 4 [0,1,2,3,4,18,20,24] [(185,.bool ((decide (i < b)) && (decide (b < (ws .i64 (wa .i64 (wc .i64 (wsrc .u64 (wc .u64 (wa .i64 f h)) 1)) b) i)))))] (St w0 mu rs) rfl (fun E=>?_) ?_
     ·refine gB 181 rfl (fun s=>?_) fun s=>?_
      ·exact q 4 rfl (E _ _ a (Z0 (S0 Value.bool (j5 s)) rfl))
      ·exact q 4 rfl (E _ _ a (Z0 (S0 Value.bool (m5 s)) rfl))
     intro g w a
     refine q 2 rfl ?_
     refine jC Unit [0,1,3,4,18,20,24] (fun _=>[]) (fun _ w=>St w0 mu rs w∧m_hz rec f i h j b=some out) rfl ?_ ?_
     ·rintro _ g w ⟨a,c⟩
      refine q 8 rfl ?_
      refine jW 4 [0,1,3,4,18,20,24] [(199,.bool ((decide (f < i)) && (decide (i < (wc .i64 (wsrc .u64 (wc .u64 (wa .i64 f h)) 1))))))] (St w0 mu rs) rfl (fun F=>?_) ?_
      ·refine gB 195 rfl (fun t=>?_) fun t=>?_
       ·exact q 4 rfl (F _ _ a (Z0 (S0 Value.bool (j5 t)) rfl))
       ·exact q 4 rfl (F _ _ a (Z0 (S0 Value.bool (m5 t)) rfl))
      intro g w a
      refine q 2 rfl ?_
      refine jC Unit [0,3,4,18,24] (fun _=>[]) (fun _ w=>St w0 mu rs w∧m_hy rec f h b i j=some out) rfl ?_ ?_
      ·rintro _ g w ⟨a,c⟩
       refine q 7 rfl ?_
       refine jW 4 [0,3,4,18,24] [(213,.bool ((decide ((wc .i64 (wsrc .u64 (wc .u64 (wa .i64 f h)) 1)) < (ws .i64 (wa .i64 (wc .i64 (wsrc .u64 (wc .u64 (wa .i64 f h)) 1)) b) i))) && (decide ((ws .i64 (wa .i64 (wc .i64 (wsrc .u64 (wc .u64 (wa .i64 f h)) 1)) b) i) < h))))] (St w0 mu rs) rfl (fun G=>?_) ?_
       ·refine gB 209 rfl (fun u=>?_) fun u=>?_
        ·exact q 4 rfl (G _ _ a (Z0 (S0 Value.bool (j5 u)) rfl))
        ·exact q 4 rfl (G _ _ a (Z0 (S0 Value.bool (m5 u)) rfl))
       intro g w a
       refine q 2 rfl ?_
       refine jC Unit [] (fun _=>[]) (fun _ w=>St w0 mu rs w∧m_hx=some out) rfl ?_ ?_
       ·rintro _ g w ⟨a,c⟩
        cases c
        exact r _ _ _ (p9 results243 ⟨rfl,a⟩)
       refine cJ c (fun a5 c=>?_) fun a5 c=>?_
       ·exact q 6 rfl (bE c fun c3 a6 c=>cZ (x a6 d a) fun w a=>q 1 rfl (jx () ⟨a,c⟩))
       ·exact q 1 rfl (jx () ⟨a,c⟩)
      refine cJ c (fun a7 c=>?_) fun a7 c=>?_
      ·exact q 6 rfl (bE c fun c4 a8 c=>cZ (x a8 d a) fun w a=>q 1 rfl (jx () ⟨a,c⟩))
      ·exact q 1 rfl (jx () ⟨a,c⟩)
     refine cJ c (fun a9 c=>?_) fun a9 c=>?_
     ·cases c
     ·exact q 1 rfl (jx () ⟨a,c⟩)
    rintro o g w b0 a c
    refine q 8 rfl (cI c (fun b1 c=>?_) fun b1 c=>?_)
    ·refine q 15 rfl (bE c fun c5 H c=>bE c fun c7 I c=>bE c fun c8 b2 c=>dS [11] 1 V0 ?_)
     replace a:=a.drew
     refine D1 2047 0 11 rfl (qR 5 rfl (rQ rfl (yIa H5 e0 e0 a (rdI d) H) (rQ rfl (yFn j7 e0 a (rdI d) H rfl) (qR 2 rfl (rQ rfl (yIa H5 e0 e0 a (rdI d) I) (rQ rfl (yFn j7 e0 a (rdI d) I rfl) (Rn QSn (Lk wn (A8 Xf e0 (a2 e0 e0)) (Ma b2 a) ?_))))))))
     rintro _ w ⟨rfl,a⟩
     refine ⟨_,rfl,?_⟩
     refine dU ?_
     refine z 1 1 ?_
     refine jC Unit [0,1,2,3,4,18,19,21,22] (fun _=>[(20,iV (wa .i64 (wc .i64 (wsrc .u64 (wc .u64 (wa .i64 o k)) 1)) 1))]) (fun _ w=>St w0 mu rs w∧m_h0 o k=some b0) rfl ?_ ?_
     ·rintro _ g w ⟨a,c⟩
      refine q 1 rfl ?_
      cases c
      exact lo a
     refine cIn c (fun b3 c=>?_) fun b3 c=>?_
     ·cases c
     ·exact q 5 rfl (jx () ⟨a,c⟩)
    ·exact xc
   refine cI c (fun b4 c=>?_) fun b4 c=>?_
   ·exact q 12 rfl (jx (_,_) ⟨a,c⟩)
   ·exact q 10 rfl (jx (_,_) ⟨a,c⟩)
theorem w_du (n:Nat):∀ {w0:World} {mu:List Fact} {rs:List Res} {w:World} {b:List (Int×Int×Int)} {d e f:Int} {g:Hdr} {out:Unit} (c:m_h4 n b d e f=some out) (h:imm rTi64i64u64 g.v b∈mu) (a:St w0 mu rs w),
  Calls prog 243 #[g.v,iV d,iV e,iV f,.func (.func 207) #[] #[]] w (rv w0 mu rs (.tuple #[])):=by
 induction n with
 | zero=>intro _ _ _ _ _ _ _ _ _ out c; cases c
 | succ n ih=>exact fun c h a=>w_dt (rec:=m_h4 n) ih c h a
theorem Hl {b:List (Int×Int×Int)} {d e f:Int} {g:Hdr} {out:Unit} (c:m_h4 FUEL b d e f=some out) (h:imm rTi64i64u64 g.v b∈mu) (a:St w0 mu rs w):
  Calls prog 243 #[g.v,iV d,iV e,iV f,.func (.func 207) #[] #[]] w (rv w0 mu rs (.tuple #[])):=w_du FUEL c h a
theorem Gl {i:List (Int×Int×Int)} {j:Int} {k:Hdr} {out:Unit} (c:m_h9 i j=some out) (l:imm rTi64i64u64 k.v i∈mu) (a:St w0 mu rs w):
  Calls prog 225 #[k.v,iV j,.func (.func 207) #[] #[]] w (rv w0 mu rs (.tuple #[])):=by
 refine en func225 rfl ntmps225 fun Q o=>bE c fun m p c=>q 14 rfl ?_
 refine lp p [0,1,2,6] (fun (b,d)=>[(7,iV b),(8,iV d)]) (fun (b,d)=>St w0 mu rs) (fun | m=>(.exit 0,[(7,iV m)],St w0 mu rs)) rfl a rfl ?_ ?_
 ·clear a
  intro g w a
  refine z 1 3 ?_;intro x y c w a
  refine bE c fun ⟨⟩ r c=>?_
  refine lp r [0,1,2] (fun e=>[(6,iV e)]) (fun e=>St w0 mu rs) (fun | ()=>(.exit 2,[],St w0 mu rs)) rfl a rfl ?_ ?_
  ·clear a
   intro g w a
   refine q 1 rfl ?_
   cases c
   exact o _ _ _ (p9 results225 ⟨rfl,a⟩)
  rintro e g w A a c
  refine v 0 ?_
  refine ⟨fun _ c=>?_,vt⟩
  refine bE c fun n s c=>?_
  refine lp s [0,1,2,6] (fun (f,h)=>[(7,iV f),(8,iV h)]) (fun (f,h)=>St w0 mu rs) (fun | n=>(.exit 4,[(7,iV n)],St w0 mu rs)) rfl a rfl ?_ ?_
  ·clear a
   intro g w a
   refine v 0 ?_
   refine ⟨fun _ c=>?_,vt⟩
   exact bE c fun B t c=>cZ (Hl t l a) fun w a=>vx
  rintro ⟨f,h⟩ g w C a c
  refine v 0 ?_
  refine ⟨fun _ c=>?_,vt⟩
  exact bE c fun D u c=>cZ (Hl u l a) fun w a=>vx
 rintro ⟨b,d⟩ g w E a c
 exact vx
instance:CL prog 225 (type_of% @Gl):=⟨@Gl⟩
theorem El {b:List (Int×Int×Int)} {d:Hdr} {out:Unit} (c:m_ia b=some out) (f:imm rTi64i64u64 d.v b∈mu) (a:St w0 mu rs w):
  Calls prog 206 #[d.v,.func (.func 207) #[] #[]] w (rv w0 mu rs (.tuple #[])):=by
 refine en func206 rfl ntmps206 fun Q e=>?_
 refine z 2 1 ?_;intro g h c w a
 cases c
 exact e _ _ _ (p9 results206 ⟨rfl,a⟩)
instance:CL prog 206 (type_of% @El):=⟨@El⟩
end Go.Proofs.YtoahkigijbeegaaGreatDoor
