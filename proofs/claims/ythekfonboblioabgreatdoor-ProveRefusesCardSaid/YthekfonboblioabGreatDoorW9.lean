/- Walks: each function computes its model, printed. -/
import Derived.Test.YthekfonboblioabGreatDoorW8
namespace Go.Proofs.YthekfonboblioabGreatDoor
open Go Sx M Go.Proofs.Tryz
set_option maxRecDepth 100000
set_option maxHeartbeats 40000000
set_option linter.unusedVariables false
attribute [local irreducible] wpList Code.wp Calls DR QR QS LA LS St row box fam imm rowS loop
variable {w0:World} {ax:List Fact} {rs:List Res} {w:World}
theorem Mi {h i:LI} {j k:Int} {b l:Hdr} {out:LI} (c:m_gn h i j k=some out) (y:imm I1 l.v i∈ax) (a:St w0 ax (row 3 I1 b.v h::rs) w):
  Calls prog 165 #[b.v,l.v,iV j,iV k] w (fun e w=>e=.returned (.tuple #[])∧St w0 ax (row 3 I1 b.v out::rs) w):=by
 refine en func165 rfl ntmps165 fun Q p=>?_
 refine z 1 4 ?_
 refine bE c fun m r c=>?_
 refine lp r [0,2,3,10,11] (fun (d,f)=>[(12,iV f)]) (fun (d,f)=>St w0 ax (row 3 I1 b.v d::rs)) (fun | m=>(.exit 0,[],St w0 ax (row 3 I1 b.v m::rs))) rfl a rfl ?_ ?_
 ·clear a
  intro g w a
  refine q 1 rfl ?_
  cases c
  exact p _ _ _ (Ek results165 ⟨rfl,a⟩)
 rintro ⟨d,f⟩ g w A a c
 refine q 6 rfl (cI c (fun s c=>?_) fun s c=>?_)
 ·refine z 2 4 ?_;intro B C c
  refine bE c fun D n c=>bE c fun E t c=>bE c fun u x c=>bE c fun F o c=>dS [13,15] 2 A1 ?_
  replace a:=a.drew
  refine D1 8191 0 13 rfl (qR 4 rfl (rQ rfl (yIa V0 e0 e0 a rO0 n) (rQ rfl (yI O_3 e0 a rO0 n) (qR 4 rfl (rQ rfl (Fa e0 e0 t) (qR 2 rfl (Rn QSn (kZ (Pi x a) fun w a=>dU (D0 16384 3 15 rfl (rQ rfl (yIs V0 e0 e0 a rO0 o) (Rn (qS rfl (qS rfl QSn)) (LT wn (S3 (cs:=[iV u]) a O_3 rfl e0 e0 rfl mkI o) ?_))))))))))))
  exact fun w a=>vx
 ·exact vx
instance:CL prog 165 (type_of% @Mi):=⟨@Mi⟩
theorem Hf {b2:L2} {O:Int} {h:Hdr} {b3:List Hdr} {out:L2×LI×Int} (c:m_gu b2 O=some out) (a:St w0 ax (row 23 rH h.v b3::fam 3 I1 b3 b2::rs) w):
  Calls prog 111 #[h.v,iV O] w (fun e w=>∃ (b4:List Hdr) (b5:Hdr),e=.returned (.tuple #[b5.v,iV out.2.2])∧St w0 ax (row 23 rH h.v b4::fam 3 I1 b4 out.1::row 3 I1 b5.v out.2.1::rs) w):=by
 refine en func111 rfl ntmps111 fun Q d7=>bE c fun g2 d8 c=>q 15 rfl ?_
 have r:=a
 replace a:=a.ffz
 have d:=a.guest0
 replace a:=r
 clear r
 refine yC (C9 jG (a1 e0)) (Si d8 F0 d) ?_
 clear d
 rintro _ w ⟨rfl,d⟩
 replace a:=a.back d
 clear d
 refine ⟨_,rfl,?_⟩
 refine nf (q 4 rfl ?_)
 obtain ⟨⟨b6,b7,b8⟩,d9,c⟩:=bs c
 replace a:=a.rowNh 3 I1
 refine lpN ((List Hdr)×Hdr) ((List Hdr)×Hdr) d9 [0,1,14] (fun (R,i,S,b) (t,j)=>[(4,j.v),(5,iV S),(15,iV b)]) (fun (R,i,S,b) (t,j)=>St w0 ax (row 23 rH h.v t::fam 3 I1 t R::row 3 I1 j.v i::rs)) (fun | (b6,b7,b8),(T,U)=>(.exit 0,[(4,U.v),(5,iV b8)],St w0 ax (row 23 rH h.v T::fam 3 I1 T b6::row 3 I1 U.v b7::rs))) rfl (_,_) (a.k1d) rfl ?_ ?_
 ·clear a
  rintro ⟨T,U⟩ g w a
  refine q 11 rfl ?_
  cases c
  exact d7 _ _ _ (I4 results111 ⟨rfl,rfl⟩ ⟨rfl,rfl⟩ ⟨_,_,rfl,a⟩)
 rintro ⟨R,i,S,b⟩ ⟨t,j⟩ g w b9 a c
 refine q 6 rfl (cI c (fun e1 c=>?_) fun e1 c=>?_)
 ·refine q 3 rfl ?_
  refine jC (L2×LI×Int×(List Hdr)×Hdr) [0,1,14,15] (fun (x,A,B,C,D)=>[(4,D.v),(5,iV B)]) (fun (x,A,B,C,D) w=>St w0 ax (row 23 rH h.v C::fam 3 I1 C x::row 3 I1 D.v A::rs) w∧m_go b x A B=some b9) rfl ?_ ?_
  ·rintro ⟨x,A,B,C,D⟩ g w ⟨a,c⟩
   refine q 5 rfl ?_
   cases c
   exact ln (_,_) a
  refine z 3 8 ?_;intro m w a w a
  refine y (K6 G3 e0 a rO1 R2) (q 3 rfl (cI c (fun e2 c=>?_) fun e2 c=>?_))
  ·refine q 5 rfl ?_
   cases c
   exact lx (_,_) (a.k2w)
  ·refine q 7 rfl (bE c fun g3 c0 c=>y (ySlF (k2:=.i64) G3 e0 a rO1 R2 (.inl (C1 some e0)) (.inr ⟨rfl,rfl⟩) c0) (y (ymf (vf:=#[]) (vc:=#[(pB m)]) a0 (a1 e0)) (bE c fun g4 e3 c=>?_)))
   have r:=a
   replace a:=((a.k1d).ffz).sub F0 c0
   have d:=a.guestB
   replace a:=r
   clear r
   refine yC (C9 fG (a2 e0 e0)) (w_dp e3 F1 d) ?_
   clear d
   rintro _ w ⟨rfl,d⟩
   replace a:=a.backB d
   clear d
   refine ⟨_,rfl,?_⟩
   refine nf (q 12 rfl (cI c (fun e4 c=>?_) fun e4 c=>?_))
   ·exact q 3 rfl (jx (_,_,_,_,_) ⟨(a.k2w),c⟩)
   ·refine q 10 rfl ?_
    refine jC (L2×Int×(List Hdr)) [0,1,4,6,7,14,15] (fun (E,F,f)=>[(5,iV F)]) (fun (E,F,f) w=>St w0 ax (row 23 rH h.v f::fam 3 I1 f E::row 3 I1 j.v i::box m 3 [iV b]::rs) w∧m_gs i b O E F=some b9) rfl ?_ ?_
    ·rintro ⟨E,F,f⟩ g w ⟨a,c⟩
     refine bE c fun g5 V c=>bE c fun g6 c1 c=>bE c fun e5 e6 c=>q 2 rfl (dS [11] 1 A1 ?_)
     replace a:=a.drew
     refine D1 2047 0 11 rfl (qR 3 rfl ?_)
     obtain ⟨g7,G⟩:=a.famI R1 V
     refine rQ rfl (yIa G3 e0 e0 a rO0 G) (rQ rfl (yF1 L1 e0 a rO0 G rfl) (rQ rfl (lb_ (iV b) O_3 e0 a R3) (rQ rfl (yIa V0 e0 e0 a (rdF R1 G V) c1) (rQ rfl (yI O_3 e0 a (rdF R1 G V) c1) (qR 2 rfl (rQ rfl (Fa e0 e0 e6) (Rn QSn (Ly wn (a_ (iV e5) e0) (dU ?_)))))))))
     refine z 1 2 ?_
     refine bE c fun g8 W c=>bE c fun g9 c2 c=>bE c fun h0 e7 c=>dS [8,9] 2 A1 ?_
     replace a:=a.drew
     refine D1 255 0 8 rfl (qR 2 rfl ?_)
     obtain ⟨h1,H⟩:=a.famI R1 W
     refine rQ rfl (yIa G3 e0 e0 a rO0 H) (rQ rfl (yF1 L1 e0 a rO0 H rfl) (rQ rfl (lb_ (iV b) O_3 e0 a R3) (rQ rfl (yIa V0 e0 e0 a (rdF R1 H W) c2) (rQ rfl (yI O_3 e0 a (rdF R1 H W) c2) (qR 1 rfl (Rn QSn (kZ (Ni e7 a) fun w a=>dU ?_)))))))
     refine z 2 6 ?_
     refine bE c fun h3 c3 c=>?_
     obtain ⟨h4,X⟩:=a.famI R1 c3
     refine y (yIa G3 e0 e0 a rO0 X) (y (yF1 L1 e0 a rO0 X rfl) (y (O2 V0 e0 a (rdF R1 X c3)) (bE c fun c4 e8 c=>q 4 rfl ?_)))
     refine lp e8 [0,1,4,5,6,7,9,14,15,79] (fun (Z,a3)=>[(80,iV a3)]) (fun (Z,a3)=>St w0 ax (row 23 rH h.v f::fam 3 I1 f Z::row 3 I1 j.v i::box m 3 [iV b]::rs)) (fun | c4=>(.exit 2,[],St w0 ax (row 23 rH h.v f::fam 3 I1 f c4::row 3 I1 j.v i::box m 3 [iV b]::rs))) rfl a rfl ?_ ?_
     ·clear a
      intro g w a
      refine q 6 rfl (y (K6 G3 e0 a rO0 R1) (bE c fun c5 e9 c=>q 4 rfl ?_))
      refine lp e9 [0,1,4,5,6,7,14,15,101,102] (fun (I,J)=>[(103,iV J)]) (fun (I,J)=>St w0 ax (row 23 rH h.v f::fam 3 I1 f I::row 3 I1 j.v i::box m 3 [iV b]::rs)) (fun | c5=>(.exit 4,[],St w0 ax (row 23 rH h.v f::fam 3 I1 f c5::row 3 I1 j.v i::box m 3 [iV b]::rs))) rfl a rfl ?_ ?_
      ·clear a
       intro g w a
       refine z 1 0 ?_
       refine yh (rLt (n:=1) (l:=[b]) a V0 [iV b] (bp1 e0) rfl rfl (U1 (cs:=[iV b]) rfl mkI E2)) fun h5 w a=>?_
       refine z 1 3 ?_;intro h6 h7 c h8 w a
       exact jx (_,_,_,_,_) ⟨(a.k2c),c⟩
      rintro ⟨I,J⟩ g w f0 a c
      refine q 6 rfl (cI c (fun f1 c=>?_) fun f1 c=>?_)
      ·refine q 7 rfl (bE c fun h9 p c=>?_)
       obtain ⟨i0,k⟩:=a.famI R1 p
       refine y (yIa G3 e0 e0 a rO0 k) (y (yF1 L1 e0 a rO0 k rfl) (bE c fun f2 o c=>q 10 rfl ?_))
       refine jW 6 [0,1,4,5,6,7,12,14,15,101,102,103] [(117,.bool f2)] (St w0 ax (row 23 rH h.v f::fam 3 I1 f I::row 3 I1 j.v i::box m 3 [iV b]::rs)) rfl (fun c6=>?_) ?_
       ·refine gIn 111 o rfl (fun f3 o=>?_) fun f3 o=>?_
        ·refine q 6 rfl ?_
         cases o
         exact c6 _ _ a rfl
        ·refine z 1 0 ?_
         refine bE o fun i1 c7 o=>y (yIa V0 e0 e0 a (rdF R1 k p) c7) (y (yI O_3 e0 a (rdF R1 k p) c7) (q 2 rfl ?_))
         cases o
         exact c6 _ _ a rfl
       intro g w a
       refine q 2 rfl ?_
       refine jC L2 [0,1,4,5,6,7,14,15,101,102,103] (fun K=>[]) (fun K w=>St w0 ax (row 23 rH h.v f::fam 3 I1 f K::row 3 I1 j.v i::box m 3 [iV b]::rs) w∧m_gp J K=some f0) rfl ?_ ?_
       ·rintro K g w ⟨a,c⟩
        refine q 6 rfl ?_
        cases c
        exact lo a
       refine cJ c (fun f4 c=>?_) fun f4 c=>?_
       ·refine bE c fun i2 c8 c=>bE c fun i3 c9 c=>bE c fun u2628 gu2628 c=>bE c fun i4 f5 c=>bE c fun i5 f6 c=>dS [10] 1 A1 ?_
        replace a:=a.drew
        refine D1 1023 0 10 rfl (qR 3 rfl ?_)
        obtain ⟨i6,a5⟩:=a.famI R1 c8
        refine rQ rfl (yIa G3 e0 e0 a rO0 a5) (rQ rfl (yF1 L1 e0 a rO0 a5 rfl) (qR 1 rfl (rQ rfl (lb_ (iV b) O_3 e0 a R3) (rQ rfl (yIa V0 e0 e0 a (rdF R1 k p) c9) (rQ rfl (yI O_3 e0 a (rdF R1 k p) c9) (qR 1 rfl (Rn QSn ?_)))))))
        replace a:=(a.k10).foc k p
        have d:=a.guestX gu2628 k a5 c8
        refine Lk wn (C9 dG (a4 e0 e0 e0 e0)) (Mi f5 F0 d) ?_
        clear d
        rintro _ w ⟨rfl,d⟩
        replace a:=a.backR d
        clear d
        refine ⟨_,rfl,?_⟩
        replace a:=a.unfoc' k f6
        refine dU ?_
        refine z 1 0 ?_
        exact jx _ ⟨(a.k2u),c⟩
       ·exact q 1 rfl (jx _ ⟨a,c⟩)
      ·refine q 2 rfl ?_
       cases c
       exact xo a
     rintro ⟨Z,a3⟩ g w i7 a c
     refine q 6 rfl (cI c (fun f7 c=>?_) fun f7 c=>?_)
     ·refine q 10 rfl (bE c fun i8 a6 c=>bE c fun i9 a7 c=>bE c fun j0 d0 c=>bE c fun f8 f9 c=>bE c fun j1 d1 c=>bE c fun j2 g0 c=>dS [17] 1 A1 ?_)
      replace a:=a.drew
      refine D0 131071 0 17 rfl (qR 2 rfl ?_)
      obtain ⟨j3,s⟩:=a.famI R1 a6
      refine rQ rfl (yIa G3 e0 e0 a rO0 s) (rQ rfl (yF1 L1 e0 a rO0 s rfl) (qR 3 rfl ?_))
      obtain ⟨j4,L⟩:=a.famI R1 a7
      refine rQ rfl (yIa G3 e0 e0 a rO0 L) (rQ rfl (yF1 L1 e0 a rO0 L rfl) (qR 1 rfl (rQ rfl (yIa V0 e0 e0 a (rdF R1 L a7) d0) (rQ rfl (yI O_3 e0 a (rdF R1 L a7) d0) (qR 3 rfl (rQ rfl (Fa e0 e0 f9) (rQ rfl (yIs V0 e0 e0 a (rdF R1 s a6) d1) (Rn QSn ?_))))))))
      replace a:=a.k10
      refine LT wn (S3 (cs:=[iV f8]) (a.foc s a6) O_3 rfl e0 e0 rfl mkI d1) fun w a=>?_
      replace a:=a.unfoc' s g0
      refine z 1 6 ?_
      cases c
      exact lo (a.k2u)
     ·refine q 2 rfl ?_
      cases c
      exact xo a
    refine cI c (fun g1 c=>?_) fun g1 c=>?_
    ·refine q 1 rfl (bE c fun j5 d2 c=>bE c fun j6 d3 c=>bE c fun j7 a8 c=>bE c fun j8 d4 c=>dS [13,15] 2 A1 ?_)
     replace a:=a.drew
     refine D0 8191 0 13 rfl (qR 6 rfl ?_)
     obtain ⟨d5,a9⟩:=a.famI R2 d2
     refine rQ rfl (yIa G3 e0 e0 a rO1 a9) (rQ rfl (yF1 L1 e0 a rO1 a9 rfl) (qR 2 rfl ?_))
     obtain ⟨d6,b0⟩:=a.famI R2 d3
     refine rQ rfl (yIa G3 e0 e0 a rO1 b0) (rQ rfl (yF1 L1 e0 a rO1 b0 rfl) ?_)
     obtain ⟨j9,N⟩:=H9 (u:=d5) a8 (a.famL (mtR (mtR mhR)))
     refine rQ rfl (yIs G3 e0 e0 a rO1 N) (Rn QSn ?_)
     replace a:=a.k10
     refine LT wn (S3 (cs:=[d5.v]) a L1 rfl e0 e0 rfl (mkF rfl) N) fun w a=>D0 16384 12 15 rfl ?_
     obtain ⟨k0,b1⟩:=H9 (u:=d6) d4 (Rf a8 N (a.famL (mtR (mtR mhR))))
     refine rQ rfl (yIs G3 e0 e0 a rO0 b1) (Rn (qS rfl (qS rfl QSn)) (LT wn (S3 (cs:=[d6.v]) a L1 rfl e0 e0 rfl (mkF rfl) b1) fun w a=>?_))
     replace a:=(a.k16).fswap a9 d2 b0 d3 N a8 b1 d4
     refine z 2 2 ?_;intro k1 k3 c w a
     exact jx (_,_,_) ⟨(a.k3w),c⟩
    ·exact q 1 rfl (jx (_,_,_) ⟨(a.k2a),c⟩)
 ·refine q 2 rfl ?_
  cases c
  exact lx (_,_) a
instance:CL prog 111 (type_of% @Hf):=⟨@Hf⟩
theorem Li {b:L2} {d:Int} {e:Hdr} {out:Int×Int} (c:m_gv b d=some out) (f:imm S1 e.v b∈ax) (a:St w0 ax rs w):
  Calls prog 59 #[e.v,iV d] w (rv w0 ax rs (.tuple #[iV out.1,iV out.2])):=by
 refine en func59 rfl ntmps59 fun Q g=>bE c fun l h c=>q 10 rfl (cZ (Qi h f a) fun w a=>q 10 rfl ?_)
 refine cIn c (fun i c=>?_) fun i c=>?_
 ·refine q 6 rfl (bE c fun m j c=>cT_ (If j f a) fun n o w a=>bE c fun p k c=>q 1 rfl (cT_ (Hf k a) fun r s w a=>q 10 rfl (y (O2 V0 e0 a rO2) (q 5 rfl ?_))))
  cases c
  exact zb g results59 ⟨rfl,(a.k1b)⟩
 ·refine q 9 rfl ?_
  cases c
  exact zb g results59 ⟨rfl,a⟩
instance:CL prog 59 (type_of% @Li):=⟨@Li⟩
theorem vo {r:L2} {s:Int} {t:Hdr} {out:LI} (c:m_gy r s=some out) (B:imm S1 t.v r∈ax) (a:St w0 ax rs w):
  Calls prog 21 #[t.v,iV s] w (ro w0 ax rs 3 I1 out):=by
 refine en func21 rfl ntmps21 fun Q C=>?_
 refine z 1 4 ?_
 refine bE c fun u D c=>?_
 replace a:=(a.rowNh 3 I1).immNh S1
 refine lpN (Hdr×Hdr) Hdr D [1,12,13] (fun (m,o,b) (e,f)=>[(5,e.v),(6,f.v),(14,iV b)]) (fun (m,o,b) (e,f)=>St w0 (imm S1 f.v o::ax) (row 3 I1 e.v m::rs)) (fun | u,p=>(.exit 0,[(5,p.v)],St w0 ax (row 3 I1 p.v u::rs))) rfl (_,_) a rfl ?_ ?_
 ·clear a
  rintro p g w a
  refine q 9 rfl ?_
  cases c
  exact C _ _ _ (M3 results21 ⟨rfl,rfl⟩ ⟨_,rfl,a⟩)
 rintro ⟨m,o,b⟩ ⟨e,f⟩ g w E a c
 refine q 6 rfl (cI c (fun F c=>?_) fun F c=>?_)
 ·refine z 1 0 ?_;intro G H c
  obtain ⟨x,a⟩:=iLs a (mtF B) H
  refine y (yCt L1 e0 a F1 rfl) ?_
  refine z 1 1 ?_;intro L N c w a
  refine yh (rLt (n:=1) (l:=[G]) a N9 [x.v] (bp1 e0) rfl rfl (U1 (cs:=[x.v]) rfl (mkS F0) E2)) fun O w a=>bE c fun R I c=>yh (rApC a N9 e0 F2 e0 rO0 I (List.cons_ne_nil _ _)) fun S w a=>bE c fun T J c=>q 7 rfl ?_
  have A:=a
  replace a:=a.fz
  have d:=a.guest0
  replace a:=A
  clear A
  refine yC (C9 bG (a2 e0 e0)) (Li J F0 d) ?_
  clear d
  rintro _ w ⟨rfl,d⟩
  replace a:=a.back d
  clear d
  refine ⟨_,rfl,?_⟩
  refine nf ?_
  refine z 1 3 ?_
  refine jC (LI×L2×Hdr×Hdr) [1,12,13,14] (fun (h,i,j,k)=>[(5,j.v),(6,k.v)]) (fun (h,i,j,k) w=>St w0 (imm S1 k.v i::ax) (row 3 I1 j.v h::rs) w∧m_gw b h i=some E) rfl ?_ ?_
  ·rintro ⟨h,i,j,k⟩ g w ⟨a,c⟩
   refine q 6 rfl ?_
   cases c
   exact ln (_,_) a
  refine cI c (fun K c=>?_) fun K c=>?_
  ·refine q 3 rfl (yh (rLt (n:=1) (l:=[b]) a V0 [iV b] (bp1 e0) rfl rfl (U1 (cs:=[iV b]) rfl mkI E2)) fun U w a=>?_)
   refine z 1 4 ?_;intro V W c X w a
   replace a:=(a.k16).fz
   exact jx (_,_,_,_) ⟨((a.k2m).facts (S0 F0 (N0 (N0 (N0 (N0 E1)))))),c⟩
  ·exact q 1 rfl (jx (_,_,_,_) ⟨((a.k2d).facts (S0 F2 (N0 (N0 (N0 E1))))),c⟩)
 ·refine q 2 rfl ?_
  cases c
  exact lx _ (a.fc)
instance:CL prog 21 (type_of% @vo):=⟨@vo⟩
theorem uo {t:L2} {x:Int} {A:Hdr} {out:L2} (c:m_g1 t x=some out) (J:imm S1 A.v t∈ax) (a:St w0 ax rs w):
  Calls prog 22 #[A.v,iV x] w (fun e w=>∃ (B:Hdr) (C:List Hdr),e=.returned (B.v)∧St w0 ax (row 23 rH B.v C::fam 3 I1 C out::rs) w):=by
 refine en func22 rfl ntmps22 fun Q K=>bE c fun X L c=>q 8 rfl ?_
 obtain ⟨N,em5,O⟩:=Vj L hnil
 refine yh (rMk a G3 e0 O) fun d w a=>?_
 replace a:=(a.fReps 3 I1 N).k10
 rw [← em5] at a
 refine q 7 rfl (y (K6 G3 e0 a rO0 R1) (bE c fun D R c=>q 4 rfl ?_))
 refine lpN (List Hdr) (List Hdr) R [0,5,12] (fun (i,j) f=>[(13,iV j)]) (fun (i,j) f=>St w0 ax (row 23 rH d.v f::fam 3 I1 f i::rs)) (fun | D,k=>(.exit 0,[],St w0 ax (row 23 rH d.v k::fam 3 I1 k D::rs))) rfl _ a rfl ?_ ?_
 ·clear a
  rintro k g w a
  refine q 9 rfl ?_
  cases c
  exact K _ _ _ (M3 results22 ⟨rfl,rfl⟩ ⟨_,_,rfl,a⟩)
 rintro ⟨i,j⟩ f g w Z a c
 refine q 6 rfl (cI c (fun S c=>?_) fun S c=>?_)
 ·refine z 1 4 ?_
  refine bE c fun E T c=>?_
  refine lpN (List Hdr) (List Hdr) T [0,5,6,12,13,16,17] (fun (m,o) h=>[(18,iV o)]) (fun (m,o) h=>St w0 ax (row 23 rH d.v h::fam 3 I1 h m::rs)) (fun | E,p=>(.exit 2,[],St w0 ax (row 23 rH d.v p::fam 3 I1 p E::rs))) rfl _ a rfl ?_ ?_
  ·clear a
   rintro p g w a
   refine q 7 rfl ?_
   cases c
   exact ln _ a
  rintro ⟨m,o⟩ h g w a0 a c
  refine q 6 rfl (cI c (fun U c=>?_) fun U c=>?_)
  ·refine z 1 0 ?_;intro a1 V c
   obtain ⟨a2,a⟩:=iLs a J V
   refine y (yCt L1 e0 a F1 rfl) (bE c fun a3 F c=>bE c fun r G c=>bE c fun a4 W c=>bE c fun a5 H c=>q 3 rfl (dS [10,11,13] 3 A1 ?_))
   replace a:=a.drew
   refine D1 1023 0 10 rfl (qR 4 rfl ?_)
   obtain ⟨a6,b⟩:=a.famI R1 F
   refine rQ rfl (yIa G3 e0 e0 a rO0 b) (rQ rfl (yF1 L1 e0 a rO0 b rfl) (qR 2 rfl (rQ rfl (yIa V0 e0 e0 a (rdI F0) G) (rQ rfl (yI O_3 e0 a (rdI F0) G) (Rn QSn (LH wn (rLt (n:=1) (l:=[r]) a V0 [iV r] (bp1 e0) rfl rfl (U1 (cs:=[iV r]) rfl mkI E2)) fun a7 w a=>dU (D1 0 63 11 rfl (Rn (qS rfl (qS rfl (qS rfl (qS rfl (sY rfl (yIa G3 e0 e0 a rO1 b) (sY rfl (yF1 L1 e0 a rO1 b rfl) QSn)))))) ?_))))))))
   replace a:=(a.k16).foc b F
   refine LH wn (rAp a V0 e0 e0 rO2 W) fun I w a=>dU (D0 4096 3 13 rfl ?_)
   obtain ⟨a8,s⟩:=H9 (u:=I) H (a.famLx (mtR mhR))
   refine rQ rfl (yIs G3 e0 e0 a rO3 s) (Rn (qS rfl (qS rfl QSn)) ?_)
   replace a:=a.k1g
   refine LT wn (S3 (cs:=[I.v]) a L1 rfl e0 e0 rfl (mkF rfl) s) fun w a=>?_
   replace a:=(a.k1d).unfS b s H
   refine z 1 6 ?_
   cases c
   exact ln _ ((a.k1f).fc)
  ·refine q 2 rfl ?_
   cases c
   exact lx _ a
 ·refine q 2 rfl ?_
  cases c
  exact lx _ a
instance:CL prog 22 (type_of% @uo):=⟨@uo⟩
theorem Ef {i b:Int} {s t u:LI} {j k l:Hdr} {out:Int×Int×LI×LI×(List (List (Bool×LI)))×Int} (c:m_g3 i b s t u=some out) (U:imm I1 j.v s∈ax) (V:imm I1 k.v t∈ax) (W:imm Ow l.v u∈ax) (X:globF∈ax) (a:St w0 ax rs w):
  Calls prog 6 #[.agg #[iV i,iV b,j.v,k.v,l.v]] w (fun e w=>∃ (x A B:Hdr) (C:List Hdr),e=.returned (.tuple #[.agg #[iV out.1,iV out.2.1,x.v,A.v,B.v],iV out.2.2.2.2.2])∧St w0 ax (row 3 I1 x.v out.2.2.1::row 3 I1 A.v out.2.2.2.1::row 37 rH B.v C::fam 62 Cw C out.2.2.2.2.1::rs) w):=by
 refine en func6 rfl ntmps6 fun Q m=>?_
 refine z 4 16 ?_;intro G w a n w a H Z c I a0 w a
 refine cIn c (fun J c=>?_) fun J c=>?_
 ·refine z 1 0 ?_
  refine bE c fun d a1 c=>?_
  replace a:=a.ffz
  refine z 6 0 ?_;intro f h w a K w a w a
  refine y (K6 T4 e0 a rO1 R2) ?_
  refine z 3 4 ?_;intro w a L a2 c N w a
  refine bE c fun O R c=>?_
  refine lpN Unit (Hdr×Hdr) R [1,2,4,7,34,35] (fun o _=>[(36,iV o)]) (fun o _=>St w0 (imm (rS Cw) I.v H.1::ax) (box G 26 [iV i,iV b,j.v,k.v,l.v]::box n 33 [iV 0,iV 0,hnil.v,hnil.v,hnil.v]::row 37 rH f.v h::fam 62 Cw h d::box K 33 [iV (ws .i64 b (d.length:Int)),iV 0,hnil.v,hnil.v,f.v]::row 3 I1 N.v L::rs)) (fun | .inl (),(_,_)=>(.exit 0,[],St w0 ax (box n 33 [iV 0,iV 0,hnil.v,hnil.v,hnil.v]::rs)) | .inr (D,E,F),(p,r)=>(.ret,[(3,iV 0)],St w0 ax (row 3 I1 p.v E::row 3 I1 r.v F::row 37 rH f.v h::fam 62 Cw h d::box n 33 [iV (ws .i64 b (d.length:Int)),iV D,p.v,r.v,f.v]::rs))) rfl () (a.k3x) rfl ?_ ?_
  ·clear a
   rintro ⟨p,r⟩ g w a
   rcases O with ⟨⟩ | ⟨D,E,F⟩
   ·refine z 2 4 ?_;intro w a
    cases c
    replace a:=((((a.rowNh 3 I1).rowNh 3 I1).rowNh 37 rH).fNew 62 Cw).k10
    exact m _ _ _ (I4 results6 (C4 rfl rfl a R4 P6 rfl) ⟨rfl,rfl⟩ ⟨_,_,_,_,rfl,(a.k3y)⟩)
   ·refine q 2 rfl ?_
    cases c
    exact m _ _ _ (I4 results6 (C4 rfl rfl a R4 P6 rfl) ⟨rfl,rfl⟩ ⟨_,_,_,_,rfl,(a.k3z)⟩)
  rintro o _ g w a3 a c
  refine q 6 rfl (cI c (fun S c=>?_) fun S c=>?_)
  ·refine z 3 7 ?_;intro a4 a5 c a6 a7 c a8 a9 w a
   refine bE c fun b0 b1 c=>?_
   replace a:=a.ffz
   refine z 3 3 ?_;intro b2 w a
   refine cI c (fun T c=>?_) fun T c=>?_
   ·refine z 2 1 ?_;intro b3 b4 c b5 b6 w a
    refine bE c fun b7 b8 c=>?_
    replace a:=a.ffz
    refine z 6 6 ?_;intro c0 w a w a w a w a w a
    cases c
    exact lx (_,_) ((a.k40).fc)
   ·refine q 7 rfl ?_
    cases c
    exact ln () ((a.k41).facts (S0 F1 (N0 (N0 E1))))
  ·refine q 2 rfl ?_
   cases c
   exact lx (hnil,hnil) ((a.k42).fc)
 ·refine z 2 5 ?_;intro w a
  cases c
  replace a:=((((a.rowNh 3 I1).rowNh 3 I1).rowNh 37 rH).fNew 62 Cw).k10
  exact m _ _ _ (I4 results6 (C4 rfl rfl a R4 P6 rfl) ⟨rfl,rfl⟩ ⟨_,_,_,_,rfl,(a.k43)⟩)
instance:CL prog 6 (type_of% @Ef):=⟨@Ef⟩
theorem so {d:LI} {e:Hdr} {out:Bool} (c:m_g5 d=some out) (i:imm Ow e.v d∈ax) (a:St w0 ax rs w):
  Calls prog 113 #[e.v] w (rv w0 ax rs (.bool out)):=by
 refine en func113 rfl ntmps113 fun Q j=>bE c fun f h c=>q 12 rfl ?_
 refine lp h [0] (fun b=>[(3,iV b)]) (fun b=>St w0 ax rs) (fun | .inl ()=>(.exit 0,[],St w0 ax rs) | .inr ()=>(.ret,[(2,.bool false)],St w0 ax rs)) rfl a rfl ?_ ?_
 ·clear a
  intro g w a
  rcases f with ⟨⟩ | ⟨⟩
  ·exact vx
  ·exact vx
 rintro b g w k a c
 exact vx
instance:CL prog 113 (type_of% @so):=⟨@so⟩
theorem qo {b e:Int} {D y E:LI} {f d i:Hdr} {out:Int} (c:m_g9 b e D y E=some out) (A:imm I1 f.v D∈ax) (h:imm I1 d.v y∈ax) (c9:imm Ow i.v E∈ax) (a:St w0 ax rs w):
  Calls prog 60 #[.agg #[iV b,iV e,f.v,d.v,i.v]] w (rv w0 ax rs (iV out)):=by
 refine en func60 rfl ntmps60 fun Q r=>?_
 refine z 2 2 ?_;intro j w a
 refine jW 4 [1] [(14,.bool ((decide (b < 0)) || (decide ((200:Int) < b))))] (St w0 ax (box j 26 [iV b,iV e,f.v,d.v,i.v]::rs)) rfl (fun S=>?_) ?_
 ·refine gB 10 rfl (fun F=>?_) fun F=>?_
  ·exact q 4 rfl (S _ _ a (O1 (C1 Value.bool (orT F)) rfl))
  ·refine z 1 2 ?_
   exact S _ _ a (O1 (C1 Value.bool (orF F)) rfl)
 intro g w a
 refine q 1 rfl ?_
 refine jW 4 [1] [(19,.bool (((decide (b < 0)) || (decide ((200:Int) < b))) || (decide (e < 0))))] (St w0 ax (box j 26 [iV b,iV e,f.v,d.v,i.v]::rs)) rfl (fun T=>?_) ?_
 ·refine gB 15 rfl (fun G=>?_) fun G=>?_
  ·exact q 4 rfl (T _ _ a (O1 (C1 Value.bool (orT G)) rfl))
  ·refine z 1 2 ?_
   exact T _ _ a (O1 (C1 Value.bool (orF G)) rfl)
 intro g w a
 refine q 1 rfl ?_
 refine jW 4 [1] [(24,.bool ((((decide (b < 0)) || (decide ((200:Int) < b))) || (decide (e < 0))) || (decide ((200:Int) < e))))] (St w0 ax (box j 26 [iV b,iV e,f.v,d.v,i.v]::rs)) rfl (fun U=>?_) ?_
 ·refine gB 20 rfl (fun H=>?_) fun H=>?_
  ·exact q 4 rfl (U _ _ a (O1 (C1 Value.bool (orT H)) rfl))
  ·refine z 1 2 ?_
   exact U _ _ a (O1 (C1 Value.bool (orF H)) rfl)
 intro g w a
 refine q 1 rfl ?_
 refine jW 5 [1] [(30,.bool (((((decide (b < 0)) || (decide ((200:Int) < b))) || (decide (e < 0))) || (decide ((200:Int) < e))) || (decide ((10000:Int) < (y.length:Int)))))] (St w0 ax (box j 26 [iV b,iV e,f.v,d.v,i.v]::rs)) rfl (fun V=>?_) ?_
 ·refine gB 25 rfl (fun I=>?_) fun I=>?_
  ·exact q 5 rfl (V _ _ a (O1 (C1 Value.bool (orT I)) rfl))
  ·refine z 2 2 ?_
   exact V _ _ a (O1 (C1 Value.bool (orF I)) rfl)
 intro g w a
 refine q 2 rfl ?_
 refine cJ c (fun a6 c=>?_) fun a6 c=>?_
 ·refine q 7 rfl ?_
  cases c
  exact za r results60 ⟨rfl,(a.k14)⟩
 ·refine z 4 3 ?_
  refine jW 8 [1,3] [(47,.bool ((!(decide ((E.length:Int)=(y.length:Int)))) || (!(decide ((D.length:Int)=(wa .i64 e 1))))))] (St w0 ax (box j 26 [iV b,iV e,f.v,d.v,i.v]::rs)) rfl (fun W=>?_) ?_
  ·refine gB 39 rfl (fun J=>?_) fun J=>?_
   ·exact q 8 rfl (W _ _ a (O1 (C1 Value.bool (orT J)) rfl))
   ·refine z 3 3 ?_
    exact W _ _ a (O1 (C1 Value.bool (orF J)) rfl)
  intro g w a
  refine bE c fun a7 n c=>q 1 rfl ?_
  refine jW 6 [1,3] [(54,.bool a7)] (St w0 ax (box j 26 [iV b,iV e,f.v,d.v,i.v]::rs)) rfl (fun X=>?_) ?_
  ·refine gJ 48 n rfl (fun a8 n=>?_) fun a8 n=>?_
   ·refine q 6 rfl ?_
    cases n
    exact X _ _ a rfl
   ·refine z 1 0 ?_
    refine bE n fun d0 d1 n=>?_
    refine z 2 2 ?_
    cases n
    exact X _ _ a rfl
  intro g w a
  refine bE c fun a9 o c=>q 1 rfl ?_
  refine jW 9 [1] [(64,.bool a9)] (St w0 ax (box j 26 [iV b,iV e,f.v,d.v,i.v]::rs)) rfl (fun Z=>?_) ?_
  ·refine gJ 55 o rfl (fun b0 o=>?_) fun b0 o=>?_
   ·refine q 9 rfl ?_
    cases o
    exact Z _ _ a rfl
   ·refine z 2 0 ?_
    refine bE o fun d2 d3 o=>?_
    refine z 2 3 ?_
    cases o
    exact Z _ _ a rfl
  intro g w a
  refine q 2 rfl ?_
  refine cJ c (fun b1 c=>?_) fun b1 c=>?_
  ·refine q 7 rfl ?_
   cases c
   exact za r results60 ⟨rfl,(a.k14)⟩
  ·refine q 9 rfl (bE c fun b2 b3 c=>?_)
   refine lp b3 [1] (fun K=>[(4,iV K)]) (fun K=>St w0 ax (box j 26 [iV b,iV e,f.v,d.v,i.v]::rs)) (fun | .inl ()=>(.exit 0,[],St w0 ax (box j 26 [iV b,iV e,f.v,d.v,i.v]::rs)) | .inr ()=>(.ret,[(2,iV 1)],St w0 ax rs)) rfl a rfl ?_ ?_
   ·clear a
    intro g w a
    rcases b2 with ⟨⟩ | ⟨⟩
    ·refine q 9 rfl (bE c fun b4 b5 c=>?_)
     refine lp b5 [1] (fun L=>[(5,iV L)]) (fun L=>St w0 ax (box j 26 [iV b,iV e,f.v,d.v,i.v]::rs)) (fun | .inl ()=>(.exit 2,[],St w0 ax (box j 26 [iV b,iV e,f.v,d.v,i.v]::rs)) | .inr ()=>(.ret,[(2,iV 1)],St w0 ax rs)) rfl a rfl ?_ ?_
     ·clear a
      intro g w a
      rcases b4 with ⟨⟩ | ⟨⟩
      ·refine z 2 3 ?_;intro d4 d5 c w a
       refine cJn c (fun b6 c=>?_) fun b6 c=>?_
       ·refine q 8 rfl ?_
        cases c
        exact za r results60 ⟨rfl,(a.k14)⟩
       ·refine q 7 rfl ?_
        cases c
        exact za r results60 ⟨rfl,(a.k14)⟩
      ·refine q 2 rfl ?_
       cases c
       exact za r results60 ⟨rfl,a⟩
     rintro L g w d6 a c
     refine z 1 3 ?_
     refine cI c (fun b7 c=>?_) fun b7 c=>?_
     ·refine z 3 4 ?_;intro d7 d8 c
      refine bE c fun b8 c0 c=>?_
      refine lp c0 [1,5] (fun N=>[(6,iV N)]) (fun N=>St w0 ax (box j 26 [iV b,iV e,f.v,d.v,i.v]::rs)) (fun | .inl ()=>(.exit 4,[],St w0 ax (box j 26 [iV b,iV e,f.v,d.v,i.v]::rs)) | .inr ()=>(.ret,[(2,iV 1)],St w0 ax rs)) rfl a rfl ?_ ?_
      ·clear a
       intro g w a
       rcases b8 with ⟨⟩ | ⟨⟩
       ·refine q 8 rfl ?_
        cases c
        exact lo a
       ·refine q 3 rfl ?_
        cases c
        exact xo a
      rintro N g w d9 a c
      refine z 3 3 ?_;intro e1 e2 c
      refine cI c (fun c1 c=>?_) fun c1 c=>?_
      ·refine q 5 rfl (bE c fun e3 m c=>bE c fun t p c=>bE c fun u k c=>?_)
       refine jN Unit [1,5,6] (fun _=>[(142,.bool u)]) (fun _=>St w0 ax (box j 26 [iV b,iV e,f.v,d.v,i.v]::rs)) rfl ?_ ?_
       ·rcases G5 p with ⟨x,p⟩ | ⟨x,p⟩
        ·have a0:=J1 p
         have a1:t=true:=a0.symm
         rw [M0 a1] at k
         have c2:=J1 k
         refine dS [] 0 A1 ?_
         replace a:=a.drew
         refine Dw 549755813887 0 (qR 1 rfl (rQ rfl (lb_ d.v L1 e0 a R0) (qR 1 rfl (rQ rfl (yIa V0 e0 e0 a (rdI h) m) (rQ rfl (yI O_3 e0 a (rdI h) m) (qR 2 rfl (rK 110 rfl (dT x) (qR 8 rfl (rQ rfl (pt_ (.bool t) e0 rfl (eqv a0 rfl)) (qR 1 rfl (rK 120 rfl a1 (qR 21 rfl (rQ rfl (pt_ (.bool u) e0 rfl (eqv c2 rfl)) ?_)))))))))))))
         exact Rn QSn (jr () a)
        ·refine bE p fun e4 s p=>?_
         have O:=J1 p
         rcases G5 k with ⟨B,k⟩ | ⟨B,k⟩
         ·have c3:=J1 k
          refine dS [] 0 A1 ?_
          replace a:=a.drew
          refine Dw 549755813887 0 (qR 1 rfl (rQ rfl (lb_ d.v L1 e0 a R0) (qR 1 rfl (rQ rfl (yIa V0 e0 e0 a (rdI h) m) (rQ rfl (yI O_3 e0 a (rdI h) m) (qR 2 rfl (rK 110 rfl (dF x) (qR 1 rfl (rQ rfl (lb_ d.v L1 e0 a R0) (qR 1 rfl (rQ rfl (yIa V0 e0 e0 a (rdI h) s) (rQ rfl (yI O_3 e0 a (rdI h) s) (qR 1 rfl ?_)))))))))))))
          exact rQ rfl (lb_ (iV b) O_3 e0 a R0) (qR 1 rfl (rQ rfl (pf_ (.bool t) e0 rfl (eqv O e0)) (qR 1 rfl (rK 120 rfl B (qR 21 rfl (rQ rfl (pt_ (.bool u) e0 rfl (eqv c3 rfl)) (Rn QSn (jr () a))))))))
         ·refine bE k fun e5 C k=>bE k fun a2 l k=>?_
          have a3:=J1 k
          rcases G5 l with ⟨R,l⟩ | ⟨R,l⟩
          ·refine bE l fun e6 a4 l=>bE l fun e7 a5 l=>?_
           have c4:=J1 l
           refine dS [] 0 A1 ?_
           replace a:=a.drew
           refine Dw 549755813887 0 (qR 1 rfl (rQ rfl (lb_ d.v L1 e0 a R0) (qR 1 rfl (rQ rfl (yIa V0 e0 e0 a (rdI h) m) (rQ rfl (yI O_3 e0 a (rdI h) m) (qR 2 rfl (rK 110 rfl (dF x) (qR 1 rfl (rQ rfl (lb_ d.v L1 e0 a R0) (qR 1 rfl (rQ rfl (yIa V0 e0 e0 a (rdI h) s) (rQ rfl (yI O_3 e0 a (rdI h) s) (qR 1 rfl ?_)))))))))))))
           refine rQ rfl (lb_ (iV b) O_3 e0 a R0) (qR 1 rfl (rQ rfl (pf_ (.bool t) e0 rfl (eqv O e0)) (qR 1 rfl (rK 120 rfl (E3 B) (qR 2 rfl (rQ rfl (lb_ f.v L1 e0 a R0) (qR 1 rfl (rQ rfl (yIa V0 e0 e0 a (rdI A) C) (rQ rfl (yI O_3 e0 a (rdI A) C) (qR 2 rfl (rK 128 rfl (dT R) (qR 1 rfl (rQ rfl (lb_ d.v L1 e0 a R0) ?_)))))))))))))
           exact qR 1 rfl (rQ rfl (yIa V0 e0 e0 a (rdI h) a4) (rQ rfl (yI O_3 e0 a (rdI h) a4) (qR 1 rfl (rQ rfl (lb_ d.v L1 e0 a R0) (qR 2 rfl (rQ rfl (yIa V0 e0 e0 a (rdI h) a5) (rQ rfl (yI O_3 e0 a (rdI h) a5) (qR 1 rfl (rQ rfl (pt_ (.bool a2) e0 rfl (eqv c4 e0)) (rQ rfl (pf_ (.bool u) e0 rfl (eqv a3 e0)) (Rn QSn (jr () a))))))))))))
          ·have c5:=J1 l
           refine dS [] 0 A1 ?_
           replace a:=a.drew
           refine Dw 549755813887 0 (qR 1 rfl (rQ rfl (lb_ d.v L1 e0 a R0) (qR 1 rfl (rQ rfl (yIa V0 e0 e0 a (rdI h) m) (rQ rfl (yI O_3 e0 a (rdI h) m) (qR 2 rfl (rK 110 rfl (dF x) (qR 1 rfl (rQ rfl (lb_ d.v L1 e0 a R0) (qR 1 rfl (rQ rfl (yIa V0 e0 e0 a (rdI h) s) (rQ rfl (yI O_3 e0 a (rdI h) s) (qR 1 rfl ?_)))))))))))))
           refine rQ rfl (lb_ (iV b) O_3 e0 a R0) (qR 1 rfl (rQ rfl (pf_ (.bool t) e0 rfl (eqv O e0)) (qR 1 rfl (rK 120 rfl (E3 B) (qR 2 rfl (rQ rfl (lb_ f.v L1 e0 a R0) (qR 1 rfl (rQ rfl (yIa V0 e0 e0 a (rdI A) C) (rQ rfl (yI O_3 e0 a (rdI A) C) (qR 2 rfl (rK 128 rfl (dF R) (qR 12 rfl (rQ rfl (pf_ (.bool a2) e0 rfl (eqv c5 rfl)) ?_)))))))))))))
           exact rQ rfl (pf_ (.bool u) e0 rfl (eqv a3 e0)) (Rn QSn (jr () a))
       rintro _ g w a
       refine q 1 rfl ?_
       refine cJ c (fun c6 c=>?_) fun c6 c=>?_
       ·refine q 8 rfl ?_
        cases c
        exact xo (a.k14)
       ·refine q 8 rfl ?_
        cases c
        exact lo a
      ·refine q 2 rfl ?_
       cases c
       exact xo a
     ·refine q 2 rfl ?_
      cases c
      exact xo a
    ·refine q 2 rfl ?_
     cases c
     exact za r results60 ⟨rfl,a⟩
   rintro K g w e8 a c
   refine z 1 3 ?_
   refine cI c (fun c7 c=>?_) fun c7 c=>?_
   ·refine q 5 rfl (bE c fun e9 f0 c=>bE c fun f1 f2 c=>dS [] 0 A1 ?_)
    replace a:=a.drew
    refine z 7 1 ?_
    refine cI c (fun c8 c=>?_) fun c8 c=>?_
    ·refine q 8 rfl ?_
     cases c
     exact xo (a.k14)
    ·refine q 8 rfl ?_
     cases c
     exact lo a
   ·refine q 2 rfl ?_
    cases c
    exact xo a
instance:CL prog 60 (type_of% @qo):=⟨@qo⟩
theorem Oo {b:Int} {out:Bool} (c:m_ha b=some out) (a:St w0 ax rs w):
  Calls prog 116 #[.int .u64 b] w (rv w0 ax rs (.bool out)):=by
 exact en func116 rfl ntmps116 fun Q d=>vx
instance:CL prog 116 (type_of% @Oo):=⟨@Oo⟩
theorem No {e:Int} {out:Bool×Bool×LI×Int} (c:m_hc e=some out) (i:globF∈ax) (a:St w0 ax rs w):
  Calls prog 61 #[.int .u64 e] w (rd w0 ax rs out):=by
 refine en func61 rfl ntmps61 fun Q f=>?_
 refine v 18 ?_
 refine fun h _ _ _ _ _ w a=>⟨fun _ c=>?_,fun _ _ _ _ c _ _ _ a=>?_⟩
 ·refine jC (Int×Int) [0,2] (fun (b,d)=>[(4,.int .u64 b),(5,iV d)]) (fun (b,d) w=>St w0 ax (box h 80 [.bool false,.bool false,hnil.v,iV 0]::rs) w∧m_hb e b d=some out) rfl ?_ ?_
  ·rintro ⟨b,d⟩ g w ⟨a,c⟩
   refine z 1 5 ?_;intro j k c w a
   exact yh (rLt (n:=2) (l:=[wc .u32 b,wc .u32 (wsrc .u64 b 32)]) a X1 [.int .u32 (wc .u32 b),.int .u32 (wc .u32 (wsrc .u64 b 32))] (bp2 e0 e0) rfl rfl (U1 (cs:=[.int .u32 (wc .u32 b)]) rfl mkI (U1 (cs:=[.int .u32 (wc .u32 (wsrc .u64 b 32))]) rfl mkI E2))) fun m w a=>vx
  exact vx
 ·cases c
  replace a:=a.immNh xw
  exact f _ _ _ (M3 results61 (C4 rfl rfl a R0 M9 rfl) ⟨_,rfl,(a.k14)⟩)
instance:CL prog 61 (type_of% @No):=⟨@No⟩
theorem Ko {b d:Bool} {e:LI} {f:Int} {g:Hdr} {out:Int} (c:m_hd b d e f=some out) (h:imm xw g.v e∈ax) (i:globF∈ax) (a:St w0 ax rs w):
  Calls prog 62 #[.agg #[.bool b,.bool d,g.v,iV f]] w (rv w0 ax rs (iV out)):=by
 exact en func62 rfl ntmps62 fun Q j=>vx
instance:CL prog 62 (type_of% @Ko):=⟨@Ko⟩
theorem Jo {f h:Int} {y A B:LI} {i d e:Hdr} {out:(List (Int×Int×Int))} (c:m_hg f h y A B=some out) (R:imm I1 i.v y∈ax) (C:imm I1 d.v A∈ax) (D:imm Ow e.v B∈ax) (a:St w0 ax rs w):
  Calls prog 118 #[.agg #[iV f,iV h,i.v,d.v,e.v]] w (ro w0 ax rs 86 rTi64i64u64 out):=by
 refine en func118 rfl ntmps118 fun Q E=>?_
 refine z 3 3 ?_;intro p w a S T c w a
 refine cIn c (fun J c=>?_) fun J c=>?_
 ·refine q 14 rfl (bE c fun F K c=>?_)
  replace a:=a.rowNh 86 rTi64i64u64
  refine lpN Hdr Hdr K [1] (fun (r,b) m=>[(3,m.v),(4,iV b)]) (fun (r,b) m=>St w0 ax (box p 26 [iV f,iV h,i.v,d.v,e.v]::row 86 rTi64i64u64 m.v r::rs)) (fun | F,s=>(.exit 0,[(3,s.v)],St w0 ax (row 86 rTi64i64u64 s.v F::rs))) rfl _ (a.k10) rfl ?_ ?_
  ·clear a
   rintro s g w a
   refine q 9 rfl ?_
   cases c
   exact E _ _ _ (M3 results118 ⟨rfl,rfl⟩ ⟨_,rfl,a⟩)
  rintro ⟨r,b⟩ m g w U a c
  refine z 1 3 ?_
  refine cI c (fun L c=>?_) fun L c=>?_
  ·refine z 3 4 ?_;intro V W c
   refine bE c fun G N c=>?_
   refine lpN Hdr Hdr N [1,4] (fun (t,u) o=>[(3,o.v),(5,iV u)]) (fun (t,u) o=>St w0 ax (box p 26 [iV f,iV h,i.v,d.v,e.v]::row 86 rTi64i64u64 o.v t::rs)) (fun | G,x=>(.exit 2,[(3,x.v)],St w0 ax (box p 26 [iV f,iV h,i.v,d.v,e.v]::row 86 rTi64i64u64 x.v G::rs))) rfl _ a rfl ?_ ?_
   ·clear a
    rintro x g w a
    refine q 8 rfl ?_
    cases c
    exact ln _ a
   rintro ⟨t,u⟩ o g w X a c
   refine z 3 3 ?_;intro Z a0 c
   refine cI c (fun O c=>?_) fun O c=>?_
   ·refine q 4 rfl (bE c fun j H c=>bE c fun k I c=>bE c fun a1 a2 c=>dS [13,14,15] 3 A1 ?_)
    replace a:=a.drew
    refine D1 8191 0 13 rfl (qR 2 rfl (rQ rfl (lb_ d.v L1 e0 a R0) (qR 1 rfl (rQ rfl (yIa V0 e0 e0 a (rdI C) H) (rQ rfl (yI O_3 e0 a (rdI C) H) (qR 2 rfl (rQ rfl (lb_ e.v O9 e0 a R0) (qR 1 rfl (rQ rfl (yIa X8 e0 e0 a (rdI D) I) (rQ rfl (yI Dc e0 a (rdI D) I) (rQ rfl (Y9 (us:=[iV j,iV b,.int .u64 k]) [(0,iV j),(1,iV b),(2,.int .u64 k)] kl (bp3 e0 e0 e0) rfl) (Rn QSn (LH wn (rLt (n:=1) (l:=[(j,b,k)]) a Ld [.agg #[iV j,iV b,.int .u64 k]] (bp1 e0) rfl rfl (U1 (cs:=[iV j,iV b,.int .u64 k]) rfl (mkF rfl) E2)) ?_)))))))))))))
    refine fun a3 w a=>dU ?_
    refine z 3 7 ?_;intro a4 w a
    cases c
    exact ln _ (a.k1c)
   ·refine q 2 rfl ?_
    cases c
    exact lx _ a
  ·refine q 2 rfl ?_
   cases c
   exact lx _ (a.k12)
 ·refine q 7 rfl ?_
  cases c
  replace a:=a.rowNh 86 rTi64i64u64
  exact E _ _ _ (M3 results118 ⟨rfl,rfl⟩ ⟨_,rfl,(a.k11)⟩)
instance:CL prog 118 (type_of% @Jo):=⟨@Jo⟩
theorem Io {h i:Int} {B C D:LI} {j k m:Hdr} {out:L2×Int} (c:m_hj h i B C D=some out) (a7:imm I1 j.v B∈ax) (a8:imm I1 k.v C∈ax) (a9:imm Ow m.v D∈ax) (a:St w0 ax rs w):
  Calls prog 63 #[.agg #[iV h,iV i,j.v,k.v,m.v]] w (fun e w=>∃ (E:Hdr) (F:List Hdr),e=.returned (.tuple #[E.v,iV out.2])∧St w0 ax (row 24 rH E.v F::fam 30 Ow F out.1::rs) w):=by
 refine en func63 rfl ntmps63 fun Q G=>?_
 refine z 3 9 ?_;intro H w a b0 b1 c w a
 refine cIn c (fun T c=>?_) fun T c=>?_
 ·refine q 14 rfl (bE c fun I U c=>?_)
  replace a:=((a.rowNh 24 rH).fNew 30 Ow).k10
  refine lpN (Hdr×(List Hdr)) (Hdr×(List Hdr)) U [1] (fun (r,s) (o,p)=>[(5,o.v),(6,iV s)]) (fun (r,s) (o,p)=>St w0 ax (box H 26 [iV h,iV i,j.v,k.v,m.v]::row 24 rH o.v p::fam 30 Ow p r::rs)) (fun | I,(d,b)=>(.exit 0,[(5,d.v)],St w0 ax (box H 26 [iV h,iV i,j.v,k.v,m.v]::row 24 rH d.v b::fam 30 Ow b I::rs))) rfl (_,_) (a.k16) rfl ?_ ?_
  ·clear a
   rintro ⟨d,b⟩ g w a
   refine z 2 10 ?_;intro V b2 c W w a
   refine bE c fun J X c=>?_
   refine lp X [5,7] (fun (t,x)=>[(8,iV x)]) (fun (t,x)=>St w0 ax (row 24 rH d.v b::fam 30 Ow b t::row 86 rTi64i64u64 W.v V::rs)) (fun | J=>(.exit 2,[],St w0 ax (row 24 rH d.v b::fam 30 Ow b J::rs))) rfl (a.k1h) rfl ?_ ?_
   ·clear a
    intro g w a
    refine q 10 rfl ?_
    cases c
    exact G _ _ _ (I4 results63 ⟨rfl,rfl⟩ ⟨rfl,rfl⟩ ⟨_,_,rfl,a⟩)
   rintro ⟨t,x⟩ g w b3 a c
   refine z 1 3 ?_
   refine cI c (fun Z c=>?_) fun Z c=>?_
   ·refine q 4 rfl (bE c fun a0 K c=>bE c fun b4 y c=>bE c fun a1 L c=>bE c fun N O c=>bE c fun b5 R c=>bE c fun b6 a2 c=>dS [19] 1 A1 ?_)
    replace a:=a.drew
    refine D0 524287 0 19 rfl (qR 3 rfl (rQ rfl (yIa Ld e0 e0 a rO2 K) (rQ rfl (yFe pG e0) (rQ rfl (yFf (u:=iV a0.1) O_3 e0 a rO2 K rfl) ?_))))
    obtain ⟨b7,f⟩:=a.famI R1 y
    refine rQ rfl (yIa wh e0 e0 a rO0 f) (rQ rfl (yF1 O9 e0 a rO0 f rfl) (qR 2 rfl (rQ rfl (yIa Ld e0 e0 a rO2 L) (rQ rfl (yFe oG e0) (rQ rfl (yFf (u:=iV a1.2.1) O_3 e0 a rO2 L rfl) (qR 2 rfl (rQ rfl (yIa Ld e0 e0 a rO2 O) (rQ rfl (yFe nG e0) (rQ rfl (yFf (u:=.int .u64 N.2.2) Dc e0 a rO2 O rfl) (rQ rfl (yIs X8 e0 e0 a (rdF R1 f y) R) (Rn QSn ?_)))))))))))
    replace a:=a.k10
    refine LT wn (S3 (cs:=[.int .u64 N.2.2]) (a.foc f y) Dc rfl e0 e0 rfl mkI R) fun w a=>?_
    replace a:=a.unfoc' f a2
    refine z 1 7 ?_
    cases c
    exact lo (a.k2k)
   ·refine q 2 rfl ?_
    cases c
    exact xo (a.k1q)
  rintro ⟨r,s⟩ ⟨o,p⟩ g w b8 a c
  refine z 1 3 ?_
  refine cI c (fun a3 c=>?_) fun a3 c=>?_
  ·refine z 1 0 ?_
   refine bE c fun a4 a5 c=>yh (rMk a X8 e0 a5) fun A w a=>yh (rLt (n:=1) (l:=[A]) a wh [A.v] (bp1 e0) rfl rfl (U1 rfl (mkF rfl) E2)) fun c0 w a=>bE c fun c1 S c=>?_
   replace a:=a.k1g
   obtain ⟨c2,ey80,a6⟩:=Bc S (a.famL R4) (show [A].length=[a4].length from rfl)
   refine yh (rAp a wh e0 e0 rO1 a6) fun c3 w a=>?_
   replace a:=(a.k44).fPush
   rw [← ey80,← (Ma S).1] at a
   refine q 9 rfl ?_
   cases c
   exact ln (_,_) (a.k17)
  ·refine q 2 rfl ?_
   cases c
   exact lx (_,_) a
 ·refine q 9 rfl ?_
  cases c
  replace a:=((a.rowNh 24 rH).fNew 30 Ow).k10
  exact G _ _ _ (I4 results63 ⟨rfl,rfl⟩ ⟨rfl,rfl⟩ ⟨_,_,rfl,(a.k1q)⟩)
instance:CL prog 63 (type_of% @Io):=⟨@Io⟩
theorem je {b d:Int} {W X Z:LI} {f h i:Hdr} {out:(List (List (Bool×LI)))×Int×Int} (c:m_hp b d W X Z=some out) (c3:imm I1 f.v W∈ax) (c4:imm I1 h.v X∈ax) (c5:imm Ow i.v Z∈ax) (c6:globF∈ax) (a:St w0 ax rs w):
  Calls prog 23 #[.agg #[iV b,iV d,f.v,h.v,i.v]] w (fun e w=>∃ (a0:Hdr),e=.returned (.tuple #[a0.v,iV out.2.1,iV out.2.2])∧St w0 ax (row 37 (rS Cw) a0.v out.1::rs) w):=by
 refine en func23 rfl ntmps23 fun Q K=>?_
 refine z 3 9 ?_;intro j w a c7 c8 c w a
 refine cIn c (fun a9 c=>?_) fun a9 c=>?_
 ·refine z 1 2 ?_
  refine jW 4 [1] [(29,.bool ((decide ((16:Int) < b)) || (decide ((16:Int) < d))))] (St w0 ax (box j 26 [iV b,iV d,f.v,h.v,i.v]::rs)) rfl (fun a1=>?_) ?_
  ·refine gB 25 rfl (fun L=>?_) fun L=>?_
   ·exact q 4 rfl (a1 _ _ a (O1 (C1 Value.bool (orT L)) rfl))
   ·refine z 1 2 ?_
    exact a1 _ _ a (O1 (C1 Value.bool (orF L)) rfl)
  intro g w a
  refine q 2 rfl ?_
  refine cJ c (fun b0 c=>?_) fun b0 c=>?_
  ·refine q 9 rfl ?_
   cases c
   replace a:=a.rowNh 37 (rS Cw)
   exact K _ _ _ (V7 results23 ⟨rfl,rfl⟩ ⟨rfl,rfl⟩ ⟨rfl,rfl⟩ ⟨_,rfl,(a.k11)⟩)
  ·refine q 15 rfl (bE c fun a2 b1 c=>?_)
   refine lp b1 [1] (fun (r,s,u)=>[(6,iV r),(7,.bool s),(8,iV u)]) (fun (r,s,u)=>St w0 ax (box j 26 [iV b,iV d,f.v,h.v,i.v]::rs)) (fun | a2=>(.exit 0,[(6,iV a2)],St w0 ax (box j 26 [iV b,iV d,f.v,h.v,i.v]::rs))) rfl a rfl ?_ ?_
   ·clear a
    intro g w a
    refine z 2 19 ?_;intro x c9 c A m w a
    refine bE c fun a3 b2 c=>?_
    replace a:=a.rowNh 37 (rS Cw)
    refine lpN Hdr Hdr b2 [1,6,10] (fun (p,N) o=>[(12,o.v),(13,iV N)]) (fun (p,N) o=>St w0 ax (box j 26 [iV b,iV d,f.v,h.v,i.v]::row 24 rH A.v m::fam 30 Ow m x.1::row 37 (rS Cw) o.v p::rs)) (fun | a3,O=>(.exit 2,[(12,O.v)],St w0 ax (row 37 (rS Cw) O.v a3::rs))) rfl _ (a.k45) rfl ?_ ?_
    ·clear a
     rintro O g w a
     refine q 12 rfl ?_
     cases c
     exact K _ _ _ (V7 results23 ⟨rfl,rfl⟩ ⟨rfl,rfl⟩ ⟨rfl,rfl⟩ ⟨_,rfl,a⟩)
    rintro ⟨p,N⟩ o g w d0 a c
    refine z 1 3 ?_
    refine cI c (fun b3 c=>?_) fun b3 c=>?_
    ·refine q 16 rfl (bE c fun R b4 c=>?_)
     replace a:=a.rowNh 62 Cw
     refine lpN Hdr Hdr b4 [1,6,10,12,13] (fun (S,B) C=>[(14,C.v),(15,iV B)]) (fun (S,B) C=>St w0 ax (box j 26 [iV b,iV d,f.v,h.v,i.v]::row 24 rH A.v m::fam 30 Ow m x.1::row 37 (rS Cw) o.v p::row 62 Cw C.v S::rs)) (fun | R,t=>(.exit 4,[(14,t.v)],St w0 ax (box j 26 [iV b,iV d,f.v,h.v,i.v]::row 24 rH A.v m::fam 30 Ow m x.1::row 37 (rS Cw) o.v p::row 62 Cw t.v R::rs))) rfl _ (a.k2g) rfl ?_ ?_
     ·clear a
      rintro t g w a
      refine q 5 rfl ?_
      replace a:=(a.k1m).fz
      refine yh (rLt (n:=1) (l:=[R]) a A5 [t.v] (bp1 e0) rfl rfl (U1 (cs:=[t.v]) rfl (mkS F0) E2)) fun d1 w a=>?_
      refine z 1 9 ?_;intro d2 d3 c d4 w a
      cases c
      exact ln _ ((a.k46).fc)
     rintro ⟨S,B⟩ C g w b5 a c
     refine z 1 3 ?_
     refine cI c (fun b6 c=>?_) fun b6 c=>?_
     ·refine q 8 rfl (bE c fun d5 T c=>?_)
      obtain ⟨d6,D⟩:=a.famI R2 T
      refine y (yIa wh e0 e0 a rO1 D) (y (yF1 O9 e0 a rO1 D rfl) (bE c fun d7 a4 c=>q 1 rfl (y (yIa X8 e0 e0 a (rdF R2 D T) a4) (y (yI Dc e0 a (rdF R2 D T) a4) ?_))))
      refine z 5 3 ?_;intro d8 d9 c e1 w a e2 w a w a e3 e4 c w a
      refine jC ((List (Bool×LI))×Hdr) [1,6,10,12,13,15] (fun (E,F)=>[(14,F.v)]) (fun (E,F) w=>St w0 ax (box j 26 [iV b,iV d,f.v,h.v,i.v]::row 24 rH A.v m::fam 30 Ow m x.1::row 37 (rS Cw) o.v p::row 62 Cw F.v E::rs) w∧m_hk B E=some b5) rfl ?_ ?_
      ·rintro ⟨E,F⟩ g w ⟨a,c⟩
       refine q 7 rfl ?_
       cases c
       exact ln _ a
      refine cI c (fun b7 c=>?_) fun b7 c=>?_
      ·refine z 1 0 ?_
       refine yh (rLt (n:=1) (l:=[(false,[])]) a V2 [.agg #[.bool false,hnil.v]] (bp1 e0) rfl rfl (U1 (cs:=[.bool false,hnil.v]) rfl (mkP mkB Ws) E2)) fun e5 w a=>?_
       refine z 1 2 ?_;intro e6 e7 c e8 w a
       exact jx (_,_) ⟨((a.k47).fc),c⟩
      ·refine z 3 0 ?_;intro G e9 c a5 w a
       replace a:=a.fz
       refine yh (rLt (n:=1) (l:=[(G.1,G.2)]) a V2 [.agg #[.bool G.1,a5.v]] (bp1 e0) rfl rfl (U1 (cs:=[.bool G.1,a5.v]) rfl (mkP mkB (mkS F0)) E2)) fun f0 w a=>?_
       refine z 1 2 ?_;intro f1 f2 c f3 w a
       exact jx (_,_) ⟨((a.k47).fc),c⟩
     ·refine q 2 rfl ?_
      cases c
      exact lx _ a
    ·refine q 2 rfl ?_
     cases c
     exact lx _ (a.k2i)
   rintro ⟨r,s,u⟩ g w b8 a c
   refine z 2 3 ?_
   refine cI c (fun c0 c=>?_) fun c0 c=>?_
   ·refine z 8 2 ?_;intro f4 f5 c k f6 c H w a a6 w a w a c1 f7 c w a
    refine jW 9 [1,6,7,8,9] [(55,.bool ((!(decide (c1=0))) && ((!s) || (decide (k.2.2.2 < r)))))] (St w0 (imm xw H.v k.2.2.1::ax) (box j 26 [iV b,iV d,f.v,h.v,i.v]::box a6 80 [.bool k.1,.bool k.2.1,H.v,iV k.2.2.2]::rs)) rfl (fun a7=>?_) ?_
    ·refine gB 46 rfl (fun U=>?_) fun U=>?_
     ·refine q 3 rfl ?_
      refine jW 5 [1,6,7,8,9,46] [(54,.bool ((!s) || (decide (k.2.2.2 < r))))] (St w0 (imm xw H.v k.2.2.1::ax) (box j 26 [iV b,iV d,f.v,h.v,i.v]::box a6 80 [.bool k.1,.bool k.2.1,H.v,iV k.2.2.2]::rs)) rfl (fun a8=>?_) ?_
      ·refine gB 49 rfl (fun V=>?_) fun V=>?_
       ·exact q 5 rfl (a8 _ _ (a.k10) (O1 (C1 Value.bool (orT V)) rfl))
       ·refine z 1 3 ?_
        exact a8 _ _ (a.k10) (O1 (C1 Value.bool (orF V)) rfl)
      intro g w a
      exact q 1 rfl (a7 _ _ a (O1 (C1 Value.bool (B6 U)) rfl))
     ·exact q 9 rfl (a7 _ _ (a.k10) (O1 (C1 Value.bool (C6 U)) rfl))
    intro g w a
    refine q 2 rfl ?_
    refine jC (Int×Bool) [1,8] (fun (I,J)=>[(6,iV I),(7,.bool J)]) (fun (I,J) w=>St w0 ax (box j 26 [iV b,iV d,f.v,h.v,i.v]::rs) w∧m_hn u I J=some b8) rfl ?_ ?_
    ·rintro ⟨I,J⟩ g w ⟨a,c⟩
     refine q 7 rfl ?_
     cases c
     exact lo a
    refine cJ c (fun c2 c=>?_) fun c2 c=>?_
    ·refine z 1 3 ?_
     exact jx (_,_) ⟨((a.k11).fc),c⟩
    ·exact q 1 rfl (jx (_,_) ⟨((a.k11).fc),c⟩)
   ·refine q 2 rfl ?_
    cases c
    exact xo a
 ·refine q 10 rfl ?_
  cases c
  replace a:=a.rowNh 37 (rS Cw)
  exact K _ _ _ (V7 results23 ⟨rfl,rfl⟩ ⟨rfl,rfl⟩ ⟨rfl,rfl⟩ ⟨_,rfl,(a.k11)⟩)
instance:CL prog 23 (type_of% @je):=⟨@je⟩
end Go.Proofs.YthekfonboblioabGreatDoor
