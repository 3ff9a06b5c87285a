/- Walks: each function computes its model, printed. -/
import Derived.Test.YthekfonboblioabGreatDoorW11
namespace Go.Proofs.YthekfonboblioabGreatDoor
open Go Sx M Go.Proofs.Tryz
set_option maxRecDepth 100000
set_option maxHeartbeats 40000000
set_option linter.unusedVariables false
attribute [local irreducible] wpList Code.wp Calls DR QR QS LA LS St row box fam imm rowS loop
variable {w0:World} {ax:List Fact} {rs:List Res} {w:World}
theorem uf {c7:L2} {W:Int} {c8:Hdr} {out:L2×LI×Int} (c:m_jy c7 W=some out) (c9:imm S1 c8.v c7∈ax) (a:St w0 ax rs w):
  Calls prog 80 #[c8.v,iV W] w (fun e w=>∃ (d0:Hdr) (d1:List Hdr) (d2:Hdr),e=.returned (.tuple #[d0.v,d2.v,iV out.2.2])∧St w0 ax (row 23 rH d0.v d1::fam 3 I1 d1 out.1::row 3 I1 d2.v out.2.1::rs) w):=by
 refine en func80 rfl ntmps80 fun Q g2=>bE c fun d3 g3 c=>q 19 rfl ?_
 replace a:=((a.rowNh 23 rH).fNew 3 I1).k10
 refine lpN (Hdr×(List Hdr)) (Hdr×(List Hdr)) g3 [0,1] (fun (t,X) (p,k)=>[(7,p.v),(8,iV X)]) (fun (t,X) (p,k)=>St w0 ax (row 23 rH p.v k::fam 3 I1 k t::rs)) (fun | d3,(d,Z)=>(.exit 0,[(7,d.v)],St w0 ax (row 23 rH d.v Z::fam 3 I1 Z d3::rs))) rfl (_,_) a rfl ?_ ?_
 ·clear a
  rintro ⟨d,Z⟩ g w a
  refine z 1 15 ?_;intro j3 j4 c
  obtain ⟨⟨d4,d5,d6⟩,g4,c⟩:=bs c
  replace a:=a.rowNh 3 I1
  refine lpN ((List Hdr)×Hdr) ((List Hdr)×Hdr) g4 [0,1,7] (fun (r,a0,f,m) (i,h)=>[(11,iV a0),(12,h.v),(13,iV m)]) (fun (r,a0,f,m) (i,h)=>St w0 ax (row 23 rH d.v i::fam 3 I1 i r::row 3 I1 h.v f::rs)) (fun | (d4,d5,d6),(a1,a2)=>(.exit 4,[(11,iV d5),(12,a2.v)],St w0 ax (row 23 rH d.v a1::fam 3 I1 a1 d4::row 3 I1 a2.v d6::rs))) rfl (_,_) (a.k1d) rfl ?_ ?_
  ·clear a
   rintro ⟨a1,a2⟩ g w a
   refine q 13 rfl ?_
   cases c
   exact g2 _ _ _ (V7 results80 ⟨rfl,rfl⟩ ⟨rfl,rfl⟩ ⟨rfl,rfl⟩ ⟨_,_,_,rfl,a⟩)
  rintro ⟨r,a0,f,m⟩ ⟨i,h⟩ g w d7 a c
  refine z 1 3 ?_;intro j5 j6 c w a
  refine cI c (fun g5 c=>?_) fun g5 c=>?_
  ·refine q 3 rfl ?_
   refine jC (L2×Int×LI×(List Hdr)×Hdr) [0,1,7,13] (fun (A,B,C,D,E)=>[(11,iV B),(12,E.v)]) (fun (A,B,C,D,E) w=>St w0 ax (row 23 rH d.v D::fam 3 I1 D A::row 3 I1 E.v C::rs) w∧m_jp m A B C=some d7) rfl ?_ ?_
   ·rintro ⟨A,B,C,D,E⟩ g w ⟨a,c⟩
    refine q 6 rfl ?_
    cases c
    exact ln (_,_) a
   refine z 1 11 ?_
   refine bE c fun d8 g6 c=>?_
   refine lp g6 [0,1,7,11,12,13,14] (fun a3=>[(15,iV a3)]) (fun a3=>St w0 ax (row 23 rH d.v i::fam 3 I1 i r::row 3 I1 h.v f::rs)) (fun | d8=>(.exit 6,[(15,iV d8)],St w0 ax (row 23 rH d.v i::fam 3 I1 i r::row 3 I1 h.v f::rs))) rfl a rfl ?_ ?_
   ·clear a
    intro g w a
    refine q 7 rfl (y (K6 G3 e0 a rO0 R1) (q 3 rfl (cI c (fun g7 c=>?_) fun g7 c=>?_)))
    ·exact q 8 rfl (jx (_,_,_,_,_) ⟨a,c⟩)
    ·refine q 10 rfl ?_
     refine jC (L2×Int×(List Hdr)) [0,1,7,12,13,14] (fun (F,G,b)=>[(11,iV G)]) (fun (F,G,b) w=>St w0 ax (row 23 rH d.v b::fam 3 I1 b F::row 3 I1 h.v f::rs) w∧m_jt f m W F G=some d7) rfl ?_ ?_
     ·rintro ⟨F,G,b⟩ g w ⟨a,c⟩
      refine bE c fun j7 a4 c=>q 6 rfl ?_
      obtain ⟨j8,H⟩:=a.famI R1 a4
      refine y (yIa G3 e0 e0 a rO0 H) (y (yF1 L1 e0 a rO0 H rfl) (bE c fun j9 d9 c=>q 1 rfl (y (yIa V0 e0 e0 a (rdF R1 H a4) d9) (y (yI O_3 e0 a (rdF R1 H a4) d9) ?_))))
      refine z 1 7 ?_;intro k0 k1 c
      refine bE c fun k2 a5 c=>?_
      obtain ⟨k3,I⟩:=a.famI R1 a5
      refine y (yIa G3 e0 e0 a rO0 I) (y (yF1 L1 e0 a rO0 I rfl) (bE c fun k4 e1 c=>q 1 rfl (y (yIa V0 e0 e0 a (rdF R1 I a5) e1) (y (yI O_3 e0 a (rdF R1 I a5) e1) ?_))))
      refine z 1 10 ?_;intro k5 k6 c w a
      refine bE c fun e2 g8 c=>?_
      refine lp g8 [0,1,7,11,12,13,14,16] (fun (a6,a7)=>[(17,iV a7)]) (fun (a6,a7)=>St w0 ax (row 23 rH d.v b::fam 3 I1 b a6::row 3 I1 h.v f::rs)) (fun | e2=>(.exit 8,[],St w0 ax (row 23 rH d.v b::fam 3 I1 b e2::row 3 I1 h.v f::rs))) rfl a rfl ?_ ?_
      ·clear a
       intro g w a
       refine bE c fun e3 g9 c=>q 9 rfl ?_
       refine lp g9 [0,1,7,11,12,13,14] (fun (a8,J)=>[(18,iV J)]) (fun (a8,J)=>St w0 ax (row 23 rH d.v b::fam 3 I1 b a8::row 3 I1 h.v f::rs)) (fun | e3=>(.exit 10,[],St w0 ax (row 23 rH d.v b::fam 3 I1 b e3::row 3 I1 h.v f::rs))) rfl a rfl ?_ ?_
       ·clear a
        intro g w a
        refine q 5 rfl (yh (rLt (n:=1) (l:=[m]) a V0 [iV m] (bp1 e0) rfl rfl (U1 (cs:=[iV m]) rfl mkI E2)) fun k7 w a=>?_)
        refine z 1 3 ?_;intro k8 k9 c l0 w a
        exact jx (_,_,_,_,_) ⟨(a.k1h),c⟩
       rintro ⟨a8,J⟩ g w l1 a c
       refine q 5 rfl (y (K6 G3 e0 a rO0 R1) (q 3 rfl (cI c (fun h0 c=>?_) fun h0 c=>?_)))
       ·refine q 8 rfl (bE c fun l2 a9 c=>?_)
        obtain ⟨l3,K⟩:=a.famI R1 a9
        refine y (yIa G3 e0 e0 a rO0 K) (y (yF1 L1 e0 a rO0 K rfl) (bE c fun l4 e4 c=>q 1 rfl (y (yIa V0 e0 e0 a (rdF R1 K a9) e4) (y (yI O_3 e0 a (rdF R1 K a9) e4) (bE c fun e5 h1 c=>q 9 rfl ?_)))))
        refine lp h1 [0,1,7,11,12,13,14,18,19] (fun (L,N)=>[(20,iV N)]) (fun (L,N)=>St w0 ax (row 23 rH d.v b::fam 3 I1 b L::row 3 I1 h.v f::rs)) (fun | e5=>(.exit 12,[],St w0 ax (row 23 rH d.v b::fam 3 I1 b e5::row 3 I1 h.v f::rs))) rfl a rfl ?_ ?_
        ·clear a
         intro g w a
         refine q 8 rfl ?_
         cases c
         exact lo a
        rintro ⟨L,N⟩ g w l5 a c
        refine bE c fun h3 e6 c=>q 6 rfl ?_
        obtain ⟨l6,b0⟩:=a.famI R1 e6
        refine y (yIa G3 e0 e0 a rO0 b0) (y (yF1 L1 e0 a rO0 b0 rfl) (y (O2 V0 e0 a (rdF R1 b0 e6)) (q 2 rfl ?_)))
        refine jW 4 [0,1,7,11,12,13,14,18,19,20] [(174,.bool ((decide (N < (h3.length:Int))) && (!(decide (J=(f.length:Int))))))] (St w0 ax (row 23 rH d.v b::fam 3 I1 b L::row 3 I1 h.v f::rs)) rfl (fun e7=>?_) ?_
        ·refine gB 170 rfl (fun b1=>?_) fun b1=>?_
         ·exact q 4 rfl (e7 _ _ a (O1 (C1 Value.bool (B6 b1)) rfl))
         ·exact q 4 rfl (e7 _ _ a (O1 (C1 Value.bool (C6 b1)) rfl))
        intro g w a
        refine q 2 rfl ?_
        refine cJ c (fun h4 c=>?_) fun h4 c=>?_
        ·refine q 4 rfl (bE c fun l7 b2 c=>bE c fun l8 b3 c=>bE c fun l9 e8 c=>bE c fun m0 b4 c=>bE c fun m1 e9 c=>bE c fun m2 h5 c=>bE c fun h6 h7 c=>bE c fun m3 f0 c=>bE c fun m4 h8 c=>dS [25,27] 2 A1 ?_)
         replace a:=a.drew
         refine D1 33554431 0 25 rfl (qR 2 rfl ?_)
         obtain ⟨m5,o⟩:=a.famI R1 b2
         refine rQ rfl (yIa G3 e0 e0 a rO0 o) (rQ rfl (yF1 L1 e0 a rO0 o rfl) (qR 3 rfl ?_))
         obtain ⟨m6,O⟩:=a.famI R1 b3
         refine rQ rfl (yIa G3 e0 e0 a rO0 O) (rQ rfl (yF1 L1 e0 a rO0 O rfl) (qR 1 rfl (rQ rfl (yIa V0 e0 e0 a (rdF R1 O b3) e8) (rQ rfl (yI O_3 e0 a (rdF R1 O b3) e8) (qR 3 rfl ?_)))))
         obtain ⟨m7,R⟩:=a.famI R1 b4
         refine rQ rfl (yIa G3 e0 e0 a rO0 R) (rQ rfl (yF1 L1 e0 a rO0 R rfl) (qR 1 rfl (rQ rfl (yIa V0 e0 e0 a (rdF R1 R b4) e9) (rQ rfl (yI O_3 e0 a (rdF R1 R b4) e9) (qR 2 rfl (rQ rfl (Fa e0 e0 h5) (qR 2 rfl (Rn QSn (kZ (yi h7 a) fun w a=>dU (D0 67108864 31 27 rfl (rQ rfl (yIs V0 e0 e0 a (rdF R1 o b2) f0) (Rn (qS rfl (qS rfl (sY rfl (yIa G3 e0 e0 a rO0 o) (sY rfl (yF1 L1 e0 a rO0 o rfl) (qS rfl QSn))))) ?_))))))))))))
         replace a:=a.k10
         refine LT wn (S3 (cs:=[iV h6]) (a.foc o b2) O_3 rfl e0 e0 rfl mkI f0) fun w a=>?_
         replace a:=a.unfoc' o h8
         refine z 1 7 ?_
         cases c
         exact lo (a.k2k)
        ·refine q 2 rfl ?_
         cases c
         exact xo a
       ·refine q 2 rfl ?_
        cases c
        exact xo a
      rintro ⟨a6,a7⟩ g w m8 a c
      refine bE c fun m9 f1 c=>q 6 rfl ?_
      obtain ⟨n0,b5⟩:=a.famI R1 f1
      refine y (yIa G3 e0 e0 a rO0 b5) (y (yF1 L1 e0 a rO0 b5 rfl) (y (O2 V0 e0 a (rdF R1 b5 f1)) (q 3 rfl (cI c (fun h9 c=>?_) fun h9 c=>?_))))
      ·refine q 4 rfl (bE c fun n1 b6 c=>bE c fun n2 b7 c=>bE c fun n3 f2 c=>bE c fun i0 i1 c=>bE c fun n4 f3 c=>bE c fun n5 i2 c=>dS [17] 1 A1 ?_)
       replace a:=a.drew
       refine D0 131071 0 17 rfl (qR 2 rfl ?_)
       obtain ⟨n6,x⟩:=a.famI R1 b6
       refine rQ rfl (yIa G3 e0 e0 a rO0 x) (rQ rfl (yF1 L1 e0 a rO0 x rfl) (qR 3 rfl ?_))
       obtain ⟨n7,S⟩:=a.famI R1 b7
       refine rQ rfl (yIa G3 e0 e0 a rO0 S) (rQ rfl (yF1 L1 e0 a rO0 S rfl) (qR 1 rfl (rQ rfl (yIa V0 e0 e0 a (rdF R1 S b7) f2) (rQ rfl (yI O_3 e0 a (rdF R1 S b7) f2) (qR 3 rfl (rQ rfl (Fa e0 e0 i1) (rQ rfl (yIs V0 e0 e0 a (rdF R1 x b6) f3) (Rn QSn ?_))))))))
       replace a:=a.k10
       refine LT wn (S3 (cs:=[iV i0]) (a.foc x b6) O_3 rfl e0 e0 rfl mkI f3) fun w a=>?_
       replace a:=a.unfoc' x i2
       refine z 1 7 ?_
       cases c
       exact lo (a.k2k)
      ·refine q 2 rfl ?_
       cases c
       exact xo a
     refine cIn c (fun i3 c=>?_) fun i3 c=>?_
     ·exact q 1 rfl (jx (_,_,_) ⟨a,c⟩)
     ·refine q 1 rfl (bE c fun n8 f4 c=>bE c fun n9 f5 c=>bE c fun o0 b8 c=>bE c fun o1 f6 c=>dS [13,15] 2 A1 ?_)
      replace a:=a.drew
      refine D0 8191 0 13 rfl (qR 6 rfl ?_)
      obtain ⟨f7,b9⟩:=a.famI R1 f4
      refine rQ rfl (yIa G3 e0 e0 a rO0 b9) (rQ rfl (yF1 L1 e0 a rO0 b9 rfl) (qR 2 rfl ?_))
      obtain ⟨f8,c0⟩:=a.famI R1 f5
      refine rQ rfl (yIa G3 e0 e0 a rO0 c0) (rQ rfl (yF1 L1 e0 a rO0 c0 rfl) ?_)
      obtain ⟨o2,T⟩:=H9 (u:=f7) b8 (a.famL (mtR mhR))
      refine rQ rfl (yIs G3 e0 e0 a rO0 T) (Rn QSn (LT wn (S3 (cs:=[f7.v]) a L1 rfl e0 e0 rfl (mkF rfl) T) fun w a=>D0 16384 12 15 rfl ?_))
      obtain ⟨o3,c1⟩:=H9 (u:=f8) f6 (Rf b8 T (a.famL (mtR mhR)))
      refine rQ rfl (yIs G3 e0 e0 a rO0 c1) (Rn (qS rfl (qS rfl QSn)) (LT wn (S3 (cs:=[f8.v]) a L1 rfl e0 e0 rfl (mkF rfl) c1) fun w a=>?_))
      replace a:=(a.k10).fswap b9 f4 c0 f5 T b8 c1 f6
      refine z 2 2 ?_;intro o4 o5 c w a
      exact jx (_,_,_) ⟨(a.k2k),c⟩
   rintro a3 g w o6 a c
   refine q 5 rfl (y (K6 G3 e0 a rO0 R1) (bE c fun i4 j c=>q 2 rfl ?_))
   refine jW 9 [0,1,7,11,12,13,14,15] [(76,.bool i4)] (St w0 ax (row 23 rH d.v i::fam 3 I1 i r::row 3 I1 h.v f::rs)) rfl (fun f9=>?_) ?_
   ·refine gI 67 j rfl (fun i5 j=>?_) fun i5 j=>?_
    ·refine q 2 rfl (bE j fun o7 c2 j=>?_)
     obtain ⟨o8,U⟩:=a.famI R1 c2
     refine y (yIa G3 e0 e0 a rO0 U) (y (yF1 L1 e0 a rO0 U rfl) (bE j fun o9 g0 j=>q 1 rfl (y (yIa V0 e0 e0 a (rdF R1 U c2) g0) (y (yI O_3 e0 a (rdF R1 U c2) g0) (q 2 rfl ?_)))))
     cases j
     exact f9 _ _ a rfl
    ·refine q 9 rfl ?_
     cases j
     exact f9 _ _ a rfl
   intro g w a
   refine q 2 rfl ?_
   refine cJ c (fun i6 c=>?_) fun i6 c=>?_
   ·refine q 9 rfl ?_
    cases c
    exact lo a
   ·refine q 2 rfl ?_
    cases c
    exact xo a
  ·refine q 2 rfl ?_
   cases c
   exact lx (_,_) a
 rintro ⟨t,X⟩ ⟨p,k⟩ g w p0 a c
 refine z 1 3 ?_
 refine cI c (fun i7 c=>?_) fun i7 c=>?_
 ·refine q 16 rfl (bE c fun c3 i8 c=>?_)
  replace a:=a.rowNh 3 I1
  refine lpN Hdr Hdr i8 [0,1,7,8] (fun (c4,c5) V=>[(9,V.v),(10,iV c5)]) (fun (c4,c5) V=>St w0 ax (row 23 rH p.v k::fam 3 I1 k t::row 3 I1 V.v c4::rs)) (fun | c3,s=>(.exit 2,[(9,s.v)],St w0 ax (row 23 rH p.v k::fam 3 I1 k t::row 3 I1 s.v c3::rs))) rfl _ (a.k1d) rfl ?_ ?_
  ·clear a
   rintro s g w a
   refine q 5 rfl (yh (rLt (n:=1) (l:=[s]) a G3 [s.v] (bp1 e0) rfl rfl (U1 rfl (mkF rfl) E2)) fun p1 w a=>bE c fun p2 g1 c=>?_)
   replace a:=a.k10
   obtain ⟨p3,ey2785,i9⟩:=Bc g1 (a.famL R2) (show [s].length=[c3].length from rfl)
   refine yh (rAp a G3 e0 e0 rO1 i9) fun p4 w a=>?_
   replace a:=(a.k1e).fPush
   rw [← ey2785,← (Ma g1).1] at a
   refine q 9 rfl ?_
   cases c
   exact ln (_,_) (a.k1f)
  rintro ⟨c4,c5⟩ V g w p5 a c
  refine z 1 0 ?_;intro p6 j0 c
  obtain ⟨p7,a⟩:=iLs a c9 j0
  refine y (yCt L1 e0 a F1 rfl) ?_
  refine z 1 3 ?_
  refine cI c (fun j1 c=>?_) fun j1 c=>?_
  ·refine z 1 0 ?_;intro p8 j2 c
   obtain ⟨p9,a⟩:=iLs a (F_2 c9) j2
   refine y (yCt L1 e0 a F1 rfl) ?_
   refine z 3 0 ?_;intro q0 q2 c c6 q3 c w a
   refine yh (rLt (n:=1) (l:=[c6]) a V0 [iV c6] (bp1 e0) rfl rfl (U1 (cs:=[iV c6]) rfl mkI E2)) fun q4 w a=>?_
   refine z 1 9 ?_;intro q5 q6 c q7 w a
   cases c
   exact ln _ ((a.k1h).fc)
  ·refine q 2 rfl ?_
   cases c
   exact lx _ (a.fc)
 ·refine q 2 rfl ?_
  cases c
  exact lx (_,_) a
instance:CL prog 80 (type_of% @uf):=⟨@uf⟩
theorem Tn {b:L2} {d:Int} {e:Hdr} {out:Int} (c:m_jz b d=some out) (f:imm S1 e.v b∈ax) (a:St w0 ax rs w):
  Calls prog 69 #[e.v,iV d] w (rv w0 ax rs (iV out)):=by
 refine en func69 rfl ntmps69 fun Q g=>bE c fun i h c=>q 9 rfl (cR_ (uf h f a) fun j k l w a=>q 12 rfl (y (O2 V0 e0 a rO2) (q 4 rfl ?_)))
 cases c
 exact za g results69 ⟨rfl,(a.k1b)⟩
instance:CL prog 69 (type_of% @Tn):=⟨@Tn⟩
theorem Df {h:L2} {i j:Int} {k:Hdr} {out:LI} (c:m_j2 h i j=some out) (p:imm S1 k.v h∈ax) (a:St w0 ax rs w):
  Calls prog 27 #[k.v,iV i,iV j] w (ro w0 ax rs 3 I1 out):=by
 refine en func27 rfl ntmps27 fun Q r=>bE c fun m o c=>q 17 rfl ?_
 replace a:=a.rowNh 3 I1
 refine lpN Hdr Hdr o [0,1,2] (fun (d,e) b=>[(7,b.v),(8,iV e)]) (fun (d,e) b=>St w0 ax (row 3 I1 b.v d::rs)) (fun | m,f=>(.exit 0,[(7,f.v)],St w0 ax (row 3 I1 f.v m::rs))) rfl _ a rfl ?_ ?_
 ·clear a
  rintro f g w a
  exact vx
 rintro ⟨d,e⟩ b g w s a c
 refine v 0 ?_
 refine ⟨fun _ _ _ _ c _ w a=>?_,vt⟩
 exact yh (rLt (n:=0) (l:=[]) a V0 [] bp0 rfl rfl E2) fun t w a=>vx
instance:CL prog 27 (type_of% @Df):=⟨@Df⟩
theorem Ki {o:L2} {p:Int} {r:Hdr} {out:L2} (c:m_j5 o p=some out) (t:imm S1 r.v o∈ax) (a:St w0 ax rs w):
  Calls prog 28 #[r.v,iV p] w (ro w0 ax rs 23 S1 out):=by
 refine en func28 rfl ntmps28 fun Q z=>bE c fun s u c=>q 17 rfl ?_
 replace a:=a.rowNh 23 S1
 refine lpN Hdr Hdr u [0,1] (fun (d,h) b=>[(5,b.v),(6,iV h)]) (fun (d,h) b=>St w0 ax (row 23 S1 b.v d::rs)) (fun | s,i=>(.exit 0,[(5,i.v)],St w0 ax (row 23 S1 i.v s::rs))) rfl _ a rfl ?_ ?_
 ·clear a
  rintro i g w a
  exact vx
 rintro ⟨d,h⟩ b g w A a c
 refine v 0 ?_
 refine ⟨fun _ c=>?_,vt⟩
 refine bE c fun j x c=>?_
 replace a:=a.rowNh 3 I1
 refine lpN Hdr Hdr x [0,1,5,6] (fun (k,m) f=>[(7,f.v),(8,iV m)]) (fun (k,m) f=>St w0 ax (row 23 S1 b.v d::row 3 I1 f.v k::rs)) (fun | j,e=>(.exit 2,[(7,e.v)],St w0 ax (row 23 S1 b.v d::row 3 I1 e.v j::rs))) rfl _ (a.k10) rfl ?_ ?_
 ·clear a
  rintro e g w a
  refine q 5 rfl ?_
  replace a:=(a.k10).fz
  exact yh (rLt (n:=1) (l:=[j]) a N9 [e.v] (bp1 e0) rfl rfl (U1 (cs:=[e.v]) rfl (mkS F0) E2)) fun B w a=>vx
 rintro ⟨k,m⟩ f g w C a c
 refine v 0 ?_
 refine ⟨fun _ _ _ y c=>?_,vt⟩
 obtain ⟨D,a⟩:=iLs a t y
 exact vx
instance:CL prog 28 (type_of% @Ki):=⟨@Ki⟩
theorem Ji {d b:Int} {x z A:LI} {i j k:Hdr} {out:Int×Int×LI×LI×(List (List (Bool×LI)))×Int} (c:m_j7 d b x z A=some out) (K:imm I1 i.v x∈ax) (L:imm I1 j.v z∈ax) (N:imm Ow k.v A∈ax) (O:globF∈ax) (a:St w0 ax rs w):
  Calls prog 7 #[.agg #[iV d,iV b,i.v,j.v,k.v]] w (fun e w=>∃ (B C D:Hdr),e=.returned (.tuple #[.agg #[iV out.1,iV out.2.1,B.v,C.v,D.v],iV out.2.2.2.2.2])∧St w0 ax (row 3 I1 B.v out.2.2.1::row 3 I1 C.v out.2.2.2.1::row 37 (rS Cw) D.v out.2.2.2.2.1::rs) w):=by
 refine en func7 rfl ntmps7 fun Q p=>q 2 rfl (yb (jd (vals:=[iV d,iV b,i.v,j.v,k.v]) a e0 rfl) fun R w a=>yb (rAl a th) fun r w a=>q 5 rfl (y (W1 [iV d,iV b,i.v,j.v,k.v] J7 e0 a R1) (bE c fun S T c=>cO (je T K L N O a) fun U w a=>q 16 rfl ?_)))
 refine cIn c (fun V c=>?_) fun V c=>?_
 ·refine q 6 rfl (y (lb_ (iV b) O_3 e0 a R2) (bE c fun f W c=>?_))
  replace a:=a.fz
  refine cO (yf W F0 a) fun h w a=>q 6 rfl (y (lb_ (iV b) O_3 e0 a R2) (q 1 rfl (y (O2 A5 e0 a rO0) (bE c fun X Z c=>q 6 rfl (cO (Bi Z a) fun a0 w a=>bE c fun a1 a2 c=>q 10 rfl ?_)))))
  refine lpN Unit (Hdr×Hdr) a2 [1,2,4,7,8,9] (fun s _=>[(10,iV s)]) (fun s _=>St w0 (imm (rS Cw) U.v S.1::ax) (box R 26 [iV d,iV b,i.v,j.v,k.v]::box r 33 [iV 0,iV 0,hnil.v,hnil.v,hnil.v]::row 37 (rS Cw) h.v f::row 3 I1 a0.v X::rs)) (fun | .inl (),(_,_)=>(.exit 0,[],St w0 ax (box r 33 [iV 0,iV 0,hnil.v,hnil.v,hnil.v]::rs)) | .inr (E,F,G),(t,u)=>(.ret,[(3,iV 0)],St w0 ax (row 3 I1 t.v F::row 3 I1 u.v G::row 37 (rS Cw) h.v f::box r 33 [iV (ws .i64 b (f.length:Int)),iV E,t.v,u.v,h.v]::rs))) rfl () (a.k1v) rfl ?_ ?_
  ·clear a
   rintro ⟨t,u⟩ g w a
   rcases a1 with ⟨⟩ | ⟨E,F,G⟩
   ·refine q 4 rfl (y (Y9 (us:=[iV 0,iV 0,hnil.v,hnil.v,hnil.v]) [] uh bp0 rfl) (sB rfl a P6 fun w a=>q 4 rfl ?_))
    cases c
    replace a:=((a.rowNh 3 I1).rowNh 3 I1).rowNh 37 (rS Cw)
    exact p _ _ _ (I4 results7 (C4 rfl rfl a R3 P6 rfl) ⟨rfl,rfl⟩ ⟨_,_,_,rfl,(a.k2f)⟩)
   ·refine q 2 rfl ?_
    cases c
    exact p _ _ _ (I4 results7 (C4 rfl rfl a R3 P6 rfl) ⟨rfl,rfl⟩ ⟨_,_,_,rfl,(a.k2n)⟩)
  rintro s _ g w a9 a c
  refine q 5 rfl (y (O2 V0 e0 a rO3) (q 3 rfl (cI c (fun a3 c=>?_) fun a3 c=>?_)))
  ·refine q 9 rfl (bE c fun b0 H c=>y (yIa V0 e0 e0 a rO3 H) (y (yI O_3 e0 a rO3 H) (bE c fun b1 a4 c=>cO (xf a4 F0 a) fun b2 w a=>bE c fun b3 I c=>bE c fun b4 a5 c=>q 4 rfl (dS [7,8] 2 A1 ?_))))
   replace a:=a.drew
   refine D1 127 0 7 rfl (qR 2 rfl (rQ rfl (lb_ (iV b) O_3 e0 a R1) (qR 2 rfl (rQ rfl (yIa V0 e0 e0 a rO4 I) (rQ rfl (yI O_3 e0 a rO4 I) (Rn QSn ?_))))))
   replace a:=a.fz
   refine kO (Df a5 F0 a) fun l w a=>dU (D1 0 0 8 rfl (Rn QSn (Ly wn (a_ l.v e0) (dU (Dw 0 0 (Rn QSn (qx 5 rfl (y (O2 V0 e0 a rO0) (q 4 rfl ?_)))))))))
   refine cIn c (fun a6 c=>?_) fun a6 c=>?_
   ·refine q 3 rfl (bE c fun b5 a7 c=>bE c fun b6 n c=>bE c fun b7 a8 c=>dS [3,10,11] 3 A1 ?_)
    replace a:=a.drew
    refine D1 1015 0 3 rfl (qR 2 rfl (rQ rfl (lb_ (iV b) O_3 e0 a R1) (qR 1 rfl (rQ rfl (lb_ (iV d) O_3 e0 a R1) (qR 2 rfl (rQ rfl (yIa V0 e0 e0 a rO4 n) (rQ rfl (yI O_3 e0 a rO4 n) (Rn QSn (kO (Ki a7 F0 a) fun b8 w a=>dU (D1 0 1008 10 rfl (Rn (qS rfl (sY rfl (lb_ (iV d) O_3 e0 a R2) (qS rfl (qS rfl (sY rfl (yIa V0 e0 e0 a rO5 n) (sY rfl (yI O_3 e0 a rO5 n) QSn)))))) ?_)))))))))))
    replace a:=a.fz
    refine kO (Df a8 F0 a) fun m w a=>dU (D1 0 0 11 rfl (Rn QSn (Ly wn (a_ m.v e0) (dU (Dw 0 0 (Rn QSn (bE c fun o J c=>qx 6 rfl (y (yIa V0 e0 e0 a rO5 J) (y (yI O_3 e0 a rO5 J) (q 3 rfl (y (Y9 (us:=[iV (ws .i64 b (f.length:Int)),iV o,m.v,l.v,h.v]) [(0,iV (ws .i64 b (f.length:Int))),(1,iV o),(2,m.v),(3,l.v),(4,h.v)] uh (bp5 e0 e0 e0 e0 e0) rfl) ?_)))))))))))
    replace a:=a.k1g
    refine yt (I3 (dx:=[iV (ws .i64 b (f.length:Int)),iV o,m.v,l.v,h.v]) (us:=[iV (ws .i64 b (f.length:Int)),iV o,m.v,l.v,h.v]) a P6 e0 e0 rfl rfl (J3 rfl) rfl) fun w a=>q 6 rfl ?_
    cases c
    exact lx (_,_) ((a.k2o).fc)
   ·refine q 9 rfl ?_
    cases c
    exact ln () ((a.k2p).facts (S0 F1 (N0 (N0 E1))))
  ·refine q 2 rfl ?_
   cases c
   exact lx (hnil,hnil) ((a.k15).fc)
 ·refine q 2 rfl (y (Y9 (us:=[iV 0,iV 0,hnil.v,hnil.v,hnil.v]) [] uh bp0 rfl) (q 1 rfl ?_))
  replace a:=a.k10
  refine sB rfl a P6 fun w a=>q 5 rfl ?_
  cases c
  replace a:=((a.rowNh 3 I1).rowNh 3 I1).rowNh 37 (rS Cw)
  exact p _ _ _ (I4 results7 (C4 rfl rfl a R3 P6 rfl) ⟨rfl,rfl⟩ ⟨_,_,_,rfl,(a.k2q)⟩)
instance:CL prog 7 (type_of% @Ji):=⟨@Ji⟩
theorem Ii {b d:Int} {f g h:LI} {i j k:Hdr} {out:(List (Bool×LI))×Bool×Int} (c:m_j8 b d f g h=some out) (o:imm I1 i.v f∈ax) (p:imm I1 j.v g∈ax) (q:imm Ow k.v h∈ax) (r:globF∈ax) (a:St w0 ax rs w):
  Calls prog 8 #[.agg #[iV b,iV d,i.v,j.v,k.v]] w (fun e w=>∃ (l:Hdr),e=.returned (.tuple #[l.v,.bool out.2.1,iV out.2.2])∧St w0 (imm Cw l.v out.1::ax) rs w):=by
 refine en func8 rfl ntmps8 fun Q m=>?_
 refine v 0 ?_
 refine fun _ _ _ _ _ _ _ _ w a=>⟨fun _ c=>?_,fun _ c=>?_⟩
 ·refine bE c fun s t c=>?_
  replace a:=a.ffz
  refine z 1 0 ?_;intro u x w a
  replace a:=a.ffz
  refine v 0 ?_
  refine ⟨fun _ c=>?_,fun _ _ _ n c=>?_⟩
  ·cases c
   replace a:=a.immNh Cw
   exact m _ _ _ (V7 results8 ⟨rfl,rfl⟩ ⟨rfl,rfl⟩ ⟨rfl,rfl⟩ ⟨_,rfl,((a.k14).facts (S0 F0 (N0 (N0 (N0 E1)))))⟩)
  ·obtain ⟨y,a⟩:=iLs a F0 n
   exact vx
 ·cases c
  replace a:=a.immNh Cw
  exact m _ _ _ (V7 results8 ⟨rfl,rfl⟩ ⟨rfl,rfl⟩ ⟨rfl,rfl⟩ ⟨_,rfl,(a.k1b)⟩)
instance:CL prog 8 (type_of% @Ii):=⟨@Ii⟩
theorem Hi {d b:Int} {j k l:LI} {f g h:Hdr} {out:(List (Bool×LI))×Bool×Int} (c:m_j9 d b j k l=some out) (o:imm I1 f.v j∈ax) (p:imm I1 g.v k∈ax) (r:imm Ow h.v l∈ax) (s:globF∈ax) (a:St w0 ax rs w):
  Calls prog 9 #[.agg #[iV d,iV b,f.v,g.v,h.v]] w (fun e w=>∃ (m:Hdr),e=.returned (.tuple #[m.v,.bool out.2.1,iV out.2.2])∧St w0 (imm Cw m.v out.1::ax) rs w):=by
 refine en func9 rfl ntmps9 fun Q i=>q 2 rfl (yb (jd (vals:=[iV d,iV b,f.v,g.v,h.v]) a e0 rfl) fun B w a=>q 7 rfl (y (W1 [iV d,iV b,f.v,g.v,h.v] J7 e0 a R0) (bE c fun C t c=>cO (je t o p r s a) fun D w a=>q 16 rfl ?_)))
 refine cIn c (fun u c=>?_) fun u c=>?_
 ·refine q 6 rfl (y (lb_ (iV b) O_3 e0 a R1) (bE c fun E x c=>?_))
  replace a:=a.fz
  refine cO (yf x F0 a) fun F w a=>q 7 rfl (y (O2 A5 e0 a rO0) (q 3 rfl (cI c (fun z c=>?_) fun z c=>?_)))
  ·refine q 9 rfl ?_
   cases c
   replace a:=a.immNh Cw
   exact i _ _ _ (V7 results9 ⟨rfl,rfl⟩ ⟨rfl,rfl⟩ ⟨rfl,rfl⟩ ⟨_,rfl,((a.k19).facts (S0 F0 (N0 (N0 E1))))⟩)
  ·refine q 5 rfl (bE c fun G n c=>y (yIa A5 e0 rfl a rO0 n) ?_)
   obtain ⟨H,A,a⟩:=rLs a rO0 n
   refine y (yCe D4 e0 A rfl) (q 6 rfl ?_)
   cases c
   exact i _ _ _ (V7 results9 ⟨rfl,rfl⟩ ⟨rfl,rfl⟩ ⟨rfl,rfl⟩ ⟨_,rfl,((a.k19).facts (S0 F0 (N0 (N0 E1))))⟩)
 ·refine q 10 rfl ?_
  cases c
  replace a:=a.immNh Cw
  exact i _ _ _ (V7 results9 ⟨rfl,rfl⟩ ⟨rfl,rfl⟩ ⟨rfl,rfl⟩ ⟨_,rfl,(a.k19)⟩)
instance:CL prog 9 (type_of% @Hi):=⟨@Hi⟩
theorem po {d e:LI} {f h:Hdr} {out:Bool} (c:m_kb d e=some out) (k:imm I1 f.v d∈ax) (l:imm I1 h.v e∈ax) (a:St w0 ax rs w):
  Calls prog 29 #[f.v,h.v] w (rv w0 ax rs (.bool out)):=by
 refine en func29 rfl ntmps29 fun Q m=>?_
 refine v 0 ?_
 refine ⟨fun _ c=>?_,vt⟩
 refine bE c fun i j c=>?_
 refine lp j [0,1] (fun b=>[(5,iV b)]) (fun b=>St w0 ax rs) (fun | .inl ()=>(.exit 0,[],St w0 ax rs) | .inr ()=>(.ret,[(4,.bool false)],St w0 ax rs)) rfl a rfl ?_ ?_
 ·clear a
  intro g w a
  rcases i with ⟨⟩ | ⟨⟩
  ·exact vx
  ·exact vx
 rintro b g w n a c
 exact vx
instance:CL prog 29 (type_of% @po):=⟨@po⟩
theorem oo {d e:LI} {f h:Hdr} {out:Bool} (c:m_kd d e=some out) (k:imm xw f.v d∈ax) (l:imm xw h.v e∈ax) (a:St w0 ax rs w):
  Calls prog 71 #[f.v,h.v] w (rv w0 ax rs (.bool out)):=by
 refine en func71 rfl ntmps71 fun Q m=>?_
 refine v 0 ?_
 refine ⟨fun _ c=>?_,vt⟩
 refine bE c fun i j c=>?_
 refine lp j [0,1] (fun b=>[(5,iV b)]) (fun b=>St w0 ax rs) (fun | .inl ()=>(.exit 0,[],St w0 ax rs) | .inr ()=>(.ret,[(4,.bool false)],St w0 ax rs)) rfl a rfl ?_ ?_
 ·clear a
  intro g w a
  rcases i with ⟨⟩ | ⟨⟩
  ·exact vx
  ·exact vx
 rintro b g w n a c
 exact vx
instance:CL prog 71 (type_of% @oo):=⟨@oo⟩
theorem ie {d:Bool} {e:LI} {f:Bool} {h:LI} {i j:Hdr} {out:Bool} (c:m_ke d e f h=some out) (n:imm xw i.v e∈ax) (o:imm xw j.v h∈ax) (a:St w0 ax rs w):
  Calls prog 31 #[.agg #[.bool d,i.v],.agg #[.bool f,j.v]] w (rv w0 ax rs (.bool out)):=by
 refine en func31 rfl ntmps31 fun Q p=>?_
 refine z 4 0 ?_;intro r w a s w a
 refine y (Pc I0 e0 e0) (bE c fun l b c=>q 1 rfl ?_)
 refine jW 6 [] [(16,.bool l)] (St w0 ax rs) rfl (fun k=>?_) ?_
 ·refine gJ 10 b rfl (fun m b=>?_) fun m b=>?_
  ·refine z 2 0 ?_
   refine bE b fun t u b=>?_
   refine z 1 1 ?_;intro w a
   cases b
   exact k _ _ (a.k19) rfl
  ·refine q 6 rfl ?_
   cases b
   exact k _ _ (a.k19) rfl
 intro g w a
 exact vx
instance:CL prog 31 (type_of% @ie):=⟨@ie⟩
theorem Cf {e f:List (Bool×LI)} {h i:Hdr} {out:Bool} (c:m_kg e f=some out) (j:imm Cw h.v e∈ax) (k:imm Cw i.v f∈ax) (a:St w0 ax rs w):
  Calls prog 11 #[h.v,i.v] w (rv w0 ax rs (.bool out)):=by
 refine en func11 rfl ntmps11 fun Q b=>?_
 refine z 2 3 ?_
 refine cIn c (fun n c=>?_) fun n c=>?_
 ·refine q 9 rfl (bE c fun o p c=>?_)
  refine lp p [0,1] (fun d=>[(5,iV d)]) (fun d=>St w0 ax rs) (fun | .inl ()=>(.exit 0,[],St w0 ax rs) | .inr ()=>(.ret,[(4,.bool false)],St w0 ax rs)) rfl a rfl ?_ ?_
  ·clear a
   intro g w a
   rcases o with ⟨⟩ | ⟨⟩
   ·refine q 8 rfl ?_
    cases c
    exact za b results11 ⟨rfl,a⟩
   ·refine q 2 rfl ?_
    cases c
    exact za b results11 ⟨rfl,a⟩
  rintro d g w B a c
  refine z 1 3 ?_
  refine cI c (fun r c=>?_) fun r c=>?_
  ·refine q 5 rfl (bE c fun s l c=>bE c fun t m c=>bE c fun C u c=>dS [8] 1 A1 ?_)
   replace a:=a.drew
   refine D1 255 0 8 rfl (qR 2 rfl (rQ rfl (yIa V2 e0 e0 a (rdI j) l) ?_))
   obtain ⟨D,E,a⟩:=iLd a j l
   obtain ⟨F,G,rfl,a⟩:=a.eltP
   obtain ⟨rfl,a⟩:=a.eltB
   obtain ⟨x,rfl,a⟩:=a.eltS
   refine rQ rfl (Z5 (cs:=[.bool s.1,x.v]) P0 rfl e0 a F1) (qR 2 rfl (rQ rfl (yIa V2 e0 e0 a (rdI (F_2 k)) m) ?_))
   obtain ⟨H,I,a⟩:=iLd a (F_2 k) m
   obtain ⟨J,K,rfl,a⟩:=a.eltP
   obtain ⟨rfl,a⟩:=a.eltB
   obtain ⟨y,rfl,a⟩:=a.eltS
   refine rQ rfl (Z5 (cs:=[.bool t.1,y.v]) P0 rfl e0 a F1) (Rn QSn (kZ (ie u F2 F0 a) fun w a=>dU ?_))
   refine z 1 1 ?_
   refine cJn c (fun A c=>?_) fun A c=>?_
   ·refine q 8 rfl ?_
    cases c
    exact lo (a.fc)
   ·refine q 8 rfl ?_
    cases c
    exact xo (a.fc)
  ·refine q 2 rfl ?_
   cases c
   exact xo a
 ·refine q 7 rfl ?_
  cases c
  exact za b results11 ⟨rfl,a⟩
instance:CL prog 11 (type_of% @Cf):=⟨@Cf⟩
theorem ko {e f:List (List (Bool×LI))} {h i:Hdr} {out:Bool} (c:m_ki e f=some out) (j:imm (rS Cw) h.v e∈ax) (k:imm (rS Cw) i.v f∈ax) (a:St w0 ax rs w):
  Calls prog 30 #[h.v,i.v] w (rv w0 ax rs (.bool out)):=by
 refine en func30 rfl ntmps30 fun Q b=>?_
 refine z 2 3 ?_
 refine cIn c (fun n c=>?_) fun n c=>?_
 ·refine q 9 rfl (bE c fun o p c=>?_)
  refine lp p [0,1] (fun d=>[(5,iV d)]) (fun d=>St w0 ax rs) (fun | .inl ()=>(.exit 0,[],St w0 ax rs) | .inr ()=>(.ret,[(4,.bool false)],St w0 ax rs)) rfl a rfl ?_ ?_
  ·clear a
   intro g w a
   rcases o with ⟨⟩ | ⟨⟩
   ·refine q 8 rfl ?_
    cases c
    exact za b results30 ⟨rfl,a⟩
   ·refine q 2 rfl ?_
    cases c
    exact za b results30 ⟨rfl,a⟩
  rintro d g w u a c
  refine z 1 3 ?_
  refine cI c (fun r c=>?_) fun r c=>?_
  ·refine q 5 rfl (bE c fun x l c=>bE c fun y m c=>bE c fun A s c=>dS [8] 1 A1 ?_)
   replace a:=a.drew
   refine D1 255 0 8 rfl (qR 2 rfl (rQ rfl (yIa A5 e0 e0 a (rdI j) l) ?_))
   obtain ⟨B,a⟩:=iLs a j l
   refine rQ rfl (yCt D4 e0 a F1 rfl) (qR 2 rfl (rQ rfl (yIa A5 e0 e0 a (rdI (F_2 k)) m) ?_))
   obtain ⟨C,a⟩:=iLs a (F_2 k) m
   refine rQ rfl (yCt D4 e0 a F1 rfl) (Rn QSn (kZ (Cf s F2 F0 a) fun w a=>dU ?_))
   refine z 1 1 ?_
   refine cJn c (fun t c=>?_) fun t c=>?_
   ·refine q 8 rfl ?_
    cases c
    exact lo (a.fc)
   ·refine q 8 rfl ?_
    cases c
    exact xo (a.fc)
  ·refine q 2 rfl ?_
   cases c
   exact xo a
 ·refine q 7 rfl ?_
  cases c
  exact za b results30 ⟨rfl,a⟩
instance:CL prog 30 (type_of% @ko):=⟨@ko⟩
theorem wi {f h:Int} {u x:LI} {y:List (List (Bool×LI))} {i j:Int} {A B:LI} {C:List (List (Bool×LI))} {k l m n o p:Hdr} {out:Bool} (c:m_kj f h u x y i j A B C=some out) (O:imm I1 k.v u∈ax) (R:imm I1 l.v x∈ax) (S:imm (rS Cw) m.v y∈ax) (T:imm I1 n.v A∈ax) (U:imm I1 o.v B∈ax) (V:imm (rS Cw) p.v C∈ax) (a:St w0 ax rs w):
  Calls prog 10 #[.agg #[iV f,iV h,k.v,l.v,m.v],.agg #[iV i,iV j,n.v,o.v,p.v]] w (rv w0 ax rs (.bool out)):=by
 refine en func10 rfl ntmps10 fun Q W=>?_
 refine z 4 2 ?_;intro r w a s w a
 refine jW 6 [2,3] [(16,.bool ((decide (f=i)) && (decide (h=j))))] (St w0 ax (box r 33 [iV f,iV h,k.v,l.v,m.v]::box s 33 [iV i,iV j,n.v,o.v,p.v]::rs)) rfl (fun D=>?_) ?_
 ·refine gB 10 rfl (fun t=>?_) fun t=>?_
  ·refine z 2 2 ?_
   exact D _ _ (a.k10) (O1 (C1 Value.bool (B6 t)) rfl)
  ·exact q 6 rfl (D _ _ (a.k10) (O1 (C1 Value.bool (C6 t)) rfl))
 intro g w a
 refine bE c fun H b c=>q 1 rfl ?_
 refine jW 6 [2,3] [(23,.bool H)] (St w0 ax (box r 33 [iV f,iV h,k.v,l.v,m.v]::box s 33 [iV i,iV j,n.v,o.v,p.v]::rs)) rfl (fun E=>?_) ?_
 ·refine gJ 17 b rfl (fun I b=>?_) fun I b=>?_
  ·refine z 2 0 ?_
   refine bE b fun X Z b=>?_
   refine z 1 1 ?_;intro w a
   cases b
   exact E _ _ a rfl
  ·refine q 6 rfl ?_
   cases b
   exact E _ _ a rfl
 intro g w a
 refine bE c fun J d c=>q 1 rfl ?_
 refine jW 6 [2,3] [(30,.bool J)] (St w0 ax (box r 33 [iV f,iV h,k.v,l.v,m.v]::box s 33 [iV i,iV j,n.v,o.v,p.v]::rs)) rfl (fun F=>?_) ?_
 ·refine gJ 24 d rfl (fun K d=>?_) fun K d=>?_
  ·refine z 2 0 ?_
   refine bE d fun a0 a1 d=>?_
   refine z 1 1 ?_;intro w a
   cases d
   exact F _ _ a rfl
  ·refine q 6 rfl ?_
   cases d
   exact F _ _ a rfl
 intro g w a
 refine bE c fun L e c=>q 1 rfl ?_
 refine jW 6 [] [(37,.bool L)] (St w0 ax rs) rfl (fun G=>?_) ?_
 ·refine gJ 31 e rfl (fun N e=>?_) fun N e=>?_
  ·refine z 2 0 ?_
   refine bE e fun a2 a3 e=>?_
   refine z 1 1 ?_;intro w a
   cases e
   exact G _ _ (a.k19) rfl
  ·refine q 6 rfl ?_
   cases e
   exact G _ _ (a.k19) rfl
 intro g w a
 exact vx
instance:CL prog 10 (type_of% @wi):=⟨@wi⟩
theorem Sn {d:LI} {e f:Int} {h:Hdr} {out:Bool} (c:m_kl d e f=some out) (k:imm I1 h.v d∈ax) (a:St w0 ax rs w):
  Calls prog 33 #[h.v,iV e,iV f] w (rv w0 ax rs (.bool out)):=by
 refine en func33 rfl ntmps33 fun Q l=>?_
 refine v 0 ?_
 refine ⟨fun _ c=>?_,vt⟩
 refine bE c fun i j c=>?_
 refine lp j [0,2,13,14] (fun b=>[(15,iV b)]) (fun b=>St w0 ax rs) (fun | .inl ()=>(.exit 0,[],St w0 ax rs) | .inr ()=>(.ret,[(6,.bool false)],St w0 ax rs)) rfl a rfl ?_ ?_
 ·clear a
  intro g w a
  rcases i with ⟨⟩ | ⟨⟩
  ·exact vx
  ·exact vx
 rintro b g w m a c
 exact vx
instance:CL prog 33 (type_of% @Sn):=⟨@Sn⟩
end Go.Proofs.YthekfonboblioabGreatDoor
