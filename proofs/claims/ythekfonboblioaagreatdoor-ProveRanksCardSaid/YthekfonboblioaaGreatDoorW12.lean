/- Walks: each function computes its model, printed. -/
import Derived.Test.YthekfonboblioaaGreatDoorW11
namespace Go.Proofs.YthekfonboblioaaGreatDoor
open Go Sx M Go.Proofs.Tryz
set_option maxRecDepth 100000
set_option maxHeartbeats 40000000
set_option linter.unusedVariables false
attribute [local irreducible] wpList Code.wp Calls DR QR QS LA LS St row box fam imm rowS loop
variable {w0:World} {ros:List Fact} {rs:List Res} {w:World}
theorem Hl {h:Int} {out:LI} (c:m_jo h=some out) (a:St w0 ros rs w):
  Calls prog 63 #[iV h] w (ro w0 ros rs 3 I1 out):=by
 refine en func63 rfl ntmps63 fun Q k=>bE c fun i j c=>q 17 rfl ?_
 replace a:=a.rowNh 3 I1
 refine lpN Hdr Hdr j [0] (fun (d,e) b=>[(3,b.v),(4,iV e)]) (fun (d,e) b=>St w0 ros (row 3 I1 b.v d::rs)) (fun | i,f=>(.exit 0,[(3,f.v)],St w0 ros (row 3 I1 f.v i::rs))) rfl _ a rfl ?_ ?_
 ·clear a
  rintro f g w a
  exact vx
 rintro ⟨d,e⟩ b g w l a c
 exact vx
instance:CL prog 63 (type_of% @Hl):=⟨@Hl⟩
theorem Gl {s:L2} {t u:LI} {x z A:Hdr} {out:L2} (c:m_jr s t u=some out) (B:imm S1 x.v s∈ros) (h:imm I1 z.v t∈ros) (i:imm I1 A.v u∈ros) (a:St w0 ros rs w):
  Calls prog 62 #[x.v,z.v,A.v] w (ro w0 ros rs 23 S1 out):=by
 refine en func62 rfl ntmps62 fun Q H=>bE c fun C I c=>q 17 rfl ?_
 replace a:=a.rowNh 23 S1
 refine lpN Hdr Hdr I [0,1,2] (fun (d,j) b=>[(7,b.v),(8,iV j)]) (fun (d,j) b=>St w0 ros (row 23 S1 b.v d::rs)) (fun | C,k=>(.exit 0,[(7,k.v)],St w0 ros (row 23 S1 k.v C::rs))) rfl _ a rfl ?_ ?_
 ·clear a
  rintro k g w a
  refine q 9 rfl ?_
  cases c
  exact H _ _ _ (V2 results62 ⟨rfl,rfl⟩ ⟨_,rfl,a⟩)
 rintro ⟨d,j⟩ b g w S a c
 refine q 5 rfl (y (Y2 V0 e0 a (rdI h)) (q 3 rfl (cI c (fun J c=>?_) fun J c=>?_)))
 ·refine q 16 rfl (bE c fun m K c=>?_)
  replace a:=a.rowNh 3 I1
  refine lpN Hdr Hdr K [0,1,2,7,8] (fun (o,p) f=>[(9,f.v),(10,iV p)]) (fun (o,p) f=>St w0 ros (row 23 S1 b.v d::row 3 I1 f.v o::rs)) (fun | m,e=>(.exit 2,[(9,e.v)],St w0 ros (row 23 S1 b.v d::row 3 I1 e.v m::rs))) rfl _ (a.k10) rfl ?_ ?_
  ·clear a
   rintro e g w a
   refine q 5 rfl ?_
   replace a:=(a.k10).fz
   refine yh (rLt (n:=1) (l:=[m]) a M8 [e.v] (bp1 e0) rfl rfl (N1 (cs:=[e.v]) rfl (mkS F0) X1)) fun T w a=>bE c fun U L c=>?_
   replace a:=a.k10
   refine yh (rAp a M8 e0 e0 rO1 L) fun V w a=>q 9 rfl ?_
   cases c
   exact ln _ ((a.k11).fc)
  rintro ⟨o,p⟩ f g w W a c
  refine q 5 rfl (y (Y2 V0 e0 a (rdI i)) (q 3 rfl (cI c (fun N c=>?_) fun N c=>?_)))
  ·refine q 4 rfl (bE c fun X D c=>bE c fun Z E c=>bE c fun a0 F c=>bE c fun r G c=>bE c fun a1 O c=>dS [14,15,16] 3 E1 ?_)
   replace a:=a.drew
   refine D1 16383 0 14 rfl (qR 4 rfl (rQ rfl (yIa V0 e0 e0 a (rdI h) D) (rQ rfl (yI O_3 e0 a (rdI h) D) (rQ rfl (yIa M8 e0 e0 a (rdI B) E) ?_))))
   obtain ⟨a2,a⟩:=iLs a B E
   refine rQ rfl (yCt L1 e0 a F1 rfl) (qR 2 rfl (rQ rfl (yIa V0 e0 e0 a (rdI (F_2 i)) F) (rQ rfl (yI O_3 e0 a (rdI (F_2 i)) F) (rQ rfl (yIa V0 e0 e0 a (rdI F0) G) (rQ rfl (yI O_3 e0 a (rdI F0) G) (Rn QSn (LH wn (rLt (n:=1) (l:=[r]) a V0 [iV r] (bp1 e0) rfl rfl (N1 (cs:=[iV r]) rfl mkI X1)) fun a3 w a=>dU (D1 0 1 15 rfl (Rn (qS rfl QSn) ?_)))))))))
   replace a:=a.k16
   refine LH wn (rAp a V0 e0 e0 rO1 O) fun R w a=>dU (D1 0 0 16 rfl (Rn QSn (Ly wn (a_ R.v e0) (dU (Dw 0 0 (Rn QSn (qx 7 rfl ?_)))))))
   cases c
   exact ln _ ((a.k1o).fc)
  ·refine q 2 rfl ?_
   cases c
   exact lx _ a
 ·refine q 2 rfl ?_
  cases c
  exact lx _ a
instance:CL prog 62 (type_of% @Gl):=⟨@Gl⟩
theorem Dh {b d out:Int} (c:m_jt b d=some out) (a:St w0 ros rs w):
  Calls prog 167 #[iV b,iV d] w (rv w0 ros rs (iV out)):=by
 exact en func167 rfl ntmps167 fun Q e=>vx
instance:CL prog 167 (type_of% @Dh):=⟨@Dh⟩
theorem Xl {b:L2} {d:Hdr} {out:Int} (c:m_ju b=some out) (e:imm S1 d.v b∈ros) (a:St w0 ros rs w):
  Calls prog 168 #[d.v] w (rv w0 ros rs (iV out)):=by
 refine en func168 rfl ntmps168 fun Q g=>?_
 refine v 0 ?_
 refine ⟨vt,fun _ _ _ f c=>?_⟩
 obtain ⟨h,a⟩:=iLs a e f
 exact vx
instance:CL prog 168 (type_of% @Xl):=⟨@Xl⟩
theorem Wl {f h i out:Int} (c:m_jx f h i=some out) (a:St w0 ros rs w):
  Calls prog 191 #[iV f,iV h,iV i] w (rv w0 ros rs (iV out)):=by
 refine en func191 rfl ntmps191 fun Q l=>?_
 refine z 1 10 ?_;intro m n c w a
 refine bE c fun j k c=>?_
 refine lp k [2] (fun (b,d,e)=>[(0,iV b),(1,iV d),(7,iV e)]) (fun (b,d,e)=>St w0 ros rs) (fun | j=>(.exit 0,[(7,iV j)],St w0 ros rs)) rfl a rfl ?_ ?_
 ·clear a
  intro g w a
  exact vx
 rintro ⟨b,d,e⟩ g w o a c
 exact vx
instance:CL prog 191 (type_of% @Wl):=⟨@Wl⟩
theorem Vl {b d out:Int} (c:m_jy b d=some out) (a:St w0 ros rs w):
  Calls prog 169 #[iV b,iV d] w (rv w0 ros rs (iV out)):=by
 exact en func169 rfl ntmps169 fun Q e=>vx
instance:CL prog 169 (type_of% @Vl):=⟨@Vl⟩
theorem Ch {c7:L2} {W:Int} {c8:Hdr} {out:L2×LI×Int} (c:m_j8 c7 W=some out) (c9:imm S1 c8.v c7∈ros) (a:St w0 ros rs w):
  Calls prog 127 #[c8.v,iV W] w (fun e w=>∃ (d0:Hdr) (d1:List Hdr) (d2:Hdr),e=.returned (.tuple #[d0.v,d2.v,iV out.2.2])∧St w0 ros (row 23 rH d0.v d1::fam 3 I1 d1 out.1::row 3 I1 d2.v out.2.1::rs) w):=by
 refine en func127 rfl ntmps127 fun Q g2=>bE c fun d3 g3 c=>q 19 rfl ?_
 replace a:=((a.rowNh 23 rH).fNew 3 I1).k10
 refine lpN (Hdr×(List Hdr)) (Hdr×(List Hdr)) g3 [0,1] (fun (t,X) (p,k)=>[(7,p.v),(8,iV X)]) (fun (t,X) (p,k)=>St w0 ros (row 23 rH p.v k::fam 3 I1 k t::rs)) (fun | d3,(d,Z)=>(.exit 0,[(7,d.v)],St w0 ros (row 23 rH d.v Z::fam 3 I1 Z d3::rs))) rfl (_,_) a rfl ?_ ?_
 ·clear a
  rintro ⟨d,Z⟩ g w a
  refine z 1 15 ?_;intro j3 j4 c
  obtain ⟨⟨d4,d5,d6⟩,g4,c⟩:=bs c
  replace a:=a.rowNh 3 I1
  refine lpN ((List Hdr)×Hdr) ((List Hdr)×Hdr) g4 [0,1,7] (fun (r,a0,f,m) (i,h)=>[(11,iV a0),(12,h.v),(13,iV m)]) (fun (r,a0,f,m) (i,h)=>St w0 ros (row 23 rH d.v i::fam 3 I1 i r::row 3 I1 h.v f::rs)) (fun | (d4,d5,d6),(a1,a2)=>(.exit 4,[(11,iV d5),(12,a2.v)],St w0 ros (row 23 rH d.v a1::fam 3 I1 a1 d4::row 3 I1 a2.v d6::rs))) rfl (_,_) (a.k1d) rfl ?_ ?_
  ·clear a
   rintro ⟨a1,a2⟩ g w a
   refine q 13 rfl ?_
   cases c
   exact g2 _ _ _ (J8 results127 ⟨rfl,rfl⟩ ⟨rfl,rfl⟩ ⟨rfl,rfl⟩ ⟨_,_,_,rfl,a⟩)
  rintro ⟨r,a0,f,m⟩ ⟨i,h⟩ g w d7 a c
  refine z 1 3 ?_;intro j5 j6 c w a
  refine cI c (fun g5 c=>?_) fun g5 c=>?_
  ·refine q 3 rfl ?_
   refine jC (L2×Int×LI×(List Hdr)×Hdr) [0,1,7,13] (fun (A,B,C,D,E)=>[(11,iV B),(12,E.v)]) (fun (A,B,C,D,E) w=>St w0 ros (row 23 rH d.v D::fam 3 I1 D A::row 3 I1 E.v C::rs) w∧m_jz m A B C=some d7) rfl ?_ ?_
   ·rintro ⟨A,B,C,D,E⟩ g w ⟨a,c⟩
    refine q 6 rfl ?_
    cases c
    exact ln (_,_) a
   refine z 1 11 ?_
   refine bE c fun d8 g6 c=>?_
   refine lp g6 [0,1,7,11,12,13,14] (fun a3=>[(15,iV a3)]) (fun a3=>St w0 ros (row 23 rH d.v i::fam 3 I1 i r::row 3 I1 h.v f::rs)) (fun | d8=>(.exit 6,[(15,iV d8)],St w0 ros (row 23 rH d.v i::fam 3 I1 i r::row 3 I1 h.v f::rs))) rfl a rfl ?_ ?_
   ·clear a
    intro g w a
    refine q 7 rfl (y (C6 C3 e0 a rO0 R1) (q 3 rfl (cI c (fun g7 c=>?_) fun g7 c=>?_)))
    ·exact q 8 rfl (jx (_,_,_,_,_) ⟨a,c⟩)
    ·refine q 10 rfl ?_
     refine jC (L2×Int×(List Hdr)) [0,1,7,12,13,14] (fun (F,G,b)=>[(11,iV G)]) (fun (F,G,b) w=>St w0 ros (row 23 rH d.v b::fam 3 I1 b F::row 3 I1 h.v f::rs) w∧m_j3 f m W F G=some d7) rfl ?_ ?_
     ·rintro ⟨F,G,b⟩ g w ⟨a,c⟩
      refine bE c fun j7 a4 c=>q 6 rfl ?_
      obtain ⟨j8,H⟩:=a.famI R1 a4
      refine y (yIa C3 e0 e0 a rO0 H) (y (yF1 L1 e0 a rO0 H rfl) (bE c fun j9 d9 c=>q 1 rfl (y (yIa V0 e0 e0 a (rdF R1 H a4) d9) (y (yI O_3 e0 a (rdF R1 H a4) d9) ?_))))
      refine z 1 7 ?_;intro k0 k1 c
      refine bE c fun k2 a5 c=>?_
      obtain ⟨k3,I⟩:=a.famI R1 a5
      refine y (yIa C3 e0 e0 a rO0 I) (y (yF1 L1 e0 a rO0 I rfl) (bE c fun k4 e1 c=>q 1 rfl (y (yIa V0 e0 e0 a (rdF R1 I a5) e1) (y (yI O_3 e0 a (rdF R1 I a5) e1) ?_))))
      refine z 1 10 ?_;intro k5 k6 c w a
      refine bE c fun e2 g8 c=>?_
      refine lp g8 [0,1,7,11,12,13,14,16] (fun (a6,a7)=>[(17,iV a7)]) (fun (a6,a7)=>St w0 ros (row 23 rH d.v b::fam 3 I1 b a6::row 3 I1 h.v f::rs)) (fun | e2=>(.exit 8,[],St w0 ros (row 23 rH d.v b::fam 3 I1 b e2::row 3 I1 h.v f::rs))) rfl a rfl ?_ ?_
      ·clear a
       intro g w a
       refine bE c fun e3 g9 c=>q 9 rfl ?_
       refine lp g9 [0,1,7,11,12,13,14] (fun (a8,J)=>[(18,iV J)]) (fun (a8,J)=>St w0 ros (row 23 rH d.v b::fam 3 I1 b a8::row 3 I1 h.v f::rs)) (fun | e3=>(.exit 10,[],St w0 ros (row 23 rH d.v b::fam 3 I1 b e3::row 3 I1 h.v f::rs))) rfl a rfl ?_ ?_
       ·clear a
        intro g w a
        refine q 5 rfl (yh (rLt (n:=1) (l:=[m]) a V0 [iV m] (bp1 e0) rfl rfl (N1 (cs:=[iV m]) rfl mkI X1)) fun k7 w a=>?_)
        refine z 1 3 ?_;intro k8 k9 c l0 w a
        exact jx (_,_,_,_,_) ⟨(a.k1p),c⟩
       rintro ⟨a8,J⟩ g w l1 a c
       refine q 5 rfl (y (C6 C3 e0 a rO0 R1) (q 3 rfl (cI c (fun h0 c=>?_) fun h0 c=>?_)))
       ·refine q 8 rfl (bE c fun l2 a9 c=>?_)
        obtain ⟨l3,K⟩:=a.famI R1 a9
        refine y (yIa C3 e0 e0 a rO0 K) (y (yF1 L1 e0 a rO0 K rfl) (bE c fun l4 e4 c=>q 1 rfl (y (yIa V0 e0 e0 a (rdF R1 K a9) e4) (y (yI O_3 e0 a (rdF R1 K a9) e4) (bE c fun e5 h1 c=>q 9 rfl ?_)))))
        refine lp h1 [0,1,7,11,12,13,14,18,19] (fun (L,N)=>[(20,iV N)]) (fun (L,N)=>St w0 ros (row 23 rH d.v b::fam 3 I1 b L::row 3 I1 h.v f::rs)) (fun | e5=>(.exit 12,[],St w0 ros (row 23 rH d.v b::fam 3 I1 b e5::row 3 I1 h.v f::rs))) rfl a rfl ?_ ?_
        ·clear a
         intro g w a
         refine q 8 rfl ?_
         cases c
         exact lo a
        rintro ⟨L,N⟩ g w l5 a c
        refine bE c fun h3 e6 c=>q 6 rfl ?_
        obtain ⟨l6,b0⟩:=a.famI R1 e6
        refine y (yIa C3 e0 e0 a rO0 b0) (y (yF1 L1 e0 a rO0 b0 rfl) (y (Y2 V0 e0 a (rdF R1 b0 e6)) (q 2 rfl ?_)))
        refine jW 4 [0,1,7,11,12,13,14,18,19,20] [(174,.bool ((decide (N < (h3.length:Int))) && (!(decide (J=(f.length:Int))))))] (St w0 ros (row 23 rH d.v b::fam 3 I1 b L::row 3 I1 h.v f::rs)) rfl (fun e7=>?_) ?_
        ·refine gB 170 rfl (fun b1=>?_) fun b1=>?_
         ·exact q 4 rfl (e7 _ _ a (J1 (Z0 Value.bool (W5 b1)) rfl))
         ·exact q 4 rfl (e7 _ _ a (J1 (Z0 Value.bool (X5 b1)) rfl))
        intro g w a
        refine q 2 rfl ?_
        refine cJ c (fun h4 c=>?_) fun h4 c=>?_
        ·refine q 4 rfl (bE c fun l7 b2 c=>bE c fun l8 b3 c=>bE c fun l9 e8 c=>bE c fun m0 b4 c=>bE c fun m1 e9 c=>bE c fun m2 h5 c=>bE c fun h6 h7 c=>bE c fun m3 f0 c=>bE c fun m4 h8 c=>dS [25,27] 2 E1 ?_)
         replace a:=a.drew
         refine D1 33554431 0 25 rfl (qR 2 rfl ?_)
         obtain ⟨m5,o⟩:=a.famI R1 b2
         refine rQ rfl (yIa C3 e0 e0 a rO0 o) (rQ rfl (yF1 L1 e0 a rO0 o rfl) (qR 3 rfl ?_))
         obtain ⟨m6,O⟩:=a.famI R1 b3
         refine rQ rfl (yIa C3 e0 e0 a rO0 O) (rQ rfl (yF1 L1 e0 a rO0 O rfl) (qR 1 rfl (rQ rfl (yIa V0 e0 e0 a (rdF R1 O b3) e8) (rQ rfl (yI O_3 e0 a (rdF R1 O b3) e8) (qR 3 rfl ?_)))))
         obtain ⟨m7,R⟩:=a.famI R1 b4
         refine rQ rfl (yIa C3 e0 e0 a rO0 R) (rQ rfl (yF1 L1 e0 a rO0 R rfl) (qR 1 rfl (rQ rfl (yIa V0 e0 e0 a (rdF R1 R b4) e9) (rQ rfl (yI O_3 e0 a (rdF R1 R b4) e9) (qR 2 rfl (rQ rfl (aa e0 e0 h5) (qR 2 rfl (Rn QSn (kZ (Dh h7 a) fun w a=>dU (D0 67108864 31 27 rfl (rQ rfl (yIs V0 e0 e0 a (rdF R1 o b2) f0) (Rn (qS rfl (qS rfl (sY rfl (yIa C3 e0 e0 a rO0 o) (sY rfl (yF1 L1 e0 a rO0 o rfl) (qS rfl QSn))))) ?_))))))))))))
         replace a:=a.k10
         refine LT wn (Q3 (cs:=[iV h6]) (a.foc o b2) O_3 rfl e0 e0 rfl mkI f0) fun w a=>?_
         replace a:=a.unfoc' o h8
         refine z 1 7 ?_
         cases c
         exact lo (a.k1q)
        ·refine q 2 rfl ?_
         cases c
         exact xo a
       ·refine q 2 rfl ?_
        cases c
        exact xo a
      rintro ⟨a6,a7⟩ g w m8 a c
      refine bE c fun m9 f1 c=>q 6 rfl ?_
      obtain ⟨n0,b5⟩:=a.famI R1 f1
      refine y (yIa C3 e0 e0 a rO0 b5) (y (yF1 L1 e0 a rO0 b5 rfl) (y (Y2 V0 e0 a (rdF R1 b5 f1)) (q 3 rfl (cI c (fun h9 c=>?_) fun h9 c=>?_))))
      ·refine q 4 rfl (bE c fun n1 b6 c=>bE c fun n2 b7 c=>bE c fun n3 f2 c=>bE c fun i0 i1 c=>bE c fun n4 f3 c=>bE c fun n5 i2 c=>dS [17] 1 E1 ?_)
       replace a:=a.drew
       refine D0 131071 0 17 rfl (qR 2 rfl ?_)
       obtain ⟨n6,x⟩:=a.famI R1 b6
       refine rQ rfl (yIa C3 e0 e0 a rO0 x) (rQ rfl (yF1 L1 e0 a rO0 x rfl) (qR 3 rfl ?_))
       obtain ⟨n7,S⟩:=a.famI R1 b7
       refine rQ rfl (yIa C3 e0 e0 a rO0 S) (rQ rfl (yF1 L1 e0 a rO0 S rfl) (qR 1 rfl (rQ rfl (yIa V0 e0 e0 a (rdF R1 S b7) f2) (rQ rfl (yI O_3 e0 a (rdF R1 S b7) f2) (qR 3 rfl (rQ rfl (aa e0 e0 i1) (rQ rfl (yIs V0 e0 e0 a (rdF R1 x b6) f3) (Rn QSn ?_))))))))
       replace a:=a.k10
       refine LT wn (Q3 (cs:=[iV i0]) (a.foc x b6) O_3 rfl e0 e0 rfl mkI f3) fun w a=>?_
       replace a:=a.unfoc' x i2
       refine z 1 7 ?_
       cases c
       exact lo (a.k1q)
      ·refine q 2 rfl ?_
       cases c
       exact xo a
     refine cIn c (fun i3 c=>?_) fun i3 c=>?_
     ·exact q 1 rfl (jx (_,_,_) ⟨a,c⟩)
     ·refine q 1 rfl (bE c fun n8 f4 c=>bE c fun n9 f5 c=>bE c fun o0 b8 c=>bE c fun o1 f6 c=>dS [13,15] 2 E1 ?_)
      replace a:=a.drew
      refine D0 8191 0 13 rfl (qR 6 rfl ?_)
      obtain ⟨f7,b9⟩:=a.famI R1 f4
      refine rQ rfl (yIa C3 e0 e0 a rO0 b9) (rQ rfl (yF1 L1 e0 a rO0 b9 rfl) (qR 2 rfl ?_))
      obtain ⟨f8,c0⟩:=a.famI R1 f5
      refine rQ rfl (yIa C3 e0 e0 a rO0 c0) (rQ rfl (yF1 L1 e0 a rO0 c0 rfl) ?_)
      obtain ⟨o2,T⟩:=Y8 (u:=f7) b8 (a.famL (mtR mhR))
      refine rQ rfl (yIs C3 e0 e0 a rO0 T) (Rn QSn (LT wn (Q3 (cs:=[f7.v]) a L1 rfl e0 e0 rfl (mkF rfl) T) fun w a=>D0 16384 12 15 rfl ?_))
      obtain ⟨o3,c1⟩:=Y8 (u:=f8) f6 (kf b8 T (a.famL (mtR mhR)))
      refine rQ rfl (yIs C3 e0 e0 a rO0 c1) (Rn (qS rfl (qS rfl QSn)) (LT wn (Q3 (cs:=[f8.v]) a L1 rfl e0 e0 rfl (mkF rfl) c1) fun w a=>?_))
      replace a:=(a.k10).fswap b9 f4 c0 f5 T b8 c1 f6
      refine z 2 2 ?_;intro o4 o5 c w a
      exact jx (_,_,_) ⟨(a.k1q),c⟩
   rintro a3 g w o6 a c
   refine q 5 rfl (y (C6 C3 e0 a rO0 R1) (bE c fun i4 j c=>q 2 rfl ?_))
   refine jW 9 [0,1,7,11,12,13,14,15] [(76,.bool i4)] (St w0 ros (row 23 rH d.v i::fam 3 I1 i r::row 3 I1 h.v f::rs)) rfl (fun f9=>?_) ?_
   ·refine gI 67 j rfl (fun i5 j=>?_) fun i5 j=>?_
    ·refine q 2 rfl (bE j fun o7 c2 j=>?_)
     obtain ⟨o8,U⟩:=a.famI R1 c2
     refine y (yIa C3 e0 e0 a rO0 U) (y (yF1 L1 e0 a rO0 U rfl) (bE j fun o9 g0 j=>q 1 rfl (y (yIa V0 e0 e0 a (rdF R1 U c2) g0) (y (yI O_3 e0 a (rdF R1 U c2) g0) (q 2 rfl ?_)))))
     cases j
     exact f9 _ _ a rfl
    ·refine q 9 rfl ?_
     cases j
     exact f9 _ _ a rfl
   intro g w a
   refine q 2 rfl ?_
   refine cJ c (fun i6 c=>?_) fun i6 c=>?_
   ·refine q 9 rfl ?_
    cases c
    exact lo a
   ·refine q 2 rfl ?_
    cases c
    exact xo a
  ·refine q 2 rfl ?_
   cases c
   exact lx (_,_) a
 rintro ⟨t,X⟩ ⟨p,k⟩ g w p0 a c
 refine z 1 3 ?_
 refine cI c (fun i7 c=>?_) fun i7 c=>?_
 ·refine q 16 rfl (bE c fun c3 i8 c=>?_)
  replace a:=a.rowNh 3 I1
  refine lpN Hdr Hdr i8 [0,1,7,8] (fun (c4,c5) V=>[(9,V.v),(10,iV c5)]) (fun (c4,c5) V=>St w0 ros (row 23 rH p.v k::fam 3 I1 k t::row 3 I1 V.v c4::rs)) (fun | c3,s=>(.exit 2,[(9,s.v)],St w0 ros (row 23 rH p.v k::fam 3 I1 k t::row 3 I1 s.v c3::rs))) rfl _ (a.k1d) rfl ?_ ?_
  ·clear a
   rintro s g w a
   refine q 5 rfl (yh (rLt (n:=1) (l:=[s]) a C3 [s.v] (bp1 e0) rfl rfl (N1 rfl (mkF rfl) X1)) fun p1 w a=>bE c fun p2 g1 c=>?_)
   replace a:=a.k10
   obtain ⟨p3,ey2785,i9⟩:=Wb g1 (a.famL R2) (show [s].length=[c3].length from rfl)
   refine yh (rAp a C3 e0 e0 rO1 i9) fun p4 w a=>?_
   replace a:=(a.k1y).fPush
   rw [← ey2785,← (Ca g1).1] at a
   refine q 9 rfl ?_
   cases c
   exact ln (_,_) (a.k1e)
  rintro ⟨c4,c5⟩ V g w p5 a c
  refine z 1 0 ?_;intro p6 j0 c
  obtain ⟨p7,a⟩:=iLs a c9 j0
  refine y (yCt L1 e0 a F1 rfl) ?_
  refine z 1 3 ?_
  refine cI c (fun j1 c=>?_) fun j1 c=>?_
  ·refine z 1 0 ?_;intro p8 j2 c
   obtain ⟨p9,a⟩:=iLs a (F_2 c9) j2
   refine y (yCt L1 e0 a F1 rfl) ?_
   refine z 3 0 ?_;intro q0 q2 c c6 q3 c w a
   refine yh (rLt (n:=1) (l:=[c6]) a V0 [iV c6] (bp1 e0) rfl rfl (N1 (cs:=[iV c6]) rfl mkI X1)) fun q4 w a=>?_
   refine z 1 9 ?_;intro q5 q6 c q7 w a
   cases c
   exact ln _ ((a.k1p).fc)
  ·refine q 2 rfl ?_
   cases c
   exact lx _ (a.fc)
 ·refine q 2 rfl ?_
  cases c
  exact lx (_,_) a
instance:CL prog 127 (type_of% @Ch):=⟨@Ch⟩
theorem Ul {b:L2} {d:Int} {e:Hdr} {out:Int} (c:m_j9 b d=some out) (f:imm S1 e.v b∈ros) (a:St w0 ros rs w):
  Calls prog 61 #[e.v,iV d] w (rv w0 ros rs (iV out)):=by
 refine en func61 rfl ntmps61 fun Q g=>bE c fun i h c=>q 9 rfl (cR_ (Ch h f a) fun j k l w a=>q 12 rfl (y (Y2 V0 e0 a rO2) (q 4 rfl ?_)))
 cases c
 exact za g results61 ⟨rfl,(a.k1b)⟩
instance:CL prog 61 (type_of% @Ul):=⟨@Ul⟩
theorem We {h:L2} {i j:Int} {k:Hdr} {out:LI} (c:m_kc h i j=some out) (p:imm S1 k.v h∈ros) (a:St w0 ros rs w):
  Calls prog 24 #[k.v,iV i,iV j] w (ro w0 ros rs 3 I1 out):=by
 refine en func24 rfl ntmps24 fun Q r=>bE c fun m o c=>q 17 rfl ?_
 replace a:=a.rowNh 3 I1
 refine lpN Hdr Hdr o [0,1,2] (fun (d,e) b=>[(7,b.v),(8,iV e)]) (fun (d,e) b=>St w0 ros (row 3 I1 b.v d::rs)) (fun | m,f=>(.exit 0,[(7,f.v)],St w0 ros (row 3 I1 f.v m::rs))) rfl _ a rfl ?_ ?_
 ·clear a
  rintro f g w a
  exact vx
 rintro ⟨d,e⟩ b g w s a c
 refine v 0 ?_
 refine ⟨fun _ _ _ _ c _ w a=>?_,vt⟩
 exact yh (rLt (n:=0) (l:=[]) a V0 [] bp0 rfl rfl X1) fun t w a=>vx
instance:CL prog 24 (type_of% @We):=⟨@We⟩
theorem Bh {o:L2} {p:Int} {r:Hdr} {out:L2} (c:m_kf o p=some out) (t:imm S1 r.v o∈ros) (a:St w0 ros rs w):
  Calls prog 25 #[r.v,iV p] w (ro w0 ros rs 23 S1 out):=by
 refine en func25 rfl ntmps25 fun Q z=>bE c fun s u c=>q 17 rfl ?_
 replace a:=a.rowNh 23 S1
 refine lpN Hdr Hdr u [0,1] (fun (d,h) b=>[(5,b.v),(6,iV h)]) (fun (d,h) b=>St w0 ros (row 23 S1 b.v d::rs)) (fun | s,i=>(.exit 0,[(5,i.v)],St w0 ros (row 23 S1 i.v s::rs))) rfl _ a rfl ?_ ?_
 ·clear a
  rintro i g w a
  exact vx
 rintro ⟨d,h⟩ b g w A a c
 refine v 0 ?_
 refine ⟨fun _ c=>?_,vt⟩
 refine bE c fun j x c=>?_
 replace a:=a.rowNh 3 I1
 refine lpN Hdr Hdr x [0,1,5,6] (fun (k,m) f=>[(7,f.v),(8,iV m)]) (fun (k,m) f=>St w0 ros (row 23 S1 b.v d::row 3 I1 f.v k::rs)) (fun | j,e=>(.exit 2,[(7,e.v)],St w0 ros (row 23 S1 b.v d::row 3 I1 e.v j::rs))) rfl _ (a.k10) rfl ?_ ?_
 ·clear a
  rintro e g w a
  refine q 5 rfl ?_
  replace a:=(a.k10).fz
  exact yh (rLt (n:=1) (l:=[j]) a M8 [e.v] (bp1 e0) rfl rfl (N1 (cs:=[e.v]) rfl (mkS F0) X1)) fun B w a=>vx
 rintro ⟨k,m⟩ f g w C a c
 refine v 0 ?_
 refine ⟨fun _ _ _ y c=>?_,vt⟩
 obtain ⟨D,a⟩:=iLs a t y
 exact vx
instance:CL prog 25 (type_of% @Bh):=⟨@Bh⟩
theorem Tl {d b:Int} {x z A:LI} {i j k:Hdr} {out:Int×Int×LI×LI×(List (List (Bool×LI)))×Int} (c:m_kh d b x z A=some out) (K:imm I1 i.v x∈ros) (L:imm I1 j.v z∈ros) (N:imm (rI .u64) k.v A∈ros) (O:globF∈ros) (a:St w0 ros rs w):
  Calls prog 6 #[.agg #[iV d,iV b,i.v,j.v,k.v]] w (fun e w=>∃ (B C D:Hdr),e=.returned (.tuple #[.agg #[iV out.1,iV out.2.1,B.v,C.v,D.v],iV out.2.2.2.2.2])∧St w0 ros (row 3 I1 B.v out.2.2.1::row 3 I1 C.v out.2.2.2.1::row 56 (rS (rP rB (rS (rI .u32)))) D.v out.2.2.2.2.1::rs) w):=by
 refine en func6 rfl ntmps6 fun Q p=>q 2 rfl (yb (Qd (vals:=[iV d,iV b,i.v,j.v,k.v]) a e0 rfl) fun R w a=>yb (rAl a Ns) fun r w a=>q 5 rfl (y (I2 [iV d,iV b,i.v,j.v,k.v] Yb e0 a R1) (bE c fun S T c=>cO (Ah T K L N O a) fun U w a=>q 16 rfl ?_)))
 refine cIn c (fun V c=>?_) fun V c=>?_
 ·refine q 6 rfl (y (lb_ (iV b) O_3 e0 a R2) (bE c fun f W c=>?_))
  replace a:=a.fz
  refine cO (vh W F0 a) fun h w a=>q 6 rfl (y (lb_ (iV b) O_3 e0 a R2) (q 1 rfl (y (Y2 P5 e0 a rO0) (bE c fun X Z c=>q 6 rfl (cO (uh Z a) fun a0 w a=>bE c fun a1 a2 c=>q 10 rfl ?_)))))
  refine lpN Unit (Hdr×Hdr) a2 [1,2,4,7,8,9] (fun s _=>[(10,iV s)]) (fun s _=>St w0 (imm (rS (rP rB (rS (rI .u32)))) U.v S.1::ros) (box R 26 [iV d,iV b,i.v,j.v,k.v]::box r 30 [iV 0,iV 0,hnil.v,hnil.v,hnil.v]::row 56 (rS (rP rB (rS (rI .u32)))) h.v f::row 3 I1 a0.v X::rs)) (fun | .inl (),(_,_)=>(.exit 0,[],St w0 ros (box r 30 [iV 0,iV 0,hnil.v,hnil.v,hnil.v]::rs)) | .inr (E,F,G),(t,u)=>(.ret,[(3,iV 0)],St w0 ros (row 3 I1 t.v F::row 3 I1 u.v G::row 56 (rS (rP rB (rS (rI .u32)))) h.v f::box r 30 [iV (ws .i64 b (f.length:Int)),iV E,t.v,u.v,h.v]::rs))) rfl () (a.k29) rfl ?_ ?_
  ·clear a
   rintro ⟨t,u⟩ g w a
   rcases a1 with ⟨⟩ | ⟨E,F,G⟩
   ·refine q 4 rfl (y (J9 (us:=[iV 0,iV 0,hnil.v,hnil.v,hnil.v]) [] zg bp0 rfl) (sB rfl a b00 fun w a=>q 4 rfl ?_))
    cases c
    replace a:=((a.rowNh 3 I1).rowNh 3 I1).rowNh 56 (rS (rP rB (rS (rI .u32))))
    exact p _ _ _ (X3 results6 (I3 rfl rfl a R3 b00 rfl) ⟨rfl,rfl⟩ ⟨_,_,_,rfl,(a.k2t)⟩)
   ·refine q 2 rfl ?_
    cases c
    exact p _ _ _ (X3 results6 (I3 rfl rfl a R3 b00 rfl) ⟨rfl,rfl⟩ ⟨_,_,_,rfl,(a.k2y)⟩)
  rintro s _ g w a9 a c
  refine q 5 rfl (y (Y2 V0 e0 a rO3) (q 3 rfl (cI c (fun a3 c=>?_) fun a3 c=>?_)))
  ·refine q 9 rfl (bE c fun b0 H c=>y (yIa V0 e0 e0 a rO3 H) (y (yI O_3 e0 a rO3 H) (bE c fun b1 a4 c=>cO (rh a4 F0 a) fun b2 w a=>bE c fun b3 I c=>bE c fun b4 a5 c=>q 4 rfl (dS [7,8] 2 E1 ?_))))
   replace a:=a.drew
   refine D1 127 0 7 rfl (qR 2 rfl (rQ rfl (lb_ (iV b) O_3 e0 a R1) (qR 2 rfl (rQ rfl (yIa V0 e0 e0 a rO4 I) (rQ rfl (yI O_3 e0 a rO4 I) (Rn QSn ?_))))))
   replace a:=a.fz
   refine kO (We a5 F0 a) fun l w a=>dU (D1 0 0 8 rfl (Rn QSn (Ly wn (a_ l.v e0) (dU (Dw 0 0 (Rn QSn (qx 5 rfl (y (Y2 V0 e0 a rO0) (q 4 rfl ?_)))))))))
   refine cIn c (fun a6 c=>?_) fun a6 c=>?_
   ·refine q 3 rfl (bE c fun b5 a7 c=>bE c fun b6 n c=>bE c fun b7 a8 c=>dS [3,10,11] 3 E1 ?_)
    replace a:=a.drew
    refine D1 1015 0 3 rfl (qR 2 rfl (rQ rfl (lb_ (iV b) O_3 e0 a R1) (qR 1 rfl (rQ rfl (lb_ (iV d) O_3 e0 a R1) (qR 2 rfl (rQ rfl (yIa V0 e0 e0 a rO4 n) (rQ rfl (yI O_3 e0 a rO4 n) (Rn QSn (kO (Bh a7 F0 a) fun b8 w a=>dU (D1 0 1008 10 rfl (Rn (qS rfl (sY rfl (lb_ (iV d) O_3 e0 a R2) (qS rfl (qS rfl (sY rfl (yIa V0 e0 e0 a rO5 n) (sY rfl (yI O_3 e0 a rO5 n) QSn)))))) ?_)))))))))))
    replace a:=a.fz
    refine kO (We a8 F0 a) fun m w a=>dU (D1 0 0 11 rfl (Rn QSn (Ly wn (a_ m.v e0) (dU (Dw 0 0 (Rn QSn (bE c fun o J c=>qx 6 rfl (y (yIa V0 e0 e0 a rO5 J) (y (yI O_3 e0 a rO5 J) (q 3 rfl (y (J9 (us:=[iV (ws .i64 b (f.length:Int)),iV o,m.v,l.v,h.v]) [(0,iV (ws .i64 b (f.length:Int))),(1,iV o),(2,m.v),(3,l.v),(4,h.v)] zg (bp5 e0 e0 e0 e0 e0) rfl) ?_)))))))))))
    replace a:=a.k1c
    refine yt (Z2 (vals':=[iV (ws .i64 b (f.length:Int)),iV o,m.v,l.v,h.v]) (us:=[iV (ws .i64 b (f.length:Int)),iV o,m.v,l.v,h.v]) a b00 e0 e0 rfl rfl (B3 rfl) rfl) fun w a=>q 6 rfl ?_
    cases c
    exact lx (_,_) ((a.k2z).fc)
   ·refine q 9 rfl ?_
    cases c
    exact ln () ((a.k30).facts (Q0 F1 (N0 (N0 A1))))
  ·refine q 2 rfl ?_
   cases c
   exact lx (hnil,hnil) ((a.k15).fc)
 ·refine q 2 rfl (y (J9 (us:=[iV 0,iV 0,hnil.v,hnil.v,hnil.v]) [] zg bp0 rfl) (q 1 rfl ?_))
  replace a:=a.k10
  refine sB rfl a b00 fun w a=>q 5 rfl ?_
  cases c
  replace a:=((a.rowNh 3 I1).rowNh 3 I1).rowNh 56 (rS (rP rB (rS (rI .u32))))
  exact p _ _ _ (X3 results6 (I3 rfl rfl a R3 b00 rfl) ⟨rfl,rfl⟩ ⟨_,_,_,rfl,(a.k31)⟩)
instance:CL prog 6 (type_of% @Tl):=⟨@Tl⟩
theorem Sl {d e:LI} {f h:Hdr} {out:Bool} (c:m_kj d e=some out) (k:imm I1 f.v d∈ros) (l:imm I1 h.v e∈ros) (a:St w0 ros rs w):
  Calls prog 26 #[f.v,h.v] w (rv w0 ros rs (.bool out)):=by
 refine en func26 rfl ntmps26 fun Q m=>?_
 refine v 0 ?_
 refine ⟨fun _ c=>?_,vt⟩
 refine bE c fun i j c=>?_
 refine lp j [0,1] (fun b=>[(5,iV b)]) (fun b=>St w0 ros rs) (fun | .inl ()=>(.exit 0,[],St w0 ros rs) | .inr ()=>(.ret,[(4,.bool false)],St w0 ros rs)) rfl a rfl ?_ ?_
 ·clear a
  intro g w a
  rcases i with ⟨⟩ | ⟨⟩
  ·exact vx
  ·exact vx
 rintro b g w n a c
 exact vx
instance:CL prog 26 (type_of% @Sl):=⟨@Sl⟩
theorem El {d e:LI} {f h:Hdr} {out:Bool} (c:m_kl d e=some out) (k:imm (rI .u32) f.v d∈ros) (l:imm (rI .u32) h.v e∈ros) (a:St w0 ros rs w):
  Calls prog 66 #[f.v,h.v] w (rv w0 ros rs (.bool out)):=by
 refine en func66 rfl ntmps66 fun Q m=>?_
 refine v 0 ?_
 refine ⟨fun _ c=>?_,vt⟩
 refine bE c fun i j c=>?_
 refine lp j [0,1] (fun b=>[(5,iV b)]) (fun b=>St w0 ros rs) (fun | .inl ()=>(.exit 0,[],St w0 ros rs) | .inr ()=>(.ret,[(4,.bool false)],St w0 ros rs)) rfl a rfl ?_ ?_
 ·clear a
  intro g w a
  rcases i with ⟨⟩ | ⟨⟩
  ·exact vx
  ·exact vx
 rintro b g w n a c
 exact vx
instance:CL prog 66 (type_of% @El):=⟨@El⟩
theorem Ad {b:Bool} {d:LI} {e:Bool} {f:LI} {g h:Hdr} {out:Bool} (c:m_km b d e f=some out) (i:imm (rI .u32) g.v d∈ros) (j:imm (rI .u32) h.v f∈ros) (a:St w0 ros rs w):
  Calls prog 30 #[.agg #[.bool b,g.v],.agg #[.bool e,h.v]] w (rv w0 ros rs (.bool out)):=by
 refine en func30 rfl ntmps30 fun Q k=>?_
 refine z 4 0 ?_;intro l w a m w a
 exact y (Je I0 e0 e0) vx
instance:CL prog 30 (type_of% @Ad):=⟨@Ad⟩
end Go.Proofs.YthekfonboblioaaGreatDoor
