/- Walks: each function computes its model, printed. -/
import Derived.Test.YtcoaljcfifecgaeGreatDoorW11
namespace Go.Proofs.YtcoaljcfifecgaeGreatDoor
open Go Sx M Go.Proofs.Tryz
set_option maxRecDepth 100000
set_option maxHeartbeats 40000000
set_option linter.unusedVariables false
attribute [local irreducible] wpList Code.wp Calls DR QR QS LA LS St row box fam imm rowS loop
variable {w0:World} {ros:List Fact} {rs:List Res} {w:World}
theorem w_ey {b:Bool} {d:LI} {e:Bool} {f:LI} {g h:Hdr} {out:Bool} (c:m_jd b d e f=some out) (i:imm (rI .u32) g.v d∈ros) (j:imm (rI .u32) h.v f∈ros) (a:St w0 ros rs w):
  Calls prog 23 #[.agg #[.bool b,g.v],.agg #[.bool e,h.v]] w (rv w0 ros rs (.bool out)):=by
 refine en func23 rfl ntmps23 fun Q k=>?_
 refine z 4 0 ?_;intro l w a m w a
 exact y (yeqb (by kernel_rfl) e0 e0) vx
instance:CL prog 23 (type_of% @w_ey):=⟨@w_ey⟩
theorem w_ez {out:Bool} (c:m_je=some out) (Z:globF∈ros) (a:St w0 ros rs w):
  Calls prog 6 #[] w (rv w0 ros rs (.bool out)):=by
 refine en func6 rfl ntmps6 fun Q i4=>?_
 refine z 2 6 ?_;intro G i5 c w a V i6 c w a
 refine yh (rLt (n:=3) (l:=[0,2,4]) a SL_23 [iV 0,iV 2,iV 4] (bp3 rfl rfl rfl) rfl rfl (mks1 (cs:=[iV 0]) rfl mkI (mks1 (cs:=[iV 2]) rfl mkI (mks1 (cs:=[iV 4]) rfl mkI mks0)))) fun g2 w a=>yh (rLt (n:=4) (l:=[0,1,0,1]) a SL_23 [iV 0,iV 1,iV 0,iV 1] (bp4 rfl rfl rfl rfl) rfl rfl (mks1 (cs:=[iV 0]) rfl mkI (mks1 (cs:=[iV 1]) rfl mkI (mks1 (cs:=[iV 0]) rfl mkI (mks1 (cs:=[iV 1]) rfl mkI mks0))))) fun g3 w a=>q 3 rfl (yh (rLt (n:=4) (l:=[4607182418800017408,G,G,V]) a SL_24 [.int .u64 4607182418800017408,.int .u64 G,.int .u64 G,.int .u64 V] (bp4 rfl e0 e0 e0) rfl rfl (mks1 (cs:=[.int .u64 4607182418800017408]) rfl mkI (mks1 (cs:=[.int .u64 G]) rfl mkI (mks1 (cs:=[.int .u64 G]) rfl mkI (mks1 (cs:=[.int .u64 V]) rfl mkI mks0))))) fun g4 w a=>?_)
 refine z 4 0 ?_;intro i7 w a w a
 refine bE c fun m g5 c=>?_
 replace a:=(((((a.k1c).fz).k16).fz).k10).fz
 refine yC (yCall FN_5 (a1 e0)) (w_d7 g5 F2 F1 F0 (F_3 Z) a) ?_
 rintro _ w ⟨g6,g7,K,i8,rfl,a⟩
 refine ⟨_,rfl,?_⟩
 refine nf ?_
 refine z 4 10 ?_;intro i9 w a w a j0 j1 c j2 w a
 refine bE c fun u L c=>bE c fun s D c=>bE c fun r y c=>bE c fun o t c=>bE c fun k p c=>bE c fun i j c=>bE c fun f b c=>bE c fun e d c=>?_
 refine jN Unit [] (fun _=>[(0,.bool e)]) (fun _=>St w0 ros rs) rfl ?_ ?_
 ·rcases iteS L with ⟨x,L⟩ | ⟨x,L⟩
  ·have B:=someI L
   rcases iteS D with ⟨A,D⟩ | ⟨A,D⟩
   ·have E:=someI D
    rcases iteS y with ⟨C,y⟩ | ⟨C,y⟩
    ·have H:=someI y
     rcases iteS t with ⟨F,t⟩ | ⟨F,t⟩
     ·have N:=someI t
      rcases iteS p with ⟨I,p⟩ | ⟨I,p⟩
      ·have S:=someI p
       rcases iteS j with ⟨O,j⟩ | ⟨O,j⟩
       ·have W:=someI j
        rcases iteS b with ⟨T,b⟩ | ⟨T,b⟩
        ·refine bE b fun U J b=>bE b fun j3 a0 b=>bE b fun j4 a2 b=>?_
         have a3:=someI b
         rcases iteS d with ⟨X,d⟩ | ⟨X,d⟩
         ·refine bE d fun j5 g8 d=>?_
          have g9:=someI d
          refine dS [34,35,40,42] 4 folM ?_
          replace a:=a.drew
          refine D1 17179869183 0 34 rfl (qR 3 rfl (rK 31 rfl (dT x) (qR 2 rfl (rQ rfl (pt_ (.bool u) e0 rfl (eqv B e0)) (qR 1 rfl (rK 35 rfl A (qR 1 rfl (rQ rfl (pt_ (.bool s) e0 rfl (eqv E e0)) (qR 1 rfl (rK 38 rfl C (qR 1 rfl (rQ rfl (lb_ (iV m.1) O_3 e0 a R0) (qR 1 rfl ?_)))))))))))))
          refine rQ rfl (pt_ (.bool r) e0 rfl (eqv H e0)) (qR 1 rfl (rK 43 rfl F (qR 1 rfl (rQ rfl (lb_ (iV m.2.1) O_3 e0 a R0) (qR 1 rfl (rQ rfl (pt_ (.bool o) e0 rfl (eqv N e0)) (qR 1 rfl (rK 48 rfl I (qR 1 rfl (rQ rfl (lb_ K.v O_28 e0 a R0) (rQ rfl (yLenF SLH_28 e0 a rO3 R4) (qR 1 rfl (rQ rfl (pt_ (.bool k) e0 rfl (eqv S e0)) ?_)))))))))))))
          refine qR 1 rfl (rK 54 rfl O (qR 1 rfl (rQ rfl (yLen SL_54 e0 a (rdI F0)) (qR 1 rfl (rQ rfl (pt_ (.bool i) e0 rfl (eqv W e0)) (qR 1 rfl (rK 59 rfl T (qR 1 rfl (rQ rfl (yIa SL_54 e0 rfl a (rdI F0) J) ?_)))))))))
          obtain ⟨j6,j7,a⟩:=iLd a F0 J
          obtain ⟨j8,j9,rfl,a⟩:=a.eltP
          obtain ⟨rfl,a⟩:=a.eltB
          obtain ⟨R,rfl,a⟩:=a.eltS
          refine rQ rfl (yCtn (cs:=[.bool U.1,R.v]) ST_60 rfl e0 a F1) (Rn QSn (kO (w_f a0 a) fun h0 w a=>dU (D1 0 15032385536 35 rfl (Rn (qS rfl (sY rfl (yIa SL_54 e0 rfl a (rdI F2) J) (sY rfl (yCtn (cs:=[.bool U.1,R.v]) ST_60 rfl e0 a F1) QSn))) ?_))))
          replace a:=a.fz
          refine kZ (w_ey a2 F1 F0 a) fun w a=>dU (D1 1030792151040 0 40 rfl (rQ rfl (pt_ (.bool f) e0 rfl (eqv a3 e0)) (qR 1 rfl (rK 66 rfl X (rQ rfl (lbs_ [iV 2,iV 2,g2.v,g3.v,g4.v] ST_26 e0 a R5) (rQ rfl (lbs_ [iV m.1,iV m.2.1,g6.v,g7.v,K.v] ST_30 e0 a R0) (Rn QSn ?_)))))))
          replace a:=(((((a.k10).fz).k10).fz).k1d).ffz
          exact kZ (w_ev g8 F9 F8 F7 F2 F1 F0 (F_10 Z) a) fun w a=>dU (D1 2199023255552 0 42 rfl (rQ rfl (pt_ (.bool e) e0 rfl (eqv g9 e0)) (Rn QSn (Ly wn (a_ (.bool e) e0) (dU (Dw 0 0 (Rn QSn (jr () ((a.k19).fc)))))))))
         ·have h1:=someI d
          refine dS [34,35,40,42] 4 folM ?_
          replace a:=a.drew
          refine D1 17179869183 0 34 rfl (qR 3 rfl (rK 31 rfl (dT x) (qR 2 rfl (rQ rfl (pt_ (.bool u) e0 rfl (eqv B e0)) (qR 1 rfl (rK 35 rfl A (qR 1 rfl (rQ rfl (pt_ (.bool s) e0 rfl (eqv E e0)) (qR 1 rfl (rK 38 rfl C (qR 1 rfl (rQ rfl (lb_ (iV m.1) O_3 e0 a R0) (qR 1 rfl ?_)))))))))))))
          refine rQ rfl (pt_ (.bool r) e0 rfl (eqv H e0)) (qR 1 rfl (rK 43 rfl F (qR 1 rfl (rQ rfl (lb_ (iV m.2.1) O_3 e0 a R0) (qR 1 rfl (rQ rfl (pt_ (.bool o) e0 rfl (eqv N e0)) (qR 1 rfl (rK 48 rfl I (qR 1 rfl (rQ rfl (lb_ K.v O_28 e0 a R0) (rQ rfl (yLenF SLH_28 e0 a rO3 R4) (qR 1 rfl (rQ rfl (pt_ (.bool k) e0 rfl (eqv S e0)) ?_)))))))))))))
          refine qR 1 rfl (rK 54 rfl O (qR 1 rfl (rQ rfl (yLen SL_54 e0 a (rdI F0)) (qR 1 rfl (rQ rfl (pt_ (.bool i) e0 rfl (eqv W e0)) (qR 1 rfl (rK 59 rfl T (qR 1 rfl (rQ rfl (yIa SL_54 e0 rfl a (rdI F0) J) ?_)))))))))
          obtain ⟨k0,k1,a⟩:=iLd a F0 J
          obtain ⟨k2,k3,rfl,a⟩:=a.eltP
          obtain ⟨rfl,a⟩:=a.eltB
          obtain ⟨R,rfl,a⟩:=a.eltS
          refine rQ rfl (yCtn (cs:=[.bool U.1,R.v]) ST_60 rfl e0 a F1) (Rn QSn (kO (w_f a0 a) fun h0 w a=>dU (D1 0 15032385536 35 rfl (Rn (qS rfl (sY rfl (yIa SL_54 e0 rfl a (rdI F2) J) (sY rfl (yCtn (cs:=[.bool U.1,R.v]) ST_60 rfl e0 a F1) QSn))) ?_))))
          replace a:=a.fz
          refine kZ (w_ey a2 F1 F0 a) fun w a=>dU (D1 1030792151040 0 40 rfl (rQ rfl (pt_ (.bool f) e0 rfl (eqv a3 e0)) (qR 1 rfl (rK 66 rfl (bfalse X) (qR 2 rfl (Rn QSn (Lx (wqg_ok.2 rfl) (dU (D1 2199023255552 0 42 rfl (rQ rfl (pf_ (.bool e) e0 rfl (eqv h1 rfl)) (Rn QSn (Ly wn (a_ (.bool e) e0) ?_))))))))))))
          exact dU (Dw 0 0 (Rn QSn (jr () ((a.k2l).fc))))
        ·have a4:=someI b
         have a5:¬ f=true:=fun h=>Bool.false_ne_true (a4.trans h)
         rw [if_neg a5] at d
         have h2:=someI d
         refine dS [34,35,40,42] 4 folM ?_
         replace a:=a.drew
         refine D1 17179869183 0 34 rfl (qR 3 rfl (rK 31 rfl (dT x) (qR 2 rfl (rQ rfl (pt_ (.bool u) e0 rfl (eqv B e0)) (qR 1 rfl (rK 35 rfl A (qR 1 rfl (rQ rfl (pt_ (.bool s) e0 rfl (eqv E e0)) (qR 1 rfl (rK 38 rfl C (qR 1 rfl (rQ rfl (lb_ (iV m.1) O_3 e0 a R0) (qR 1 rfl ?_)))))))))))))
         refine rQ rfl (pt_ (.bool r) e0 rfl (eqv H e0)) (qR 1 rfl (rK 43 rfl F (qR 1 rfl (rQ rfl (lb_ (iV m.2.1) O_3 e0 a R0) (qR 1 rfl (rQ rfl (pt_ (.bool o) e0 rfl (eqv N e0)) (qR 1 rfl (rK 48 rfl I (qR 1 rfl (rQ rfl (lb_ K.v O_28 e0 a R0) (rQ rfl (yLenF SLH_28 e0 a rO3 R4) (qR 1 rfl (rQ rfl (pt_ (.bool k) e0 rfl (eqv S e0)) ?_)))))))))))))
         refine qR 1 rfl (rK 54 rfl O (qR 1 rfl (rQ rfl (yLen SL_54 e0 a (rdI F0)) (qR 1 rfl (rQ rfl (pt_ (.bool i) e0 rfl (eqv W e0)) (qR 1 rfl (rK 59 rfl (bfalse T) (qR 3 rfl (Rn QSn (Lx (wqg_ok.2 rfl) (dU (D1 0 15032385536 35 rfl (Rn (qS rfl (qS rfl (qS rfl QSn))) ?_)))))))))))))
         refine Lx (wqg_ok.2 rfl) (dU (D1 1030792151040 0 40 rfl (rQ rfl (pf_ (.bool f) e0 rfl (eqv a4 rfl)) (qR 1 rfl (rK 66 rfl (bfalse a5) (qR 2 rfl (Rn QSn (Lx (wqg_ok.2 rfl) (dU (D1 2199023255552 0 42 rfl (rQ rfl (pf_ (.bool e) e0 rfl (eqv h2 rfl)) (Rn QSn (Ly wn (a_ (.bool e) e0) ?_)))))))))))))
         exact dU (Dw 0 0 (Rn QSn (jr () ((a.k2l).fc))))
       ·have a6:=someI j
        have a7:¬ i=true:=fun h=>Bool.false_ne_true (a6.trans h)
        rw [if_neg a7] at b
        have a8:=someI b
        have a9:¬ f=true:=fun h=>Bool.false_ne_true (a8.trans h)
        rw [if_neg a9] at d
        have h6:=someI d
        refine dS [34,35,40,42] 4 folM ?_
        replace a:=a.drew
        refine D1 17179869183 0 34 rfl (qR 3 rfl (rK 31 rfl (dT x) (qR 2 rfl (rQ rfl (pt_ (.bool u) e0 rfl (eqv B e0)) (qR 1 rfl (rK 35 rfl A (qR 1 rfl (rQ rfl (pt_ (.bool s) e0 rfl (eqv E e0)) (qR 1 rfl (rK 38 rfl C (qR 1 rfl (rQ rfl (lb_ (iV m.1) O_3 e0 a R0) (qR 1 rfl ?_)))))))))))))
        refine rQ rfl (pt_ (.bool r) e0 rfl (eqv H e0)) (qR 1 rfl (rK 43 rfl F (qR 1 rfl (rQ rfl (lb_ (iV m.2.1) O_3 e0 a R0) (qR 1 rfl (rQ rfl (pt_ (.bool o) e0 rfl (eqv N e0)) (qR 1 rfl (rK 48 rfl I (qR 1 rfl (rQ rfl (lb_ K.v O_28 e0 a R0) (rQ rfl (yLenF SLH_28 e0 a rO3 R4) (qR 1 rfl (rQ rfl (pt_ (.bool k) e0 rfl (eqv S e0)) ?_)))))))))))))
        refine qR 1 rfl (rK 54 rfl (bfalse O) (qR 3 rfl (rQ rfl (pf_ (.bool i) e0 rfl (eqv a6 rfl)) (qR 1 rfl (rK 59 rfl (bfalse a7) (qR 3 rfl (Rn QSn (Lx (wqg_ok.2 rfl) (dU (D1 0 15032385536 35 rfl (Rn (qS rfl (qS rfl (qS rfl QSn))) (Lx (wqg_ok.2 rfl) (dU ?_)))))))))))))
        refine D1 1030792151040 0 40 rfl (rQ rfl (pf_ (.bool f) e0 rfl (eqv a8 rfl)) (qR 1 rfl (rK 66 rfl (bfalse a9) (qR 2 rfl (Rn QSn (Lx (wqg_ok.2 rfl) (dU (D1 2199023255552 0 42 rfl (rQ rfl (pf_ (.bool e) e0 rfl (eqv h6 rfl)) (Rn QSn (Ly wn (a_ (.bool e) e0) (dU (Dw 0 0 ?_)))))))))))))
        exact Rn QSn (jr () ((a.k2l).fc))
      ·have b0:=someI p
       have b1:¬ k=true:=fun h=>Bool.false_ne_true (b0.trans h)
       rw [if_neg b1] at j
       have b2:=someI j
       have b3:¬ i=true:=fun h=>Bool.false_ne_true (b2.trans h)
       rw [if_neg b3] at b
       have b4:=someI b
       have b5:¬ f=true:=fun h=>Bool.false_ne_true (b4.trans h)
       rw [if_neg b5] at d
       have h7:=someI d
       refine dS [34,35,40,42] 4 folM ?_
       replace a:=a.drew
       refine D1 17179869183 0 34 rfl (qR 3 rfl (rK 31 rfl (dT x) (qR 2 rfl (rQ rfl (pt_ (.bool u) e0 rfl (eqv B e0)) (qR 1 rfl (rK 35 rfl A (qR 1 rfl (rQ rfl (pt_ (.bool s) e0 rfl (eqv E e0)) (qR 1 rfl (rK 38 rfl C (qR 1 rfl (rQ rfl (lb_ (iV m.1) O_3 e0 a R0) (qR 1 rfl ?_)))))))))))))
       refine rQ rfl (pt_ (.bool r) e0 rfl (eqv H e0)) (qR 1 rfl (rK 43 rfl F (qR 1 rfl (rQ rfl (lb_ (iV m.2.1) O_3 e0 a R0) (qR 1 rfl (rQ rfl (pt_ (.bool o) e0 rfl (eqv N e0)) (qR 1 rfl (rK 48 rfl (bfalse I) (qR 4 rfl (rQ rfl (pf_ (.bool k) e0 rfl (eqv b0 rfl)) (qR 1 rfl (rK 54 rfl (bfalse b1) (qR 3 rfl ?_)))))))))))))
       refine rQ rfl (pf_ (.bool i) e0 rfl (eqv b2 rfl)) (qR 1 rfl (rK 59 rfl (bfalse b3) (qR 3 rfl (Rn QSn (Lx (wqg_ok.2 rfl) (dU (D1 0 15032385536 35 rfl (Rn (qS rfl (qS rfl (qS rfl QSn))) (Lx (wqg_ok.2 rfl) (dU (D1 1030792151040 0 40 rfl (rQ rfl (pf_ (.bool f) e0 rfl (eqv b4 rfl)) (qR 1 rfl ?_)))))))))))))
       exact rK 66 rfl (bfalse b5) (qR 2 rfl (Rn QSn (Lx (wqg_ok.2 rfl) (dU (D1 2199023255552 0 42 rfl (rQ rfl (pf_ (.bool e) e0 rfl (eqv h7 rfl)) (Rn QSn (Ly wn (a_ (.bool e) e0) (dU (Dw 0 0 (Rn QSn (jr () ((a.k2l).fc)))))))))))))
     ·have b7:=someI t
      have b8:¬ o=true:=fun h=>Bool.false_ne_true (b7.trans h)
      rw [if_neg b8] at p
      have b9:=someI p
      have c0:¬ k=true:=fun h=>Bool.false_ne_true (b9.trans h)
      rw [if_neg c0] at j
      have c1:=someI j
      have c2:¬ i=true:=fun h=>Bool.false_ne_true (c1.trans h)
      rw [if_neg c2] at b
      have c3:=someI b
      have c4:¬ f=true:=fun h=>Bool.false_ne_true (c3.trans h)
      rw [if_neg c4] at d
      have i0:=someI d
      refine dS [34,35,40,42] 4 folM ?_
      replace a:=a.drew
      refine D1 17179869183 0 34 rfl (qR 3 rfl (rK 31 rfl (dT x) (qR 2 rfl (rQ rfl (pt_ (.bool u) e0 rfl (eqv B e0)) (qR 1 rfl (rK 35 rfl A (qR 1 rfl (rQ rfl (pt_ (.bool s) e0 rfl (eqv E e0)) (qR 1 rfl (rK 38 rfl C (qR 1 rfl (rQ rfl (lb_ (iV m.1) O_3 e0 a R0) (qR 1 rfl ?_)))))))))))))
      refine rQ rfl (pt_ (.bool r) e0 rfl (eqv H e0)) (qR 1 rfl (rK 43 rfl (bfalse F) (qR 3 rfl (rQ rfl (pf_ (.bool o) e0 rfl (eqv b7 rfl)) (qR 1 rfl (rK 48 rfl (bfalse b8) (qR 4 rfl (rQ rfl (pf_ (.bool k) e0 rfl (eqv b9 rfl)) (qR 1 rfl (rK 54 rfl (bfalse c0) (qR 3 rfl (rQ rfl (pf_ (.bool i) e0 rfl (eqv c1 rfl)) (qR 1 rfl ?_)))))))))))))
      refine rK 59 rfl (bfalse c2) (qR 3 rfl (Rn QSn (Lx (wqg_ok.2 rfl) (dU (D1 0 15032385536 35 rfl (Rn (qS rfl (qS rfl (qS rfl QSn))) (Lx (wqg_ok.2 rfl) (dU (D1 1030792151040 0 40 rfl (rQ rfl (pf_ (.bool f) e0 rfl (eqv c3 rfl)) (qR 1 rfl (rK 66 rfl (bfalse c4) (qR 2 rfl ?_)))))))))))))
      exact Rn QSn (Lx (wqg_ok.2 rfl) (dU (D1 2199023255552 0 42 rfl (rQ rfl (pf_ (.bool e) e0 rfl (eqv i0 rfl)) (Rn QSn (Ly wn (a_ (.bool e) e0) (dU (Dw 0 0 (Rn QSn (jr () ((a.k2l).fc)))))))))))
    ·have c5:=someI y
     have c6:¬ r=true:=fun h=>Bool.false_ne_true (c5.trans h)
     rw [if_neg c6] at t
     have c7:=someI t
     have c8:¬ o=true:=fun h=>Bool.false_ne_true (c7.trans h)
     rw [if_neg c8] at p
     have c9:=someI p
     have d0:¬ k=true:=fun h=>Bool.false_ne_true (c9.trans h)
     rw [if_neg d0] at j
     have d1:=someI j
     have d2:¬ i=true:=fun h=>Bool.false_ne_true (d1.trans h)
     rw [if_neg d2] at b
     have d3:=someI b
     have d4:¬ f=true:=fun h=>Bool.false_ne_true (d3.trans h)
     rw [if_neg d4] at d
     have i1:=someI d
     refine dS [34,35,40,42] 4 folM ?_
     replace a:=a.drew
     refine D1 17179869183 0 34 rfl (qR 3 rfl (rK 31 rfl (dT x) (qR 2 rfl (rQ rfl (pt_ (.bool u) e0 rfl (eqv B e0)) (qR 1 rfl (rK 35 rfl A (qR 1 rfl (rQ rfl (pt_ (.bool s) e0 rfl (eqv E e0)) (qR 1 rfl (rK 38 rfl (bfalse C) (qR 3 rfl (rQ rfl (pf_ (.bool r) e0 rfl (eqv c5 rfl)) (qR 1 rfl ?_)))))))))))))
     refine rK 43 rfl (bfalse c6) (qR 3 rfl (rQ rfl (pf_ (.bool o) e0 rfl (eqv c7 rfl)) (qR 1 rfl (rK 48 rfl (bfalse c8) (qR 4 rfl (rQ rfl (pf_ (.bool k) e0 rfl (eqv c9 rfl)) (qR 1 rfl (rK 54 rfl (bfalse d0) (qR 3 rfl (rQ rfl (pf_ (.bool i) e0 rfl (eqv d1 rfl)) (qR 1 rfl (rK 59 rfl (bfalse d2) (qR 3 rfl ?_)))))))))))))
     refine Rn QSn (Lx (wqg_ok.2 rfl) (dU (D1 0 15032385536 35 rfl (Rn (qS rfl (qS rfl (qS rfl QSn))) (Lx (wqg_ok.2 rfl) (dU (D1 1030792151040 0 40 rfl (rQ rfl (pf_ (.bool f) e0 rfl (eqv d3 rfl)) (qR 1 rfl (rK 66 rfl (bfalse d4) (qR 2 rfl (Rn QSn (Lx (wqg_ok.2 rfl) ?_)))))))))))))
     exact dU (D1 2199023255552 0 42 rfl (rQ rfl (pf_ (.bool e) e0 rfl (eqv i1 rfl)) (Rn QSn (Ly wn (a_ (.bool e) e0) (dU (Dw 0 0 (Rn QSn (jr () ((a.k2l).fc)))))))))
   ·have d5:=someI D
    have d6:¬ s=true:=fun h=>Bool.false_ne_true (d5.trans h)
    rw [if_neg d6] at y
    have d7:=someI y
    have d8:¬ r=true:=fun h=>Bool.false_ne_true (d7.trans h)
    rw [if_neg d8] at t
    have d9:=someI t
    have e1:¬ o=true:=fun h=>Bool.false_ne_true (d9.trans h)
    rw [if_neg e1] at p
    have e2:=someI p
    have e3:¬ k=true:=fun h=>Bool.false_ne_true (e2.trans h)
    rw [if_neg e3] at j
    have e4:=someI j
    have e5:¬ i=true:=fun h=>Bool.false_ne_true (e4.trans h)
    rw [if_neg e5] at b
    have e6:=someI b
    have e7:¬ f=true:=fun h=>Bool.false_ne_true (e6.trans h)
    rw [if_neg e7] at d
    have i2:=someI d
    refine dS [34,35,40,42] 4 folM ?_
    replace a:=a.drew
    refine D1 17179869183 0 34 rfl (qR 3 rfl (rK 31 rfl (dT x) (qR 2 rfl (rQ rfl (pt_ (.bool u) e0 rfl (eqv B e0)) (qR 1 rfl (rK 35 rfl (bfalse A) (qR 1 rfl (rQ rfl (pf_ (.bool s) e0 rfl (eqv d5 rfl)) (qR 1 rfl (rK 38 rfl (bfalse d6) (qR 3 rfl (rQ rfl (pf_ (.bool r) e0 rfl (eqv d7 rfl)) (qR 1 rfl ?_)))))))))))))
    refine rK 43 rfl (bfalse d8) (qR 3 rfl (rQ rfl (pf_ (.bool o) e0 rfl (eqv d9 rfl)) (qR 1 rfl (rK 48 rfl (bfalse e1) (qR 4 rfl (rQ rfl (pf_ (.bool k) e0 rfl (eqv e2 rfl)) (qR 1 rfl (rK 54 rfl (bfalse e3) (qR 3 rfl (rQ rfl (pf_ (.bool i) e0 rfl (eqv e4 rfl)) (qR 1 rfl (rK 59 rfl (bfalse e5) (qR 3 rfl ?_)))))))))))))
    refine Rn QSn (Lx (wqg_ok.2 rfl) (dU (D1 0 15032385536 35 rfl (Rn (qS rfl (qS rfl (qS rfl QSn))) (Lx (wqg_ok.2 rfl) (dU (D1 1030792151040 0 40 rfl (rQ rfl (pf_ (.bool f) e0 rfl (eqv e6 rfl)) (qR 1 rfl (rK 66 rfl (bfalse e7) (qR 2 rfl (Rn QSn (Lx (wqg_ok.2 rfl) ?_)))))))))))))
    exact dU (D1 2199023255552 0 42 rfl (rQ rfl (pf_ (.bool e) e0 rfl (eqv i2 rfl)) (Rn QSn (Ly wn (a_ (.bool e) e0) (dU (Dw 0 0 (Rn QSn (jr () ((a.k2l).fc)))))))))
  ·have e8:=someI L
   have e9:¬ u=true:=fun h=>Bool.false_ne_true (e8.trans h)
   rw [if_neg e9] at D
   have f0:=someI D
   have f1:¬ s=true:=fun h=>Bool.false_ne_true (f0.trans h)
   rw [if_neg f1] at y
   have f2:=someI y
   have f3:¬ r=true:=fun h=>Bool.false_ne_true (f2.trans h)
   rw [if_neg f3] at t
   have f4:=someI t
   have f5:¬ o=true:=fun h=>Bool.false_ne_true (f4.trans h)
   rw [if_neg f5] at p
   have f6:=someI p
   have f7:¬ k=true:=fun h=>Bool.false_ne_true (f6.trans h)
   rw [if_neg f7] at j
   have f8:=someI j
   have f9:¬ i=true:=fun h=>Bool.false_ne_true (f8.trans h)
   rw [if_neg f9] at b
   have g0:=someI b
   have g1:¬ f=true:=fun h=>Bool.false_ne_true (g0.trans h)
   rw [if_neg g1] at d
   have i3:=someI d
   refine dS [34,35,40,42] 4 folM ?_
   replace a:=a.drew
   refine D1 17179869183 0 34 rfl (qR 3 rfl (rK 31 rfl (dF x) (qR 2 rfl (rQ rfl (pf_ (.bool u) e0 rfl (eqv e8 rfl)) (qR 1 rfl (rK 35 rfl (bfalse e9) (qR 1 rfl (rQ rfl (pf_ (.bool s) e0 rfl (eqv f0 rfl)) (qR 1 rfl (rK 38 rfl (bfalse f1) (qR 3 rfl (rQ rfl (pf_ (.bool r) e0 rfl (eqv f2 rfl)) (qR 1 rfl ?_)))))))))))))
   refine rK 43 rfl (bfalse f3) (qR 3 rfl (rQ rfl (pf_ (.bool o) e0 rfl (eqv f4 rfl)) (qR 1 rfl (rK 48 rfl (bfalse f5) (qR 4 rfl (rQ rfl (pf_ (.bool k) e0 rfl (eqv f6 rfl)) (qR 1 rfl (rK 54 rfl (bfalse f7) (qR 3 rfl (rQ rfl (pf_ (.bool i) e0 rfl (eqv f8 rfl)) (qR 1 rfl (rK 59 rfl (bfalse f9) (qR 3 rfl ?_)))))))))))))
   refine Rn QSn (Lx (wqg_ok.2 rfl) (dU (D1 0 15032385536 35 rfl (Rn (qS rfl (qS rfl (qS rfl QSn))) (Lx (wqg_ok.2 rfl) (dU (D1 1030792151040 0 40 rfl (rQ rfl (pf_ (.bool f) e0 rfl (eqv g0 rfl)) (qR 1 rfl (rK 66 rfl (bfalse g1) (qR 2 rfl (Rn QSn (Lx (wqg_ok.2 rfl) ?_)))))))))))))
   exact dU (D1 2199023255552 0 42 rfl (rQ rfl (pf_ (.bool e) e0 rfl (eqv i3 rfl)) (Rn QSn (Ly wn (a_ (.bool e) e0) (dU (Dw 0 0 (Rn QSn (jr () ((a.k2l).fc)))))))))
 rintro _ g w a
 exact vx
instance:CL prog 6 (type_of% @w_ez):=⟨@w_ez⟩
theorem w_e0 {t:LI} {u x z:Int} {A:Bool} {B:Hdr} {out:Bool} (c:m_jg t u x z A=some out) (a6:out=true) (J:imm (rI .u64) B.v t∈ros) (l:globF∈ros) (a:St w0 ros rs w):
  Calls prog 3 #[B.v,iV u,iV x,iV z,.bool A] w (rv w0 ros rs (.bool out)):=by
 refine en func3 rfl ntmps3 fun Q C=>bE c fun b K c=>q 12 rfl (cR_ (w_bl K J l a) fun e f h w a=>yb (rAl a ZT_26) fun D w a=>sB rfl a ST_26 fun w a=>q 4 rfl (y (lbs_ [iV b.1,iV b.2.1,e.v,f.v,h.v] ST_26 e0 a R0) (bE c fun d L c=>?_)))
 replace a:=(((((a.k10).fz).k10).fz).k10).fz
 refine yC (yCall FN_5 (a1 e0)) (w_d7 L F2 F1 F0 (F_3 l) a) ?_
 rintro _ w ⟨m,n,o,p,rfl,a⟩
 refine ⟨_,rfl,?_⟩
 refine nf (q 3 rfl (yb (rAl a ZT_30) fun E w a=>sB rfl a ST_30 fun w a=>q 10 rfl ?_))
 refine cIn c (fun N c=>?_) fun N c=>?_
 ·refine q 4 rfl (y (lbs_ [iV b.1,iV b.2.1,e.v,f.v,h.v] ST_26 e0 a R5) (bE c fun O R c=>cO (w_eb R F2 F1 F0 (F_3 l) a) fun S w a=>q 18 rfl (y (lb_ (iV b.1) O_3 e0 a R6) (q 2 rfl ?_))))
  refine jW 4 [11,12,14,17] [(49,.bool ((decide ((0:Int) < b.1)) && (decide ((0:Int) < b.2.1))))] (St w0 (imm I1 e.v b.2.2.1::imm I1 f.v b.2.2.2.1::imm (rI .u64) h.v b.2.2.2.2::ros) (box D 26 [iV b.1,iV b.2.1,e.v,f.v,h.v]::row 3 I1 m.v d.2.2.1::row 3 I1 n.v d.2.2.2.1::row 54 rH o.v p::fam 60 (rP rB (rS (rI .u32))) p d.2.2.2.2.1::box E 30 [iV d.1,iV d.2.1,m.v,n.v,o.v]::row 54 (rS (rP rB (rS (rI .u32)))) S.v O.1::rs)) rfl (fun F=>?_) ?_
  ·refine gB 45 rfl (fun s=>?_) fun s=>?_
   ·exact q 1 rfl (y (lb_ (iV b.2.1) O_3 e0 a R6) (q 2 rfl (F _ _ ((a.k2n).facts (allC F2 (allC F1 (allC F0 (allT (allT (allT allI))))))) (hasC (congrArg Value.bool (andT s)) rfl))))
   ·exact q 4 rfl (F _ _ ((a.k2n).facts (allC F2 (allC F1 (allC F0 (allT (allT (allT allI))))))) (hasC (congrArg Value.bool (andF s)) rfl))
  intro g w a
  refine q 2 rfl ?_
  refine jC Int [11,12] (fun r=>[(17,iV r)]) (fun r w=>St w0 (imm I1 e.v b.2.2.1::imm I1 f.v b.2.2.2.1::imm (rI .u64) h.v b.2.2.2.2::ros) (box D 26 [iV b.1,iV b.2.1,e.v,f.v,h.v]::row 3 I1 m.v d.2.2.1::row 3 I1 n.v d.2.2.2.1::row 54 rH o.v p::fam 60 (rP rB (rS (rI .u32))) p d.2.2.2.2.1::box E 30 [iV d.1,iV d.2.1,m.v,n.v,o.v]::rs) w∧m_jf d b r=some out) rfl ?_ ?_
  ·rintro r g w ⟨a,c⟩
   refine q 4 rfl (y (lb_ (iV d.1) O_3 e0 a R5) (bE c fun T i c=>q 3 rfl ?_))
   refine jW 4 [] [(60,.bool T)] (St w0 ros rs) rfl (fun G=>?_) ?_
   ·refine gI 56 i rfl (fun U i=>?_) fun U i=>?_
    ·refine y (lbs_ [iV b.1,iV b.2.1,e.v,f.v,h.v] ST_26 e0 a R0) (y (lbs_ [iV d.1,iV d.2.1,m.v,n.v,o.v] ST_30 e0 a R5) (bE i fun a7 V i=>?_))
     replace a:=(((((a.k10).fz).k10).fz).k1d).ffz
     refine cZ (w_ev V F3 F4 F5 F2 F1 F0 (F_6 l) a) fun w a=>q 1 rfl ?_
     cases i
     exact G _ _ ((a.k19).fc) rfl
    ·refine q 4 rfl ?_
     cases i
     exact G _ _ ((a.k2l).fc) rfl
   intro g w a
   refine bE c fun W j c=>q 1 rfl ?_
   refine jW 2 [] [(63,.bool W)] (St w0 ros rs) rfl (fun H=>?_) ?_
   ·refine gJ 61 j rfl (fun X j=>?_) fun X j=>?_
    ·refine bE j fun a8 Z j=>cZ (w_ez Z l a) fun w a=>q 1 rfl ?_
     cases j
     exact H _ _ a rfl
    ·refine q 2 rfl ?_
     cases j
     exact H _ _ a rfl
   intro g w a
   refine q 4 rfl ?_
   cases c
   exact za C results3 ⟨rfl,a⟩
  refine cJ c (fun a0 c=>?_) fun a0 c=>?_
  ·refine q 2 rfl (bE c fun a9 a2 c=>?_)
   replace a:=(a.k1i).fz
   exact cZ (w_ep a2 F0 a) fun w a=>q 2 rfl (jx _ ⟨(a.facts (allC F1 (allC F2 (allC F3 (allT (allT (allT (allT allI)))))))),c⟩)
  ·exact q 1 rfl (jx _ ⟨(a.k2o),c⟩)
 ·refine q 5 rfl (bE c fun a3 k c=>?_)
  refine jW 2 [] [(35,.bool a3)] (St w0 ros rs) rfl (fun I=>?_) ?_
  ·refine gI 33 k rfl (fun a4 k=>?_) fun a4 k=>?_
   ·refine bE k fun b0 a5 k=>cZ (w_ez a5 (F_3 l) a) fun w a=>q 1 rfl ?_
    cases k
    exact I _ _ ((a.k2l).fc) rfl
   ·refine q 2 rfl ?_
    cases k
    exact I _ _ ((a.k2l).fc) rfl
  intro g w a
  refine q 5 rfl ?_
  cases c
  exact za C results3 ⟨rfl,a⟩
instance:CL prog 3 (type_of% @w_e0):=⟨@w_e0⟩
end Go.Proofs.YtcoaljcfifecgaeGreatDoor
