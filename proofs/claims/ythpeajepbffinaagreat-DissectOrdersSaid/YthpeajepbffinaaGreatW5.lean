/- Walks: each function computes its model, printed. -/
import Derived.Test.YthpeajepbffinaaGreatW4
namespace Go.Proofs.YthpeajepbffinaaGreat
open Go Sx M
set_option maxRecDepth 100000
set_option maxHeartbeats 40000000
set_option linter.unusedVariables false
attribute [local irreducible] wpList Code.wp Calls DR QR QS LA LS St
variable {w0:World} {ros:List Fact} {rs:List Res} {w:World}
theorem sparseref18_Grow_ok {b1:L2} {b2:LI} {b3:L2} {h j m:Hdr} {out:LI} (l:sparseref18_Grow b1 b2 b3=some out) (C:imm S1 h.v b1∈ros) (D:imm I1 j.v b2∈ros) (f8:imm S1 m.v b3∈ros) (b:St w0 ros rs w):
  Calls Tryz.prog 45 #[.agg #[h.v,j.v,m.v]] w (fun e w=>∃ (b4:Hdr),e=.returned (b4.v)∧St w0 ros (row 3 I1 b4.v out::rs) w):=by
 refine enterQ Tryz.func45 rfl Tryz.ntmps45 rfl fun Q b5=>sR fun _ f9=>yBb (r_box (vals:=[h.v,j.v,m.v]) b e0 rfl) fun i w b=>Ya hnil.v rfl (wK f9 (sR fun _ g0=>yY (yFb FL_28_1 e0) (yY (lb_ j.v O_22 e0 b R0) (yY (yLen SL_22 e0 b (rdI D)) (bE l fun q6 g1 l=>?_)))))
 refine yH (rMk b SL_22 e0 g1) fun c w b=>Ya c.v e0 (wK g0 (sQ fun _ g2=>sR fun _ g3=>Ya (iV 0) rfl (wK g3 (blockQ fun g4 g5=>bE l fun g6 g7 l=>?_))))
 have g8:∀ (I:LI) (f:FV) w,f 1=(pB i)→f 3=c.v→St w0 ros (box i 28 [h.v,j.v,m.v]::row 3 I1 c.v I::rs) w→I=g6→g4 (.exit 0) (fr 91 f) w:=by
  intro I f w J g9 b ho
  subst ho
  refine g5 _ _ _ (g2 _ _ (sR fun _ h0=>yY (lbs_ [h.v,j.v,m.v] ST_28 (eh J) b R0) (bE l fun t h1 l=>yC (yCall FN_75 (a1 e0)) (sparseref18_Total_ok h1 C D f8 b) ?_)))
  rintro _ w ⟨rfl,b⟩
  refine ⟨_,rfl,?_⟩
  refine Ya (iV t) e0 (Ya (iV 0) rfl (wK h0 (sR fun _ h3=>yY (yFb FL_28_0 (eh J)) (yY (lbs_ [h.v] ST_26 e0 b R0) (bE l fun z h5 l=>yC (yCall FN_77 (a1 e0)) (sparseref12_Components_ok h5 C b) ?_)))))
  rintro _ w ⟨k,rfl,b⟩
  refine ⟨_,rfl,?_⟩
  refine Ya k.v e0 (wK h3 (seqQ fun q7 h7 h9=>sR fun _ i0=>Ya (iV 0) rfl (wK i0 (blockQ fun b6 b8=>bE l fun b9 i1 l=>?_))))
  have i2:∀ (K:LI) (f:FV) w,f 3=c.v→St w0 ros (row 3 I1 c.v K::rs) w→.inl K=b9→b6 (.exit 2) (fr 91 f) w:=by
   intro K f w i3 b ho
   subst ho
   refine b8 _ _ _ (h7 _ _ (sR fun _ i4=>Ym c.v (eh i3) (Ya c.v e0 (wK i4 (wp_ret ?_)))))
   cases l
   exact b5 _ _ _ (fin1r Tryz.results45 ⟨rfl,rfl⟩ ⟨_,rfl,b⟩)
  have i5:∀ (L:LI) (f:FV) w,f 2=c.v→St w0 ros (row 3 I1 c.v L::rs) w→.inr L=b9→b6 .ret (fr 91 f) w:=by
   intro L f w i6 b ho
   subst ho
   refine b8 _ _ _ (h9 _ _ _ rfl ?_)
   cases l
   exact b5 _ _ _ (fin1r Tryz.results45 ⟨rfl,i6⟩ ⟨_,rfl,b⟩)
  refine loopQ (fun s a w=>∃ (N:LI) (O n:Int) (f:FV),(N,O,n)=s∧a=fr 91 f∧f 1=(pB i)∧f 3=c.v∧f 5=iV t∧f 6=iV O∧f 7=k.v∧f 8=iV n∧St w0 ros (box i 28 [h.v,j.v,m.v]::row 3 I1 c.v N::row 22 S1 k.v z::rs) w) i1 ⟨_,_,_,_,rfl,rfl,J,g9,rfl,rfl,rfl,rfl,(b.pk 3 [1,1,0] rfl)⟩ ?_
  rintro _ _ w q8 ⟨N,O,n,f,rfl,rfl,E,c0,i7,i8,R,S,b⟩ g c1 q9 i9 c2
  refine seqQ fun r0 j0 j1=>sR fun _ j2=>Ym (iV n) (eh S) (Ym k.v (eh R) (yY (yLen SL_24 e0 b rO2) (yY (ylss e0 e0) (wK j2 ?_))))
  refine cIf e0 g (fun j3 g=>?_) fun j3 g=>?_
  ·refine wp_skip (j0 _ _ (seqQ fun r1 j4 j5=>blockQ fun _ c3=>sQ fun _ j6=>bE g fun r2 c4 g=>bE g fun r3 c5 g=>bE g fun r4 j7 g=>bE g fun T j8 g=>dR [0,1,0,4,0,0,48,112,240,496,1020,2047,4095] [10,11,12] 3 folM ?_))
   replace b:=b.drew
   refine Dn [0,1,2,3,4,5,6,7,8,9] [] [10] (yR rfl (yFb FL_28_0 (eh E)) (yR rfl (lbs_ [h.v] ST_26 e0 b R0) (yR rfl (yFb FL_28_0 (eh E)) (yR rfl (lbs_ [h.v] ST_26 e0 b R0) (yR rfl (m_ k.v (eh R)) (yR rfl (m_ (iV n) (eh S)) (yR rfl (yIa SL_24 e0 e0 b rO2 c4) ?_)))))))
   obtain ⟨r5,j9,b⟩:=rLs b rO2 c4
   refine yR rfl (yCe O_22 e0 j9 rfl) (yR rfl (yIa SL_22 e0 rfl b (rdI F0) c5) (yR rfl (yI O_3 e0 b (rdI F0) c5) (Rn QSn ?_)))
   refine Lc1 rfl ?_
   refine Lk wn (yCall FN_79 (a2 e0 e0)) (sparseref12_Peripheral_ok j7 (mtF C) b) ?_
   rintro _ w ⟨rfl,b⟩
   refine ⟨_,rfl,?_⟩
   refine Dn [] [0,1] [11] (Rn (yS rfl (yFb FL_28_0 (eh E)) (yS rfl (lbs_ [h.v] ST_26 e0 b R0) QSn)) ?_)
   refine Lc1 rfl ?_
   refine Lk wn (yCall FN_78 (a2 e0 e0)) (sparseref12_Levels_ok j8 (mtF C) b) ?_
   rintro _ w ⟨o,rfl,b⟩
   refine ⟨_,rfl,?_⟩
   refine Dn [] [] [12] (Rn QSn ?_)
   refine Lc1 rfl ?_
   refine Ly wn (a_ o.v e0) (Dz [] [] (Rn QSn (j6 _ _ (sR fun _ k0=>Ya (iV 0) rfl (wK k0 (blockQ fun c6 c7=>bE g fun c8 k5 g=>?_))))))
   have k6:∀ (U:LI) (V:Int) (f:FV) w,f 1=(pB i)→f 3=c.v→f 5=iV t→f 6=iV V→f 7=k.v→f 8=iV n→St w0 ros (box i 28 [h.v,j.v,m.v]::row 3 I1 c.v U::row 22 S1 k.v z::rs) w→.inl (U,V)=c8→c6 (.exit 4) (fr 91 f) w:=by
    intro U V f w k7 k8 k9 l0 l1 l2 b ho
    subst ho
    refine c7 _ _ _ (c3 _ _ _ (j4 _ _ (wR (Ym (iV n) (eh l2) (yY (yadd e0 rfl) (Ya (iV (wa .i64 n 1)) e0 (wN ?_)))))))
    cases g
    exact i9 _ _ _ rfl ⟨_,_,_,_,rfl,rfl,k7,k8,k9,l0,l1,rfl,b⟩
   have l3:∀ (W:LI) (f:FV) w,f 2=c.v→St w0 ros (row 3 I1 c.v W::rs) w→.inr W=c8→c6 .ret (fr 91 f) w:=by
    intro W f w l4 b ho
    subst ho
    refine c7 _ _ _ (c3 _ _ _ (j5 _ _ _ rfl ?_))
    cases g
    exact c2 _ _ _ _ rfl rfl (i5 _ _ _ l4 b (c1 _ rfl))
   refine loopQ (fun s a w=>∃ (X:LI) (Z p:Int) (f:FV),(X,Z,p)=s∧a=fr 91 f∧f 1=(pB i)∧f 3=c.v∧f 5=iV t∧f 6=iV Z∧f 7=k.v∧f 8=iV n∧f 9=o.v∧f 10=iV p∧St w0 ros (box i 28 [h.v,j.v,m.v]::row 3 I1 c.v X::row 22 S1 k.v z::row 22 S1 o.v T::rs) w) k5 ⟨_,_,_,_,rfl,rfl,E,c0,i7,i8,R,S,rfl,rfl,((b.pk 4 [1,1,1,0] rfl).facts (allT allI))⟩ ?_
   rintro _ _ w r6 ⟨X,Z,p,f,rfl,rfl,c9,d0,d1,d2,d3,d4,d5,d6,b⟩ q d7 r7 l5 d8
   refine seqQ fun r8 l6 l7=>sR fun _ l8=>Ym (iV p) (eh d6) (Ym o.v (eh d5) (yY (yLen SL_24 e0 b rO3) (yY (ylss e0 e0) (wK l8 ?_))))
   refine cIf e0 q (fun l9 q=>?_) fun l9 q=>?_
   ·refine wp_skip (l6 _ _ (seqQ fun r9 m0 m1=>blockQ fun _ d9=>sR fun _ m2=>Ya (iV 0) rfl (wK m2 (blockQ fun e1 e2=>bE q fun e3 m3 q=>?_))))
    have m4:∀ (a0:LI) (a3:Int) (f:FV) w,f 1=(pB i)→f 3=c.v→f 5=iV t→f 6=iV a3→f 7=k.v→f 8=iV n→f 9=o.v→f 10=iV p→St w0 ros (box i 28 [h.v,j.v,m.v]::row 3 I1 c.v a0::row 22 S1 k.v z::row 22 S1 o.v T::rs) w→.inl (a0,a3)=e3→e1 (.exit 6) (fr 91 f) w:=by
     intro a0 a3 f w m5 m6 m7 m8 m9 n0 n2 n3 b ho
     subst ho
     refine e2 _ _ _ (d9 _ _ _ (m0 _ _ (wR (Ym (iV p) (eh n3) (yY (yadd e0 rfl) (Ya (iV (wa .i64 p 1)) e0 (wN ?_)))))))
     cases q
     exact l5 _ _ _ rfl ⟨_,_,_,_,rfl,rfl,m5,m6,m7,m8,m9,n0,n2,rfl,b⟩
    have n4:∀ (a4:LI) (f:FV) w,f 2=c.v→St w0 ros (row 3 I1 c.v a4::rs) w→.inr a4=e3→e1 .ret (fr 91 f) w:=by
     intro a4 f w n5 b ho
     subst ho
     refine e2 _ _ _ (d9 _ _ _ (m1 _ _ _ rfl ?_))
     cases q
     exact d8 _ _ _ _ rfl rfl (l3 _ _ _ n5 b (d7 _ rfl))
    refine loopQ (fun s a w=>∃ (a5:LI) (y r:Int) (f:FV),(a5,y,r)=s∧a=fr 91 f∧f 1=(pB i)∧f 3=c.v∧f 5=iV t∧f 6=iV y∧f 7=k.v∧f 8=iV n∧f 9=o.v∧f 10=iV p∧f 11=iV r∧St w0 ros (box i 28 [h.v,j.v,m.v]::row 3 I1 c.v a5::row 22 S1 k.v z::row 22 S1 o.v T::rs) w) m3 ⟨_,_,_,_,rfl,rfl,c9,d0,d1,d2,d3,d4,d5,d6,rfl,b⟩ ?_
    rintro _ _ w s0 ⟨a5,y,r,f,rfl,rfl,a6,F,a7,a8,e4,e5,A,B,G,b⟩ d e6 s1 n6 e7
    refine seqQ fun s2 n7 n8=>sR fun _ n9=>Ym (iV r) (eh G) (Ym o.v (eh A) (Ym (iV p) (eh B) (bE d fun s3 e8 d=>yY (yIa SL_24 e0 e0 b rO3 e8) ?_)))
    obtain ⟨s4,o0,b⟩:=rLs b rO3 e8
    refine yY (yCe O_22 e0 o0 rfl) (yY (yLen SL_22 e0 b (rdI F0)) (yY (ylss e0 e0) (wK n9 ?_)))
    refine cIf e0 d (fun o2 d=>?_) fun o2 d=>?_
    ·refine wp_skip (n7 _ _ (seqQ fun s5 o3 o4=>blockQ fun _ e9=>seqQ fun s6 o5 o6=>sR fun _ o7=>Ym (iV y) (eh a8) (yY (ymul rfl e0) (Ym (iV t) (eh a7) (yY (ygeq e0 e0) (wK o7 ?_))))))
     refine cIf e0 d (fun o8 d=>?_) fun o8 d=>?_
     ·refine sR fun _ o9=>Ym c.v (eh F) (Ya c.v e0 (wK o9 (wp_ret (o6 _ _ _ rfl (e9 _ _ _ (o4 _ _ _ rfl ?_))))))
      cases d
      exact e7 _ _ _ _ rfl rfl (n4 _ _ _ rfl ((b.pk 4 [1] rfl).facts (allT allI)) (e6 _ rfl))
     ·refine wp_skip (o5 _ _ (sR fun _ p0=>Ym c.v (eh F) (Ym o.v (eh A) (Ym (iV p) (eh B) (bE d fun s7 f0 d=>yY (yIa SL_24 e0 e0 b rO3 f0) ?_)))))
      obtain ⟨s8,p1,b⟩:=rLs b rO3 f0
      refine yY (yCe O_22 e0 p1 rfl) (Ym (iV r) (eh G) (bE d fun s9 f1 d=>yY (yIa SL_22 e0 e0 b (rdI F0) f1) (yY (yI O_3 e0 b (rdI F0) f1) (bE d fun t0 f2 d=>yY (yIs SL_22 e0 e0 b rO1 f2) (yT (r_sti (cs:=[iV 0]) (b.pk 2 [1,0] rfl) O_3 rfl e0 rfl rfl mkI f2) fun w b=>wK p0 (bE d fun t1 f3 d=>bE d fun t2 f4 d=>bE d fun p2 f5 d=>?_))))))
      refine dR [0,0,2,0,0,24,56,0,248,504,1022,2046,4095,8191] [13] 1 folM ?_
      replace b:=b.drew
      refine Dn [0,1,2,3,4,5,6,7,8,9,10,11,12] [] [13] (yR rfl (m_ (iV y) (eh a8)) (yR rfl (yFb FL_28_1 (eh a6)) (yR rfl (lb_ j.v O_22 e0 b R1) (yR rfl (m_ o.v (eh A)) (yR rfl (m_ (iV p) (eh B)) (yR rfl (yIa SL_24 e0 e0 b rO3 f3) ?_))))))
      obtain ⟨t3,p3,b⟩:=rLs b rO3 f3
      refine yR rfl (yCe O_22 e0 p3 rfl) (yR rfl (m_ (iV r) (eh G)) (yR rfl (yIa SL_22 e0 e0 b (rdI F0) f4) (yR rfl (yI O_3 e0 b (rdI F0) f4) (yR rfl (yIa SL_22 e0 e0 b (rdI (F_3 D)) f5) (yR rfl (yI O_3 e0 b (rdI (F_3 D)) f5) (yR rfl (yadd e0 e0) (Rn QSn ?_)))))))
      refine Lc1 rfl ?_
      refine Ly wn (a_ (iV (wa .i64 y p2)) e0) (Dz [] [] (Rn QSn (e9 _ _ _ (o3 _ _ (wR (Ym (iV r) (eh G) (yY (yadd e0 rfl) (Ya (iV (wa .i64 r 1)) e0 (wN ?_)))))))))
      cases d
      exact n6 _ _ _ rfl ⟨_,_,_,_,rfl,rfl,a6,F,a7,rfl,e4,e5,A,B,rfl,((b.pk 4 [1,0,0,0] rfl).facts (allT (allT (allT allI))))⟩
    ·refine wp_exit (n8 _ _ _ rfl ?_)
     cases d
     exact e7 _ _ _ _ rfl rfl (m4 _ _ _ _ a6 F a7 a8 e4 e5 A B (b.facts (allT allI)) (e6 _ rfl))
   ·refine wp_exit (l7 _ _ _ rfl ?_)
    cases q
    exact d8 _ _ _ _ rfl rfl (k6 _ _ _ _ c9 d0 d1 d2 d3 d4 (b.pk 4 [0,0,0] rfl) (d7 _ rfl))
  ·refine wp_exit (j1 _ _ _ rfl ?_)
   cases g
   exact c2 _ _ _ _ rfl rfl (i2 _ _ _ c0 (b.pk 3 [1] rfl) (c1 _ rfl))
 refine loopQ (fun s a w=>∃ (a9:LI) (u:Int) (f:FV),(a9,u)=s∧a=fr 91 f∧f 1=(pB i)∧f 3=c.v∧f 4=iV u∧St w0 ros (box i 28 [h.v,j.v,m.v]::row 3 I1 c.v a9::rs) w) g7 ⟨_,_,_,rfl,rfl,rfl,rfl,rfl,(b.pk 2 [1,0] rfl)⟩ ?_
 rintro _ _ w t4 ⟨a9,u,f,rfl,rfl,f6,H,b0,b⟩ x p4 t5 p5 p6
 refine seqQ fun t6 p7 p8=>sR fun _ p9=>Ym (iV u) (eh b0) (Ym c.v (eh H) (yY (yLen SL_22 e0 b rO1) (yY (ylss e0 e0) (wK p9 ?_))))
 refine cIf e0 x (fun q0 x=>?_) fun q0 x=>?_
 ·refine wp_skip (p7 _ _ (sQ fun _ q4=>blockQ fun _ q5=>wR (Ym c.v (eh H) (Ym (iV u) (eh b0) (bE x fun t7 f7 x=>yY (yIs SL_22 e0 e0 b rO1 f7) (yT (r_sti (cs:=[iV 1]) (b.pk 2 [1,0] rfl) O_3 rfl e0 rfl rfl mkI f7) fun w b=>wN (q5 _ _ _ (q4 _ _ ?_))))))))
  refine wR (Ym (iV u) (eh b0) (yY (yadd e0 rfl) (Ya (iV (wa .i64 u 1)) e0 (wN ?_))))
  cases x
  exact p5 _ _ _ rfl ⟨_,_,_,rfl,rfl,f6,H,rfl,(b.pk 2 [1,0] rfl)⟩
 ·refine wp_exit (p8 _ _ _ rfl ?_)
  cases x
  exact p6 _ _ _ _ rfl rfl (g8 _ _ _ f6 H b (p4 _ rfl))
theorem sparsekit_TwinInts_ok {t:LI} {g:Hdr} {out:LI} (j:sparsekit_TwinInts t=some out) (k:imm I1 g.v t∈ros) (b:St w0 ros rs w):
  Calls Tryz.prog 47 #[g.v] w (fun e w=>∃ (u:Hdr),e=.returned (u.v)∧St w0 ros (row 3 I1 u.v out::rs) w):=by
 refine enterQ Tryz.func47 rfl Tryz.ntmps47 rfl fun Q z=>sR fun _ A=>Ya hnil.v rfl (wK A (sR fun _ B=>Ya hnil.v rfl (wK B (sQ fun _ C=>sR fun _ D=>?_))))
 refine Ya (iV 0) rfl (wK D (blockQ fun E F=>bE j fun G H j=>?_))
 have I:∀ (m:LI) (h:Hdr) (f:FV) w,f 3=h.v→St w0 ros (row 3 I1 h.v m::rs) w→m=G→E (.exit 0) (fr 19 f) w:=by
  intro m h f w J b ho
  subst ho
  refine F _ _ _ (C _ _ (sR fun _ K=>Ym h.v (eh J) (Ya h.v e0 (wK K (wp_ret ?_)))))
  cases j
  exact z _ _ _ (fin1r Tryz.results47 ⟨rfl,rfl⟩ ⟨_,rfl,b⟩)
 replace b:=b.rowNh 3 I1
 refine loopQ (fun s a w=>∃ (o:LI) (d:Int) (f:FV) (i:Hdr),(o,d)=s∧a=fr 19 f∧f 0=g.v∧f 3=i.v∧f 4=iV d∧St w0 ros (row 3 I1 i.v o::rs) w) H ⟨_,_,_,_,rfl,rfl,rfl,rfl,rfl,b⟩ ?_
 rintro _ _ w a0 ⟨o,d,f,i,rfl,rfl,p,x,q,b⟩ c L a1 N O
 refine seqQ fun a2 R S=>sR fun _ T=>Ym (iV d) (eh q) (Ym g.v (eh p) (yY (yLen SL_22 e0 b (rdI k)) (yY (ylss e0 e0) (wK T ?_))))
 refine cIf e0 c (fun U c=>?_) fun U c=>?_
 ·refine wp_skip (R _ _ (sQ fun _ V=>blockQ fun _ W=>wR (Ym i.v (eh x) (Ym g.v (eh p) (Ym (iV d) (eh q) (bE c fun r y c=>yY (yIa SL_22 e0 e0 b (rdI k) y) (yY (yI O_3 e0 b (rdI k) y) (yH (rLt (n:=1) (l:=[r]) b SL_22 [iV r] (bp1 e0) rfl rfl (mks1 (cs:=[iV r]) rfl mkI mks0)) fun a3 w b=>bE c fun a4 X c=>?_))))))))
  refine yH (rAp (b.pk 2 [1,0] rfl) SL_22 e0 e0 rO1 X) fun Z w b=>Ya Z.v e0 (wN (W _ _ _ (V _ _ (wR (Ym (iV d) (eh q) (yY (yadd e0 rfl) (Ya (iV (wa .i64 d 1)) e0 (wN ?_))))))))
  cases c
  exact N _ _ _ rfl ⟨_,_,_,_,rfl,rfl,p,rfl,rfl,(b.pk 2 [0] rfl)⟩
 ·refine wp_exit (S _ _ _ rfl ?_)
  cases c
  exact O _ _ _ _ rfl rfl (I _ _ _ _ x b (L _ rfl))
theorem sparseref18_weightOf_ok {z:L2} {A:LI} {B:L2} {C:LI} {i:Int} {j g k h:Hdr} {out:Int} (l:sparseref18_weightOf z A B C i=some out) (b6:imm S1 j.v z∈ros) (D:imm I1 g.v A∈ros) (b7:imm S1 k.v B∈ros) (r:imm I1 h.v C∈ros) (b:St w0 ros rs w):
  Calls Tryz.prog 76 #[.agg #[j.v,g.v,k.v],h.v,iV i] w (fun e w=>e=.returned (iV out)∧St w0 ros rs w):=by
 refine enterQ Tryz.func76 rfl Tryz.ntmps76 rfl fun Q H=>sR fun _ I=>yBb (r_box (vals:=[j.v,g.v,k.v]) b e0 rfl) fun p w b=>Ya (iV 0) rfl (wK I (sR fun _ J=>Ya (iV 0) rfl (wK J (sQ fun _ K=>?_))))
 refine sR fun _ L=>Ya (iV 0) rfl (wK L (blockQ fun N O=>bE l fun R S l=>?_))
 have T:∀ (m:Int) (f:FV) w,f 7=iV m→St w0 ros rs w→m=R→N (.exit 0) (fr 29 f) w:=by
  intro m f w U b ho
  subst ho
  refine O _ _ _ (K _ _ (sR fun _ V=>Ym (iV m) (eh U) (Ya (iV m) e0 (wK V (wp_ret ?_)))))
  cases l
  exact H _ _ _ (fin1r Tryz.results76 ⟨rfl,rfl⟩ ⟨rfl,b⟩)
 refine loopQ (fun s a w=>∃ (n d:Int) (f:FV),(n,d)=s∧a=fr 29 f∧f 1=h.v∧f 2=iV i∧f 3=(pB p)∧f 7=iV n∧f 8=iV d∧St w0 ros (box p 28 [j.v,g.v,k.v]::rs) w) S ⟨_,_,_,rfl,rfl,rfl,rfl,rfl,rfl,rfl,b⟩ ?_
 rintro _ _ w W ⟨n,d,f,rfl,rfl,q,t,u,x,o,b⟩ c X b8 Z a0
 refine seqQ fun b9 a1 a2=>sR fun _ a3=>Ym (iV d) (eh o) (Ym h.v (eh q) (yY (yLen SL_22 e0 b (rdI r)) (yY (ylss e0 e0) (wK a3 ?_))))
 refine cIf e0 c (fun a4 c=>?_) fun a4 c=>?_
 ·refine wp_skip (a1 _ _ (sQ fun _ a5=>blockQ fun a6 a7=>sR fun _ a8=>Ym h.v (eh q) (Ym (iV d) (eh o) (bE c fun c0 E c=>yY (yIa SL_22 e0 e0 b (rdI r) E) (yY (yI O_3 e0 b (rdI r) E) (Ym (iV i) (eh t) (yY (yeql e0 e0) (wN ?_))))))))
  refine a8 _ _ ?_
  have F:∀ (y:Int) (f:FV) w,f 1=h.v→f 2=iV i→f 3=(pB p)→f 7=iV y→f 8=iV d→St w0 ros (box p 28 [j.v,g.v,k.v]::rs) w→sparseref18_weightOf_j4 d y=some W→a6 .normal (fr 29 f) w:=by
   intro y f w a9 b0 b1 b2 b3 b l
   refine a7 _ _ _ (a5 _ _ (wR (Ym (iV d) (eh b3) (yY (yadd e0 rfl) (Ya (iV (wa .i64 d 1)) e0 (wN ?_))))))
   cases l
   exact Z _ _ _ rfl ⟨_,_,_,rfl,rfl,a9,b0,b1,b2,rfl,b⟩
  refine cIf e0 c (fun b4 c=>?_) fun b4 c=>?_
  ·exact wR (Ym (iV n) (eh x) (yY (yFb FL_28_1 (eh u)) (yY (lb_ g.v O_22 e0 b R0) (Ym (iV d) (eh o) (bE c fun b5 G c=>yY (yIa SL_22 e0 e0 b (rdI D) G) (yY (yI O_3 e0 b (rdI D) G) (yY (yadd e0 e0) (Ya (iV (wa .i64 n b5)) e0 (wN (F _ _ _ q t u rfl o b c))))))))))
  ·exact wp_skip (F _ _ _ q t u x o b c)
 ·refine wp_exit (a2 _ _ _ rfl ?_)
  cases c
  exact a0 _ _ _ _ rfl rfl (T _ _ _ x (b.pk 1 [] rfl) (X _ rfl))
theorem sparseref18_Refine_ok {b1:L2} {b2:LI} {b3:L2} {b4:LI} {m l j U:Hdr} {out:LI} (p:sparseref18_Refine b1 b2 b3 b4=some out) (K:imm S1 m.v b1∈ros) (E:imm I1 l.v b2∈ros) (x:imm S1 j.v b3∈ros) (f3:imm I1 U.v b4∈ros) (b:St w0 ros rs w):
  Calls Tryz.prog 44 #[.agg #[m.v,l.v,j.v],U.v] w (fun e w=>∃ (b5:Hdr),e=.returned (b5.v)∧St w0 ros (row 3 I1 b5.v out::rs) w):=by
 refine enterQ Tryz.func44 rfl Tryz.ntmps44 rfl fun Q f4=>sR fun _ f5=>yBb (r_box (vals:=[m.v,l.v,j.v]) b e0 rfl) fun k w b=>Ya hnil.v rfl (wK f5 (sR fun _ f6=>Ym U.v e0 (bE p fun p7 f7 p=>yC (yCall FN_47 (a1 e0)) (sparsekit_TwinInts_ok f7 f3 b) ?_)))
 rintro _ w ⟨d,rfl,b⟩
 refine ⟨_,rfl,?_⟩
 refine Ya d.v e0 (wK f6 (sR fun _ f8=>yY (lbs_ [m.v,l.v,j.v] ST_28 e0 b R1) (bE p fun q f9 p=>yC (yCall FN_75 (a1 e0)) (sparseref18_Total_ok f9 K E x b) ?_)))
 rintro _ w ⟨rfl,b⟩
 refine ⟨_,rfl,?_⟩
 refine Ya (iV q) e0 (wK f8 (sQ fun _ g0=>sR fun _ g1=>Ya (iV 0) rfl (wK g1 (blockQ fun g2 g3=>bE p fun g4 g5 p=>?_))))
 have b6:∀ (V:LI) (f:FV) w,f 5=d.v→St w0 ros (row 3 I1 d.v V::rs) w→V=g4→g2 (.exit 0) (fr 106 f) w:=by
  intro V f w g6 b ho
  subst ho
  refine g3 _ _ _ (g0 _ _ (sR fun _ g7=>Ym d.v (eh g6) (Ya d.v e0 (wK g7 (wp_ret ?_)))))
  cases p
  exact f4 _ _ _ (fin1r Tryz.results44 ⟨rfl,rfl⟩ ⟨_,rfl,b⟩)
 refine loopQ (fun s a w=>∃ (W:LI) (o:Int) (f:FV),(W,o)=s∧a=fr 106 f∧f 2=(pB k)∧f 5=d.v∧f 6=iV q∧f 7=iV o∧St w0 ros (box k 28 [m.v,l.v,j.v]::row 3 I1 d.v W::rs) w) g5 ⟨_,_,_,rfl,rfl,rfl,rfl,rfl,rfl,(b.pk 2 [1,0] rfl)⟩ ?_
 rintro _ _ w p8 ⟨W,o,f,rfl,rfl,g8,b7,g9,b8,b⟩ r c0 p9 h0 c1
 refine seqQ fun q0 h1 h3=>sR fun _ h5=>Ym (iV o) (eh b8) (yY (ylss e0 rfl) (wK h5 ?_))
 refine cIf e0 r (fun h7 r=>?_) fun h7 r=>?_
 ·refine wp_skip (h1 _ _ (seqQ fun q5 h9 i0=>blockQ fun _ c2=>sR fun _ i1=>Ya (.bool false) rfl (wK i1 (sQ fun _ i2=>sR fun _ i3=>Ya (iV 0) rfl (wN ?_)))))
  refine i3 _ _ (blockQ fun i4 i5=>bE r fun i6 i7 r=>?_)
  have i8:∀ (X:LI) (L:Bool) (f:FV) w,f 2=(pB k)→f 5=d.v→f 6=iV q→f 7=iV o→f 8=.bool L→St w0 ros (box k 28 [m.v,l.v,j.v]::row 3 I1 d.v X::rs) w→(X,L)=i6→i4 (.exit 2) (fr 106 f) w:=by
   intro X L f w i9 c3 j0 j1 j2 b ho
   subst ho
   refine i5 _ _ _ (i2 _ _ (sR fun _ j3=>Ym (.bool L) (eh j2) (yY (ynot e0) (wK j3 ?_))))
   rcases iteS r with ⟨Z,r⟩ | ⟨Z,r⟩
   ·refine condF e0 (nF Z) (wp_skip (c2 _ _ _ (h9 _ _ (wR (Ym (iV o) (eh j1) (yY (yadd e0 rfl) (Ya (iV (wa .i64 o 1)) e0 (wN ?_))))))))
    cases r
    exact h0 _ _ _ rfl ⟨_,_,_,rfl,rfl,i9,c3,j0,rfl,b⟩
   ·refine condT e0 (nT (bfalse Z)) (wp_exit (c2 _ _ _ (i0 _ _ _ rfl ?_)))
    cases r
    exact c1 _ _ _ _ rfl rfl (b6 _ _ _ c3 (b.pk 2 [1] rfl) (c0 _ rfl))
  refine loopQ (fun s a w=>∃ (z:LI) (A:Bool) (h:Int) (f:FV),(z,A,h)=s∧a=fr 106 f∧f 2=(pB k)∧f 5=d.v∧f 6=iV q∧f 7=iV o∧f 8=.bool A∧f 9=iV h∧St w0 ros (box k 28 [m.v,l.v,j.v]::row 3 I1 d.v z::rs) w) i7 ⟨_,_,_,_,rfl,rfl,g8,b7,g9,b8,rfl,rfl,b⟩ ?_
  rintro _ _ w j4 ⟨z,A,h,f,rfl,rfl,c4,a0,c5,c6,c7,c8,b⟩ i j5 q6 j6 j7
  refine seqQ fun q7 j8 j9=>sR fun _ k0=>Ym (iV h) (eh c8) (Ym d.v (eh a0) (yY (yLen SL_22 e0 b rO1) (yY (ylss e0 e0) (wK k0 ?_))))
  refine cIf e0 i (fun k6 i=>?_) fun k6 i=>?_
  ·refine wp_skip (j8 _ _ (sQ fun k7 k8=>?_))
   have c9:∀ (a2:LI) (a4:Bool) (f:FV) w,f 2=(pB k)→f 5=d.v→f 6=iV q→f 7=iV o→f 8=.bool a4→f 9=iV h→St w0 ros (box k 28 [m.v,l.v,j.v]::row 3 I1 d.v a2::rs) w→sparseref18_Refine_j397 h a2 a4=some j4→k7 .normal (fr 106 f) w:=by
    intro a2 a4 f w k9 l0 l1 l2 l3 l4 b p
    refine k8 _ _ (wR (Ym (iV h) (eh l4) (yY (yadd e0 rfl) (Ya (iV (wa .i64 h 1)) e0 (wN ?_)))))
    cases p
    exact j6 _ _ _ rfl ⟨_,_,_,_,rfl,rfl,k9,l0,l1,l2,l3,rfl,b⟩
   refine blockQ fun _ d0=>sR fun _ l5=>Ya (iV 0) rfl (wK l5 (sQ fun _ l6=>sR fun _ l7=>Ya (iV 0) rfl (wK l7 (blockQ fun l8 l9=>bE i fun m0 m1 i=>?_))))
   have m2:∀ (B:Int) (f:FV) w,f 2=(pB k)→f 5=d.v→f 6=iV q→f 7=iV o→f 8=.bool A→f 9=iV h→f 10=iV B→St w0 ros (box k 28 [m.v,l.v,j.v]::row 3 I1 d.v z::rs) w→B=m0→l8 (.exit 4) (fr 106 f) w:=by
    intro B f w G N O d1 d2 H d3 b ho
    subst ho
    refine l9 _ _ _ (l6 _ _ (seqQ fun q8 m3 m4=>sQ fun _ m5=>bE i fun a5 t i=>?_))
    refine joinN (n:=106) (fun f w=>f 2=(pB k)∧f 5=d.v∧f 6=iV q∧f 7=iV o∧f 8=.bool A∧f 9=iV h∧f 94=.bool a5∧St w0 ros (box k 28 [m.v,l.v,j.v]::row 3 I1 d.v z::rs) w) (fun d4=>?_) ?_
    ·rcases iteS t with ⟨c,t⟩ | ⟨c,t⟩
     ·have m6:=someI t
      refine dR [0,1,3,7,7,7,7,103,231,487,1023,7,2055,7,14343,30727,65535,131071,7,262151,1048575,2097151] [10] 1 folM ?_
      replace b:=b.drew
      refine Dn [0,1,2,3,4,5,6,7,8,9,11,12,13,14,15,18,19] [] [10] (yR rfl (m_ (iV B) (eh d3)) (yR rfl (yleq e0 rfl) (yR rfl (m_ (.bool (decide (B≤0))) e0) (Rx rfl rfl (wX (dT c)) (Rx rfl rfl (wX (dT c)) (Rx rfl rfl (wX (dT c)) (Rx rfl rfl (wX (dT c)) (Rx rfl rfl (wX (dT c)) (Rx rfl rfl (wX (dT c)) (Rx rfl rfl (wX (dT c)) (Rx rfl rfl (wX (dT c)) (Rx rfl rfl (wX (dT c)) (Rx rfl rfl (wX (dT c)) ?_)))))))))))))
      refine Rx rfl rfl (wX (dT c)) (Rx rfl rfl (wX (dT c)) (Rx rfl rfl (wX (dT c)) (Rx rfl rfl (wX (dT c)) (Rn QSn ?_))))
      refine Lc1 rfl ?_
      exact Lx (wX (dT c)) (Dz [16,17,20,21] [11,12,13,14,15,18,19] (Rx rfl rfl (wX (dT c)) (Rx rfl rfl (wX (dT c)) (Rx rfl rfl (wX (dT c)) (yR rfl (pt_ (.bool a5) e0 (dT c) (eqv m6 rfl)) (Rn (Sx_ rfl rfl (wX (dT c)) rfl (Sx_ rfl rfl (wX (dT c)) rfl (Sx_ rfl rfl (wX (dT c)) rfl (Sx_ rfl rfl (wX (dT c)) rfl (Sx_ rfl rfl (wX (dT c)) rfl (Sx_ rfl rfl (wX (dT c)) rfl (Sx_ rfl rfl (wX (dT c)) rfl QSn))))))) (d4 _ _ ⟨G,N,O,d1,d2,H,rfl,b⟩)))))))
     ·refine bE t fun q9 d5 t=>bE t fun r0 m7 t=>bE t fun r1 R t=>?_
      have m8:=someI t
      refine dR [0,1,3,7,7,7,7,103,231,487,1023,7,2055,7,14343,30727,65535,131071,7,262151,1048575,2097151] [10] 1 folM ?_
      replace b:=b.drew
      refine Dn [0,1,2,3,4,5,6,7,8,9,11,12,13,14,15,18,19] [] [10] (yR rfl (m_ (iV B) (eh d3)) (yR rfl (yleq e0 rfl) (yR rfl (m_ (.bool (decide (B≤0))) e0) (Ry rfl rfl (wG (dF c)) (lbs_ [m.v,l.v,j.v] ST_28 (eh G) b R0) (Ry rfl rfl (wG (dF c)) (m_ d.v (eh N)) (Ry rfl rfl (wG (dF c)) (m_ d.v (eh N)) (Ry rfl rfl (wG (dF c)) (m_ (iV h) (eh H)) (Ry rfl rfl (wG (dF c)) (yIa SL_22 e0 e0 b rO1 d5) (Ry rfl rfl (wG (dF c)) (yI O_3 e0 b rO1 d5) (Ry rfl rfl (wG (dF c)) (ysub rfl e0) (Ry rfl rfl (wG (dF c)) (yFb FL_28_1 (eh G)) (Ry rfl rfl (wG (dF c)) (lb_ l.v O_22 e0 b R0) (Ry rfl rfl (wG (dF c)) (m_ (iV h) (eh H)) ?_)))))))))))))
      refine Ry rfl rfl (wG (dF c)) (yIa SL_22 e0 e0 b (rdI E) R) (Ry rfl rfl (wG (dF c)) (yI O_3 e0 b (rdI E) R) (Ry rfl rfl (wG (dF c)) (m_ (iV q) (eh O)) (Ry rfl rfl (wG (dF c)) (ymul rfl e0) (Rn QSn ?_))))
      refine Lc1 rfl ?_
      have d6:=b
      replace b:=(b.pk 2 [1,0] rfl).fz
      have I:=b.guest0
      replace b:=d6
      clear d6
      refine Lk (wG (dF c)) (yCall FN_76 (a3 e0 e0 e0)) (sparseref18_weightOf_ok m7 (mtF K) (mtF E) (mtF x) F0 I) ?_
      clear I
      rintro _ w ⟨rfl,I⟩
      replace b:=b.back I
      clear I
      refine ⟨_,rfl,?_⟩
      exact Dz [16,17,20,21] [11,12,13,14,15,18,19] (Ry rfl rfl (wG (dF c)) (yadd e0 e0) (Ry rfl rfl (wG (dF c)) (ymul rfl e0) (Ry rfl rfl (wG (dF c)) (ygtr e0 e0) (yR rfl (pf_ (.bool a5) e0 (dF c) (eqv m8 e0)) (Rn (Sy rfl rfl (wG (dF c)) (yFb FL_28_1 (eh G)) rfl (Sy rfl rfl (wG (dF c)) (lb_ l.v O_22 e0 b R0) rfl (Sy rfl rfl (wG (dF c)) (m_ (iV h) (eh H)) rfl (Sy rfl rfl (wG (dF c)) (yIa SL_22 e0 e0 b (rdI E) R) rfl (Sy rfl rfl (wG (dF c)) (yI O_3 e0 b (rdI E) R) rfl (Sy rfl rfl (wG (dF c)) (m_ (iV q) (eh O)) rfl (Sy rfl rfl (wG (dF c)) (ymul rfl e0) rfl QSn))))))) (d4 _ _ ⟨G,N,O,d1,d2,H,rfl,b⟩))))))
    rintro f w ⟨d7,S,d8,d9,m9,T,n0,b⟩
    refine m5 _ _ (cB (eh n0) i (fun n1 i=>?_) fun n1 i=>?_)
    ·exact wp_exit (m4 _ _ _ rfl (d0 _ _ _ (c9 _ _ _ _ d7 S d8 d9 m9 T b i)))
    ·refine wp_skip (m3 _ _ (sR fun _ n2=>Ym d.v (eh S) (Ym (iV h) (eh T) (Ym d.v (eh S) (Ym (iV h) (eh T) (bE i fun n3 e1 i=>yY (yIa SL_22 e0 e0 b rO1 e1) (yY (yI O_3 e0 b rO1 e1) (yY (ysub rfl e0) (bE i fun r2 e2 i=>yY (yIs SL_22 e0 e0 b rO1 e2) ?_)))))))))
     exact yT (r_sti (cs:=[iV (ws .i64 1 n3)]) (b.pk 2 [1,0] rfl) O_3 rfl e0 e0 rfl mkI e2) fun w b=>wK n2 (wR (Ya (.bool true) rfl (wN (d0 _ _ _ (c9 _ _ _ _ d7 S d8 d9 rfl T (b.pk 2 [1,0] rfl) i)))))
   refine loopQ (fun s a w=>∃ (C u:Int) (f:FV),(C,u)=s∧a=fr 106 f∧f 2=(pB k)∧f 5=d.v∧f 6=iV q∧f 7=iV o∧f 8=.bool A∧f 9=iV h∧f 10=iV C∧f 11=iV u∧St w0 ros (box k 28 [m.v,l.v,j.v]::row 3 I1 d.v z::rs) w) m1 ⟨_,_,_,rfl,rfl,c4,a0,c5,c6,c7,c8,rfl,rfl,b⟩ ?_
   rintro _ _ w n4 ⟨C,u,f,rfl,rfl,D,J,a6,a7,a8,y,a9,F,b⟩ g n5 r3 n6 n7
   refine seqQ fun r4 n8 n9=>sR fun _ o0=>Ym (iV u) (eh F) (yY (yFb FL_28_2 (eh D)) (yY (lb_ j.v O_24 e0 b R0) (Ym (iV h) (eh y) (bE g fun r5 e3 g=>yY (yIa SL_24 e0 e0 b (rdI x) e3) ?_))))
   obtain ⟨r6,b⟩:=iLs b x e3
   refine yY (yCt O_22 e0 b F1 rfl) (yY (yLen SL_22 e0 b (rdI F0)) (yY (ylss e0 e0) (wK o0 ?_)))
   refine cIf e0 g (fun o1 g=>?_) fun o1 g=>?_
   ·refine wp_skip (n8 _ _ (sQ fun _ o2=>blockQ fun o3 o4=>sQ fun _ o5=>bE g fun r7 e4 g=>bE g fun r8 e5 g=>bE g fun r9 e6 g=>bE g fun s0 e7 g=>dR [0,0,2,6,0,30,62,0,254,510,1023,2047,0,0,12288,28672,65535] [] 0 folM ?_))
    replace b:=b.drew
    refine Dz [0,1,2,3,4,5,6,7,8,9,10,11,12,13,14,15,16] [] (yR rfl (m_ d.v (eh J)) (yR rfl (yFb FL_28_0 (eh D)) (yR rfl (yFb FL_26_0 e0) (yR rfl (lb_ m.v O_24 e0 b R0) (yR rfl (m_ (iV h) (eh y)) (yR rfl (yIa SL_24 e0 e0 b (rdI (F_2 K)) e4) ?_))))))
    obtain ⟨s1,b⟩:=iLs b (F_2 K) e4
    refine yR rfl (yCt O_22 e0 b F1 rfl) (yR rfl (m_ (iV u) (eh F)) (yR rfl (yIa SL_22 e0 e0 b (rdI F0) e5) (yR rfl (yI O_3 e0 b (rdI F0) e5) (yR rfl (yIa SL_22 e0 e0 b rO1 e6) (yR rfl (yI O_3 e0 b rO1 e6) (yR rfl (m_ d.v (eh J)) (yR rfl (m_ (iV h) (eh y)) (yR rfl (yIa SL_22 e0 e0 b rO1 e7) (yR rfl (yI O_3 e0 b rO1 e7) (yR rfl (yeql e0 e0) (Rn QSn (o5 _ _ ?_))))))))))))
    have e8:∀ (b0:Int) (f:FV) w,f 2=(pB k)→f 5=d.v→f 6=iV q→f 7=iV o→f 8=.bool A→f 9=iV h→f 10=iV b0→f 11=iV u→St w0 ros (box k 28 [m.v,l.v,j.v]::row 3 I1 d.v z::rs) w→sparseref18_Refine_j404 u b0=some n4→o3 .normal (fr 106 f) w:=by
     intro b0 f w o6 o7 o8 o9 p0 p1 p2 p3 b p
     refine o4 _ _ _ (o2 _ _ (wR (Ym (iV u) (eh p3) (yY (yadd e0 rfl) (Ya (iV (wa .i64 u 1)) e0 (wN ?_))))))
     cases p
     exact n6 _ _ _ rfl ⟨_,_,_,rfl,rfl,o6,o7,o8,o9,p0,p1,p2,rfl,b⟩
    refine cIf e0 g (fun p4 g=>?_) fun p4 g=>?_
    ·refine wR (Ym (iV C) (eh a9) (yY (yFb FL_28_2 (eh D)) (yY (lb_ j.v O_24 e0 b R0) (Ym (iV h) (eh y) (bE g fun s2 e9 g=>yY (yIa SL_24 e0 e0 b (rdI (F_4 x)) e9) ?_)))))
     obtain ⟨s3,b⟩:=iLs b (F_4 x) e9
     exact yY (yCt O_22 e0 b F1 rfl) (Ym (iV u) (eh F) (bE g fun p5 f0 g=>yY (yIa SL_22 e0 e0 b (rdI F0) f0) (yY (yI O_3 e0 b (rdI F0) f0) (yY (ysub e0 e0) (Ya (iV (ws .i64 C p5)) e0 (wN (e8 _ _ _ D J a6 a7 a8 y rfl F (b.facts (allT (allT (allT (allT (allT (allT allI))))))) g)))))))
    ·refine wR (Ym (iV C) (eh a9) (yY (yFb FL_28_2 (eh D)) (yY (lb_ j.v O_24 e0 b R0) (Ym (iV h) (eh y) (bE g fun s4 f1 g=>yY (yIa SL_24 e0 e0 b (rdI (F_4 x)) f1) ?_)))))
     obtain ⟨s5,b⟩:=iLs b (F_4 x) f1
     exact yY (yCt O_22 e0 b F1 rfl) (Ym (iV u) (eh F) (bE g fun p6 f2 g=>yY (yIa SL_22 e0 e0 b (rdI F0) f2) (yY (yI O_3 e0 b (rdI F0) f2) (yY (yadd e0 e0) (Ya (iV (wa .i64 C p6)) e0 (wN (e8 _ _ _ D J a6 a7 a8 y rfl F (b.facts (allT (allT (allT (allT (allT (allT allI))))))) g)))))))
   ·refine wp_exit (n9 _ _ _ rfl ?_)
    cases g
    exact n7 _ _ _ _ rfl rfl (m2 _ _ _ D J a6 a7 a8 y a9 (b.facts (allT (allT allI))) (n5 _ rfl))
  ·refine wp_exit (j9 _ _ _ rfl ?_)
   cases i
   exact j7 _ _ _ _ rfl rfl (i8 _ _ _ _ c4 a0 c5 c6 c7 b (j5 _ rfl))
 ·refine wp_exit (h3 _ _ _ rfl ?_)
  cases r
  exact c1 _ _ _ _ rfl rfl (b6 _ _ _ b7 (b.pk 2 [1] rfl) (c0 _ rfl))
theorem sparseref18_Coarsen_ok {m0:L2} {r:LI} {m1:L2} {m2:LI} {A y B G:Hdr} {out:L2×LI×L2×LI×Int} (j:sparseref18_Coarsen m0 r m1 m2=some out) (d3:imm S1 A.v m0∈ros) (b3:imm I1 y.v r∈ros) (c0:imm S1 B.v m1∈ros) (K:imm I1 G.v m2∈ros) (b:St w0 ros rs w):
  Calls Tryz.prog 15 #[.agg #[A.v,y.v,B.v],G.v] w (fun e w=>∃ (m3:Hdr) (m4:List Hdr) (m5 m6:Hdr) (m7:List Hdr) (m8:Hdr),e=.returned (.tuple #[.agg #[m3.v,m5.v,m6.v],m8.v,iV out.2.2.2.2])∧St w0 ros (row 22 rH m3.v m4::fam 3 I1 m4 out.1::row 3 I1 m5.v out.2.1::row 22 rH m6.v m7::fam 3 I1 m7 out.2.2.1::row 3 I1 m8.v out.2.2.2.1::rs) w):=by
 refine enterQ Tryz.func15 rfl Tryz.ntmps15 rfl fun Q c1=>sR fun _ w2=>yBb (r_box (vals:=[A.v,y.v,B.v]) b e0 rfl) fun q w b=>yBb (rAl b ZT_28) fun c w b=>Ya hnil.v rfl (Ya (iV 0) rfl (wK w2 (seqQ fun W9 w3 w4=>sR fun _ w5=>?_)))
 refine yY (lbs_ [A.v,y.v,B.v] ST_28 e0 b R1) (bE j fun d4 w6 j=>yC (yCall FN_24 (a1 e0)) (sparseref18_CheckWeighted_ok w6 d3 b3 c0 b) ?_)
 rintro _ w ⟨rfl,b⟩
 refine ⟨_,rfl,?_⟩
 refine Ya (iV d4) e0 (wK w5 (sR fun _ w7=>Ym (iV d4) e0 (yY (yneq e0 rfl) (wK w7 ?_))))
 rcases iteS j with ⟨f9,j⟩ | ⟨f9,j⟩
 ·refine condF e0 (nF (dT f9)) (wp_skip (w3 _ _ (sR fun _ w8=>yY (yFb FL_28_1 e0) (yY (lb_ y.v O_22 e0 b R1) (yY (yLen SL_22 e0 b (rdI b3)) (Ya (iV (r.length:Int)) e0 (wK w8 (seqQ fun X0 w9 x0=>sR fun _ x2=>?_))))))))
  refine Ym G.v e0 (yY (yLen SL_22 e0 b (rdI K)) (Ym (iV (r.length:Int)) e0 (yY (yneq e0 e0) (wK x2 ?_))))
  rcases iteS j with ⟨g0,j⟩ | ⟨g0,j⟩
  ·refine condF e0 (nF (dT g0)) (wp_skip (w9 _ _ (seqQ fun X1 x4 x6=>sR fun _ x8=>Ya (iV 0) rfl (wK x8 (blockQ fun m9 n0=>bE j fun n1 x9 j=>?_)))))
   have y0:∀ (f:FV) w,f 1=G.v→f 2=(pB q)→f 4=(pB c)→f 8=iV (r.length:Int)→St w0 ros (box q 28 [A.v,y.v,B.v]::box c 28 [hnil.v,hnil.v,hnil.v]::rs) w→.inl ()=n1→m9 (.exit 0) (fr 266 f) w:=by
    intro f w y1 y2 y3 n2 b ho
    subst ho
    refine n0 _ _ _ (x4 _ _ (sR fun _ y4=>Ym (iV (r.length:Int)) (eh n2) (bE j fun X2 y5 j=>yH (rMk b SL_22 e0 y5) fun d w b=>Ya d.v e0 (wK y4 (sR fun _ y6=>yY (ybuild (us:=[hnil.v,hnil.v,hnil.v]) [] SO_28 bp0 rfl) ?_)))))
    refine yBb (rAl b ZT_28) fun k w b=>yT (r_stbn (vals':=[hnil.v,hnil.v,hnil.v]) (us:=[hnil.v,hnil.v,hnil.v]) b ST_28 e0 e0 rfl rfl (one_of rfl) rfl) fun w b=>wK y6 (sQ fun _ y7=>sR fun _ y8=>Ya (iV 0) rfl (wK y8 (blockQ fun y9 z0=>bE j fun z1 z3 j=>?_)))
    have z4:∀ (H i:LI) (g:Hdr) (f:FV) w,f 2=(pB q)→f 4=(pB c)→f 8=iV (r.length:Int)→f 10=d.v→f 11=(pB k)→St w0 ros (box q 28 [A.v,y.v,B.v]::box c 28 [hnil.v,hnil.v,hnil.v]::row 3 I1 d.v H::row 3 I1 g.v i::box k 28 [hnil.v,g.v,hnil.v]::rs) w→(H,i)=z1→y9 (.exit 2) (fr 266 f) w:=by
     intro H i g f w z5 z7 z9 A0 n3 b ho
     subst ho
     refine z0 _ _ _ (y7 _ _ (sR fun _ A1=>yY (yFb FL_28_1 (eh n3)) (yY (lb_ g.v O_22 e0 b R4) (yY (yLen SL_22 e0 b rO3) (Ya (iV (i.length:Int)) e0 (wK A1 (sR fun _ A2=>Ym (iV (i.length:Int)) e0 (bE j fun X3 A3 j=>?_))))))))
     obtain ⟨A4,em160,A5⟩:=mkL_rep A3 hnil
     refine yH (rMk b SLH_24 e0 A5) fun m w b=>?_
     replace b:=(b.fReps 3 I1 A4).pk 2 [1,0] rfl
     rw [← em160] at b
     refine Ya m.v e0 (wK A2 (sQ fun _ A6=>sR fun _ A7=>Ya (iV 0) rfl (wK A7 (blockQ fun A8 A9=>bE j fun B0 B1 j=>?_))))
     have B2:∀ (g1:L2) (t:List Hdr) (f:FV) w,f 2=(pB q)→f 4=(pB c)→f 8=iV (r.length:Int)→f 10=d.v→f 11=(pB k)→f 13=iV (i.length:Int)→f 14=m.v→St w0 ros (box q 28 [A.v,y.v,B.v]::box c 28 [hnil.v,hnil.v,hnil.v]::row 3 I1 d.v H::row 3 I1 g.v i::box k 28 [hnil.v,g.v,hnil.v]::row 22 rH m.v t::fam 3 I1 t g1::rs) w→g1=B0→A8 (.exit 4) (fr 266 f) w:=by
      intro g1 t f w B3 B4 B5 B6 B7 B8 B9 b ho
      subst ho
      refine A9 _ _ _ (A6 _ _ (sQ fun _ C0=>sR fun _ C1=>Ya (iV 0) rfl (wK C1 (blockQ fun C2 C3=>bE j fun C4 C5 j=>?_))))
      have C6:∀ (a2:L2) (f:FV) w,f 4=(pB c)→f 10=d.v→f 11=(pB k)→f 13=iV (i.length:Int)→f 14=m.v→St w0 ros (box c 28 [hnil.v,hnil.v,hnil.v]::row 3 I1 d.v H::row 3 I1 g.v i::box k 28 [hnil.v,g.v,hnil.v]::row 22 rH m.v t::fam 3 I1 t a2::rs) w→a2=C4→C2 (.exit 6) (fr 266 f) w:=by
       intro a2 f w C7 C8 C9 D0 D1 b ho
       subst ho
       refine C3 _ _ _ (C0 _ _ (seqQ fun X4 D2 D3=>sR fun _ D4=>Ya (iV 0) rfl (wK D4 (blockQ fun n4 n6=>bE j fun n7 D5 j=>?_))))
       have D6:∀ (g2 g3:L2) (b4:Hdr) (g4:List Hdr) (b5:Hdr) (g5:List Hdr) (f:FV) w,f 4=(pB c)→f 10=d.v→f 11=(pB k)→St w0 ros (box c 28 [hnil.v,hnil.v,hnil.v]::row 3 I1 d.v H::row 22 rH b4.v g4::fam 3 I1 g4 g2::row 3 I1 g.v i::row 22 rH b5.v g5::fam 3 I1 g5 g3::box k 28 [b4.v,g.v,b5.v]::rs) w→.inl (g2,g3)=n7→n4 (.exit 10) (fr 266 f) w:=by
        intro g2 g3 b4 g4 b5 g5 f w o0 D7 D8 b ho
        subst ho
        refine n6 _ _ _ (D2 _ _ (sR fun _ D9=>yY (lbs_ [b4.v,g.v,b5.v] ST_28 (eh D8) b R7) (Ym d.v (eh D7) (yT (r_stbn (vals':=[b4.v,g.v,b5.v]) (us:=[b4.v,g.v,b5.v]) b ST_28 (eh o0) e0 rfl rfl (one_of rfl) rfl) fun w b=>Ya d.v e0 (Ya (iV 0) rfl (wK D9 (wp_ret ?_)))))))
        cases j
        exact c1 _ _ _ (fin3r Tryz.results15 (rcs2 rfl o0 b R0 ST_28 rfl) ⟨rfl,rfl⟩ ⟨rfl,rfl⟩ ⟨_,_,_,_,_,_,rfl,(b.pk 8 [2,2,2,2,2,1] rfl)⟩)
       have o1:∀ (f:FV) w,f 4=(pB c)→f 5=hnil.v→f 6=iV 3→St w0 ros (box c 28 [hnil.v,hnil.v,hnil.v]::rs) w→.inr ()=n7→n4 .ret (fr 266 f) w:=by
        intro f w E0 E1 E2 b ho
        subst ho
        refine n6 _ _ _ (D3 _ _ _ rfl ?_)
        cases j
        replace b:=(((((((b.rowNh 22 rH).fNew 3 I1).pk 2 [1,0] rfl).rowNh 3 I1).rowNh 22 rH).fNew 3 I1).pk 2 [1,0] rfl).rowNh 3 I1
        exact c1 _ _ _ (fin3r Tryz.results15 (rcs2 rfl E0 b R6 ST_28 rfl) ⟨rfl,E1⟩ ⟨rfl,E2⟩ ⟨_,_,_,_,_,_,rfl,(b.pk 7 [4,4,3,1,1,0] rfl)⟩)
       replace b:=(((((b.rowNh 22 rH).fNew 3 I1).pk 2 [1,0] rfl).rowNh 22 rH).fNew 3 I1).pk 2 [1,0] rfl
       refine loopQ (fun s a w=>∃ (a5 a6:L2) (F:Int) (f:FV) (R:Hdr) (T:List Hdr) (L:Hdr) (U:List Hdr),(a5,a6,F)=s∧a=fr 266 f∧f 4=(pB c)∧f 10=d.v∧f 11=(pB k)∧f 13=iV (i.length:Int)∧f 14=m.v∧f 20=iV F∧St w0 ros (box c 28 [hnil.v,hnil.v,hnil.v]::row 3 I1 d.v H::row 22 rH R.v T::fam 3 I1 T a5::row 3 I1 g.v i::row 22 rH L.v U::fam 3 I1 U a6::box k 28 [R.v,g.v,L.v]::row 22 rH m.v t::fam 3 I1 t a2::rs) w) D5 ⟨_,_,_,_,_,_,_,_,rfl,rfl,C7,C8,C9,D0,D1,rfl,(b.pk 10 [4,4,2,2,2,0,0,0,0,0] rfl)⟩ ?_
       rintro _ _ w X5 ⟨a5,a6,F,f,R,T,L,U,rfl,rfl,d5,o2,g6,o3,E3,g7,b⟩ C g8 X6 E4 g9
       refine seqQ fun X7 E5 E6=>sR fun _ E7=>Ym (iV F) (eh g7) (Ym (iV (i.length:Int)) (eh o3) (yY (ylss e0 e0) (wK E7 ?_)))
       refine cIf e0 C (fun E8 C=>?_) fun E8 C=>?_
       ·refine wp_skip (E5 _ _ (seqQ fun X8 E9 o4=>blockQ fun _ h0=>seqQ fun X9 F2 F3=>sR fun _ F4=>yY (yFb FL_28_1 (eh g6)) (yY (lb_ g.v O_22 e0 b R7) (Ym (iV F) (eh g7) (bE C fun Y0 o6 C=>yY (yIa SL_22 e0 e0 b rO4 o6) (yY (yI O_3 e0 b rO4 o6) (yY (ygtr e0 rfl) ?_)))))))
        refine wK F4 ?_
        refine cIf e0 C (fun F5 C=>?_) fun F5 C=>?_
        ·refine sR fun _ F6=>yY (ybuild (us:=[hnil.v,hnil.v,hnil.v]) [] SO_28 bp0 rfl) (yT (r_stbn (vals':=[hnil.v,hnil.v,hnil.v]) (us:=[hnil.v,hnil.v,hnil.v]) b ST_28 (eh d5) e0 rfl rfl (one_of rfl) rfl) fun w b=>Ya hnil.v rfl (Ya (iV 3) rfl (wK F6 (wp_ret (F3 _ _ _ rfl (h0 _ _ _ (o4 _ _ _ rfl ?_)))))))
         cases C
         exact g9 _ _ _ _ rfl rfl (o1 _ _ d5 rfl rfl (b.pk 10 [0] rfl) (g8 _ rfl))
        ·refine wp_skip (F2 _ _ (sR fun _ F7=>Ya hnil.v rfl (Ya hnil.v rfl (wK F7 (seqQ fun Y1 F8 F9=>sR fun _ G0=>Ya (iV 0) rfl (wK G0 ?_))))))
         refine blockQ fun o7 p0=>bE C fun p1 G1 C=>?_
         have G2:∀ (d6 d7:LI) (a7 a8:Hdr) (f:FV) w,f 4=(pB c)→f 10=d.v→f 11=(pB k)→f 13=iV (i.length:Int)→f 14=m.v→f 20=iV F→f 21=a7.v→f 22=a8.v→St w0 ros (box c 28 [hnil.v,hnil.v,hnil.v]::row 3 I1 d.v H::row 22 rH R.v T::fam 3 I1 T a5::row 3 I1 g.v i::row 22 rH L.v U::fam 3 I1 U a6::box k 28 [R.v,g.v,L.v]::row 22 rH m.v t::fam 3 I1 t a2::row 3 I1 a7.v d6::row 3 I1 a8.v d7::rs) w→.inl (d6,d7)=p1→o7 (.exit 12) (fr 266 f) w:=by
          intro d6 d7 a7 a8 f w G3 G4 c2 G5 G6 G7 G8 G9 b ho
          subst ho
          refine p0 _ _ _ (F8 _ _ (sR fun _ H0=>yY (yFb FL_28_0 (eh c2)) (yY (yFb FL_26_0 e0) (yY (lb_ R.v O_24 e0 b R7) (Ym a7.v (eh G8) (yH (rLt (n:=1) (l:=[a7]) b SLH_24 [a7.v] (bp1 e0) rfl rfl (mks1 rfl (mkF rfl) mks0)) fun Y2 w b=>bE C fun Y3 p2 C=>?_))))))
          replace b:=b.pk 4 [3,0,0,0] rfl
          obtain ⟨Y4,ey994,H1⟩:=app_rep p2 (b.famL R4) (show [a7].length=[d6].length from rfl)
          refine yH (rAp b SLH_24 e0 e0 rO1 H1) fun p3 w b=>?_
          replace b:=(b.pk 12 [11,4,0,0,0,0,0,0,0,0,0,0] rfl).fPush
          rw [← ey994,← (app_some p2).1] at b
          refine yY (yFb FL_28_0 (eh c2)) (yY (yFb FL_26_0 e0) (yT (r_stb1 (vals':=[p3.v,g.v,L.v]) (b.pk 9 [8,0,0,0,0,0,0,0,0] rfl) O_24 e0 e0 rfl rfl rfl rfl) fun w b=>wK H0 (wR (yY (yFb FL_28_2 (eh c2)) (yY (lb_ L.v O_24 e0 b R0) (Ym a8.v (eh G9) (yH (rLt (n:=1) (l:=[a8]) b SLH_24 [a8.v] (bp1 e0) rfl rfl (mks1 rfl (mkF rfl) mks0)) fun Y5 w b=>bE C fun Y6 p4 C=>?_)))))))
          replace b:=b.pk 9 [8,0,0,0,0,0,0,0,0] rfl
          obtain ⟨Y7,ey999,H2⟩:=app_rep p4 (b.famL R9) (show [a8].length=[d7].length from rfl)
          refine yH (rAp b SLH_24 e0 e0 rO1 H2) fun H3 w b=>?_
          replace b:=(b.pk 13 [12,9,0,0,0,0,0,0,0,0,0,0,0] rfl).fPush
          rw [← ey999,← (app_some p4).1] at b
          refine yY (yFb FL_28_2 (eh c2)) (yT (r_stb1 (vals':=[p3.v,g.v,H3.v]) (b.pk 4 [3,0,0,0] rfl) O_24 e0 e0 rfl rfl rfl rfl) fun w b=>wN (h0 _ _ _ (E9 _ _ (wR (Ym (iV F) (eh G7) (yY (yadd e0 rfl) (Ya (iV (wa .i64 F 1)) e0 (wN ?_))))))))
          cases C
          exact E4 _ _ _ rfl ⟨_,_,_,_,_,_,_,_,rfl,rfl,G3,G4,c2,G5,G6,rfl,(b.pk 12 [7,7,5,4,5,2,1,0,2,2] rfl)⟩
         have H4:∀ (f:FV) w,f 4=(pB c)→f 5=hnil.v→f 6=iV 3→St w0 ros (box c 28 [hnil.v,hnil.v,hnil.v]::rs) w→.inr ()=p1→o7 .ret (fr 266 f) w:=by
          intro f w H5 H6 H7 b ho
          subst ho
          refine p0 _ _ _ (F9 _ _ _ rfl (h0 _ _ _ (o4 _ _ _ rfl ?_)))
          cases C
          exact g9 _ _ _ _ rfl rfl (o1 _ _ H5 H6 H7 b (g8 _ rfl))
         replace b:=(b.rowNh 3 I1).rowNh 3 I1
         refine loopQ (fun s a w=>∃ (d8 d9:LI) (D:Int) (f:FV) (b6 b7:Hdr),(d8,d9,D)=s∧a=fr 266 f∧f 4=(pB c)∧f 10=d.v∧f 11=(pB k)∧f 13=iV (i.length:Int)∧f 14=m.v∧f 20=iV F∧f 21=b6.v∧f 22=b7.v∧f 23=iV D∧St w0 ros (box c 28 [hnil.v,hnil.v,hnil.v]::row 3 I1 d.v H::row 22 rH R.v T::fam 3 I1 T a5::row 3 I1 g.v i::row 22 rH L.v U::fam 3 I1 U a6::box k 28 [R.v,g.v,L.v]::row 22 rH m.v t::fam 3 I1 t a2::row 3 I1 b6.v d8::row 3 I1 b7.v d9::rs) w) G1 ⟨_,_,_,_,_,_,rfl,rfl,d5,o2,g6,o3,E3,g7,rfl,rfl,rfl,(b.pk 12 [2,2,2,2,2,2,2,2,2,2,1,0] rfl)⟩ ?_
         rintro _ _ w H8 ⟨d8,d9,D,f,b6,b7,rfl,rfl,h1,h3,h5,e1,e2,c3,h7,h9,c4,b⟩ p p5 Y8 H9 p6
         refine seqQ fun Y9 I0 I2=>sR fun _ I3=>Ym (iV D) (eh c4) (Ym (iV (i.length:Int)) (eh e1) (yY (ylss e0 e0) (wK I3 ?_)))
         refine cIf e0 p (fun I4 p=>?_) fun I4 p=>?_
         ·refine wp_skip (I0 _ _ (seqQ fun I5 I6 I7=>?_))
          have p7:∀ (i0 i1:LI) (i2 i3:Hdr) (f:FV) w,f 4=(pB c)→f 10=d.v→f 11=(pB k)→f 13=iV (i.length:Int)→f 14=m.v→f 20=iV F→f 21=i2.v→f 22=i3.v→f 23=iV D→St w0 ros (box c 28 [hnil.v,hnil.v,hnil.v]::row 3 I1 d.v H::row 22 rH R.v T::fam 3 I1 T a5::row 3 I1 g.v i::row 22 rH L.v U::fam 3 I1 U a6::box k 28 [R.v,g.v,L.v]::row 22 rH m.v t::fam 3 I1 t a2::row 3 I1 i2.v i0::row 3 I1 i3.v i1::rs) w→sparseref18_Coarsen_j51 D i0 i1=some H8→I5 .normal (fr 266 f) w:=by
           intro i0 i1 i2 i3 f w I8 I9 J0 J1 J2 J3 J4 J5 J6 b j
           refine I6 _ _ (wR (Ym (iV D) (eh J6) (yY (yadd e0 rfl) (Ya (iV (wa .i64 D 1)) e0 (wN ?_)))))
           cases j
           exact H9 _ _ _ rfl ⟨_,_,_,_,_,_,rfl,rfl,I8,I9,J0,J1,J2,J3,J4,J5,rfl,b⟩
          refine blockQ fun _ i4=>seqQ fun Z0 J7 J8=>sR fun _ J9=>Ym (iV F) (eh c3) (Ym (iV D) (eh c4) (yY (yeql e0 e0) (Ym (.bool (decide (F=D))) e0 (bE p fun K0 V p=>?_))))
          refine joinW 9 (fun f w=>f 4=(pB c)∧f 10=d.v∧f 11=(pB k)∧f 13=iV (i.length:Int)∧f 14=m.v∧f 20=iV F∧f 21=b6.v∧f 22=b7.v∧f 23=iV D∧f 226=.bool K0∧St w0 ros (box c 28 [hnil.v,hnil.v,hnil.v]::row 3 I1 d.v H::row 22 rH R.v T::fam 3 I1 T a5::row 3 I1 g.v i::row 22 rH L.v U::fam 3 I1 U a6::box k 28 [R.v,g.v,L.v]::row 22 rH m.v t::fam 3 I1 t a2::row 3 I1 b6.v d8::row 3 I1 b7.v d9::rs) w) (fun p8=>?_) ?_
          ·rcases iteS V with ⟨z,V⟩ | ⟨z,V⟩
           ·refine gN (dT z) (gN (dT z) (gN (dT z) (gN (dT z) (gN (dT z) (gN (dT z) (gN (dT z) (gN (dT z) (yY (pt_ (.bool true) e0 (dT z) rfl) ?_))))))))
            cases V
            exact p8 _ _ ⟨h1,h3,h5,e1,e2,c3,h7,h9,c4,rfl,b⟩
           ·refine yG (dF z) (m_ m.v (eh e2)) (yG (dF z) (m_ (iV F) (eh c3)) (bE V fun Z1 i5 V=>?_))
            obtain ⟨Z2,e3⟩:=b.famI R9 i5
            refine yG (dF z) (yIa SLH_24 e0 e0 b rO8 e3) (yG (dF z) (yF1 O_22 e0 b rO8 e3 rfl) (yG (dF z) (m_ (iV D) (eh c4)) (bE V fun K1 p9 V=>yG (dF z) (yIa SL_22 e0 e0 b (rdF R9 e3 i5) p9) (yG (dF z) (yI O_3 e0 b (rdF R9 e3 i5) p9) (yG (dF z) (yeql e0 rfl) (yY (pf_ (.bool (decide (K1=0))) e0 (dF z) e0) ?_))))))
            cases V
            exact p8 _ _ ⟨h1,h3,h5,e1,e2,c3,h7,h9,c4,rfl,b⟩
          rintro f w ⟨e4,q0,q5,q6,e5,e6,q7,q8,c5,K2,b⟩
          refine wK J9 (cB (eh K2) p (fun K3 p=>?_) fun K3 p=>?_)
          ·exact wp_exit (J8 _ _ _ rfl (i4 _ _ _ (p7 _ _ _ _ _ _ e4 q0 q5 q6 e5 e6 q7 q8 c5 b p)))
          ·refine wp_skip (J7 _ _ (seqQ fun Z3 K4 K5=>sR fun _ K6=>Ym m.v (eh e5) (Ym (iV F) (eh e6) (bE p fun Z4 i6 p=>?_))))
           obtain ⟨Z5,e7⟩:=b.famI R9 i6
           refine yY (yIa SLH_24 e0 e0 b rO8 e7) (yY (yF1 O_22 e0 b rO8 e7 rfl) (Ym (iV D) (eh c5) (bE p fun Z6 q9 p=>yY (yIa SL_22 e0 e0 b (rdF R9 e7 i6) q9) (yY (yI O_3 e0 b (rdF R9 e7 i6) q9) (yY (ygtr e0 rfl) (wK K6 ?_))))))
           refine cIf e0 p (fun K7 p=>?_) fun K7 p=>?_
           ·refine sR fun _ K8=>yY (ybuild (us:=[hnil.v,hnil.v,hnil.v]) [] SO_28 bp0 rfl) (yT (r_stbn (vals':=[hnil.v,hnil.v,hnil.v]) (us:=[hnil.v,hnil.v,hnil.v]) b ST_28 (eh e4) e0 rfl rfl (one_of rfl) rfl) fun w b=>Ya hnil.v rfl (Ya (iV 3) rfl (wK K8 (wp_ret (K5 _ _ _ rfl (i4 _ _ _ (I7 _ _ _ rfl ?_)))))))
            cases p
            exact p6 _ _ _ _ rfl rfl (H4 _ _ e4 rfl rfl (b.pk 12 [0] rfl) (p5 _ rfl))
           ·refine wp_skip (K4 _ _ (sR fun _ K9=>Ym b6.v (eh q7) (Ym (iV D) (eh c5) (yH (rLt (n:=1) (l:=[D]) b SL_22 [iV D] (bp1 e0) rfl rfl (mks1 (cs:=[iV D]) rfl mkI mks0)) fun Z7 w b=>bE p fun Z8 L0 p=>yH (rAp (b.pk 12 [11,0,0,0,0,0,0,0,0,0,0,0] rfl) SL_22 e0 e0 rO1 L0) fun L1 w b=>Ya L1.v e0 (wK K9 ?_)))))
            refine wR (Ym b7.v (eh q8) (Ym m.v (eh e5) (Ym (iV F) (eh e6) (bE p fun Z9 i7 p=>?_))))
            obtain ⟨aA,e8⟩:=b.famI R11 i7
            exact yY (yIa SLH_24 e0 e0 b rO10 e8) (yY (yF1 O_22 e0 b rO10 e8 rfl) (Ym (iV D) (eh c5) (bE p fun i8 r0 p=>yY (yIa SL_22 e0 e0 b (rdF R11 e8 i7) r0) (yY (yI O_3 e0 b (rdF R11 e8 i7) r0) (yH (rLt (n:=1) (l:=[i8]) b SL_22 [iV i8] (bp1 e0) rfl rfl (mks1 (cs:=[iV i8]) rfl mkI mks0)) fun aB w b=>bE p fun aC L3 p=>yH (rAp (b.pk 14 [13,0,0,0,0,0,0,0,0,0,0,0,0,0] rfl) SL_22 e0 e0 rO1 L3) fun L4 w b=>Ya L4.v e0 (wN (i4 _ _ _ (p7 _ _ _ _ _ _ e4 q0 q5 q6 e5 e6 rfl rfl c5 (b.pk 14 [4,4,4,4,4,4,4,4,4,4,2,0] rfl) p))))))))
         ·refine wp_exit (I2 _ _ _ rfl ?_)
          cases p
          exact p6 _ _ _ _ rfl rfl (G2 _ _ _ _ _ _ h1 h3 h5 e1 e2 c3 h7 h9 b (p5 _ rfl))
       ·refine wp_exit (E6 _ _ _ rfl ?_)
        cases C
        exact g9 _ _ _ _ rfl rfl (D6 _ _ _ _ _ _ _ _ d5 o2 g6 (b.pk 10 [0,0,0,0,0,0,0,0] rfl) (g8 _ rfl))
      refine loopQ (fun s a w=>∃ (i9:L2) (N:Int) (f:FV),(i9,N)=s∧a=fr 266 f∧f 2=(pB q)∧f 4=(pB c)∧f 8=iV (r.length:Int)∧f 10=d.v∧f 11=(pB k)∧f 13=iV (i.length:Int)∧f 14=m.v∧f 16=iV N∧St w0 ros (box q 28 [A.v,y.v,B.v]::box c 28 [hnil.v,hnil.v,hnil.v]::row 3 I1 d.v H::row 3 I1 g.v i::box k 28 [hnil.v,g.v,hnil.v]::row 22 rH m.v t::fam 3 I1 t i9::rs) w) C5 ⟨_,_,_,rfl,rfl,B3,B4,B5,B6,B7,B8,B9,rfl,b⟩ ?_
      rintro _ _ w aD ⟨i9,N,f,rfl,rfl,L5,r1,r2,r3,r4,r5,r6,r7,b⟩ a9 L6 aE L7 L8
      refine seqQ fun aF L9 M0=>sR fun _ M1=>Ym (iV N) (eh r7) (Ym (iV (r.length:Int)) (eh r2) (yY (ylss e0 e0) (wK M1 ?_)))
      refine cIf e0 a9 (fun M2 a9=>?_) fun M2 a9=>?_
      ·refine wp_skip (L9 _ _ (sQ fun _ M3=>blockQ fun _ M4=>sR fun _ M5=>Ya (iV 0) rfl (wK M5 (blockQ fun M6 M7=>bE a9 fun M8 M9 a9=>?_))))
       have N0:∀ (j0:L2) (f:FV) w,f 2=(pB q)→f 4=(pB c)→f 8=iV (r.length:Int)→f 10=d.v→f 11=(pB k)→f 13=iV (i.length:Int)→f 14=m.v→f 16=iV N→St w0 ros (box q 28 [A.v,y.v,B.v]::box c 28 [hnil.v,hnil.v,hnil.v]::row 3 I1 d.v H::row 3 I1 g.v i::box k 28 [hnil.v,g.v,hnil.v]::row 22 rH m.v t::fam 3 I1 t j0::rs) w→j0=M8→M6 (.exit 8) (fr 266 f) w:=by
        intro j0 f w N1 N2 N3 N4 N5 N6 N7 N8 b ho
        subst ho
        refine M7 _ _ _ (M4 _ _ _ (M3 _ _ (wR (Ym (iV N) (eh N8) (yY (yadd e0 rfl) (Ya (iV (wa .i64 N 1)) e0 (wN ?_)))))))
        cases a9
        exact L7 _ _ _ rfl ⟨_,_,_,rfl,rfl,N1,N2,N3,N4,N5,N6,N7,rfl,b⟩
       refine loopQ (fun s a w=>∃ (j1:L2) (W:Int) (f:FV),(j1,W)=s∧a=fr 266 f∧f 2=(pB q)∧f 4=(pB c)∧f 8=iV (r.length:Int)∧f 10=d.v∧f 11=(pB k)∧f 13=iV (i.length:Int)∧f 14=m.v∧f 16=iV N∧f 17=iV W∧St w0 ros (box q 28 [A.v,y.v,B.v]::box c 28 [hnil.v,hnil.v,hnil.v]::row 3 I1 d.v H::row 3 I1 g.v i::box k 28 [hnil.v,g.v,hnil.v]::row 22 rH m.v t::fam 3 I1 t j1::rs) w) M9 ⟨_,_,_,rfl,rfl,L5,r1,r2,r3,r4,r5,r6,r7,rfl,b⟩ ?_
       rintro _ _ w aG ⟨j1,W,f,rfl,rfl,b8,r8,r9,c6,s0,s1,e9,b0,c7,b⟩ o N9 aH O0 O1
       refine seqQ fun aI O2 O3=>sR fun _ O4=>Ym (iV W) (eh c7) (yY (yFb FL_28_2 (eh b8)) (yY (lb_ B.v O_24 e0 b R0) (Ym (iV N) (eh b0) (bE o fun aJ s2 o=>yY (yIa SL_24 e0 e0 b (rdI c0) s2) ?_))))
       obtain ⟨aK,b⟩:=iLs b c0 s2
       refine yY (yCt O_22 e0 b F1 rfl) (yY (yLen SL_22 e0 b (rdI F0)) (yY (ylss e0 e0) (wK O4 ?_)))
       refine cIf e0 o (fun O5 o=>?_) fun O5 o=>?_
       ·refine wp_skip (O2 _ _ (sQ fun _ O6=>blockQ fun _ O7=>sQ fun _ O8=>bE o fun j2 s3 o=>bE o fun aL j3 o=>bE o fun aM f0 o=>bE o fun j4 f1 o=>dR [0,0,3,7,0,0,32,96,0,480,992,0,4064,8160,16368,32752,15,131071] [16,17] 2 folM ?_))
        replace b:=b.drew
        refine Dn [0,1,2,3,4,5,6,7,8,9,10,11,12,13,14,15] [] [16] (yR rfl (m_ d.v (eh c6)) (yR rfl (m_ (iV N) (eh b0)) (yR rfl (yIa SL_22 e0 e0 b rO2 s3) (yR rfl (yI O_3 e0 b rO2 s3) (yR rfl (m_ d.v (eh c6)) (yR rfl (yFb FL_28_0 (eh b8)) (yR rfl (yFb FL_26_0 e0) (yR rfl (lb_ A.v O_24 e0 b R0) (yR rfl (m_ (iV N) (eh b0)) (yR rfl (yIa SL_24 e0 e0 b (rdI (F_2 d3)) j3) ?_))))))))))
        obtain ⟨aN,b⟩:=iLs b (F_2 d3) j3
        refine yR rfl (yCt O_22 e0 b F1 rfl) (yR rfl (m_ (iV W) (eh c7)) (yR rfl (yIa SL_22 e0 e0 b (rdI F0) f0) (yR rfl (yI O_3 e0 b (rdI F0) f0) (yR rfl (yIa SL_22 e0 e0 b rO2 f1) (yR rfl (yI O_3 e0 b rO2 f1) (Rn QSn ?_))))))
        refine Lc1 rfl ?_
        refine Ly wn (a_ (iV j2) e0) (Dn [] [4,5,6,7,8,9,10,11,12,13,14,15] [17] (Rn (yS rfl (m_ d.v (eh c6)) (yS rfl (yFb FL_28_0 (eh b8)) (yS rfl (yFb FL_26_0 e0) (yS rfl (lb_ A.v O_24 e0 b R0) (yS rfl (m_ (iV N) (eh b0)) (yS rfl (yIa SL_24 e0 e0 b (rdI (F_4 d3)) j3) (yS rfl (yCt O_22 e0 b F1 rfl) (yS rfl (m_ (iV W) (eh c7)) (yS rfl (yIa SL_22 e0 e0 b (rdI F0) f0) (yS rfl (yI O_3 e0 b (rdI F0) f0) (yS rfl (yIa SL_22 e0 e0 b rO2 f1) (yS rfl (yI O_3 e0 b rO2 f1) QSn)))))))))))) ?_))
        refine Lc1 rfl ?_
        refine Ly wn (a_ (iV j4) e0) (Dz [] [] (Rn QSn (O8 _ _ (bE o fun aO j5 o=>bE o fun aP j6 o=>bE o fun O9 s4 o=>bE o fun aQ s5 o=>bE o fun P0 s6 o=>bE o fun aR s7 o=>bE o fun aS P1 o=>dR [0,0,3,7,0,0,0,96,224,0,992,2016,0,4096,0,28672,61440,0,258048,520192,1048544,2097151,4194303] [22] 1 folM ?_))))
        replace b:=b.drew
        refine Dn [0,1,2,3,4,5,6,7,8,9,10,11,12,13,14,15,16,17,18,19,20,21] [] [22] (yR rfl (m_ m.v (eh e9)) (yR rfl (m_ (iV j2) e0) ?_))
        obtain ⟨aT,c8⟩:=b.famI R6 j5
        refine yR rfl (yIa SLH_24 e0 e0 b rO5 c8) (yR rfl (yF1 O_22 e0 b rO5 c8 rfl) (yR rfl (m_ (iV j4) e0) (yR rfl (m_ m.v (eh e9)) (yR rfl (m_ (iV j2) e0) ?_))))
        obtain ⟨aU,f2⟩:=b.famI R6 j6
        refine yR rfl (yIa SLH_24 e0 e0 b rO5 f2) (yR rfl (yF1 O_22 e0 b rO5 f2 rfl) (yR rfl (m_ (iV j4) e0) (yR rfl (yIa SL_22 e0 e0 b (rdF R6 f2 j6) s4) (yR rfl (yI O_3 e0 b (rdF R6 f2 j6) s4) (yR rfl (yFb FL_28_2 (eh b8)) (yR rfl (lb_ B.v O_24 e0 b R0) (yR rfl (m_ (iV N) (eh b0)) (yR rfl (yIa SL_24 e0 e0 b (rdI (F_4 c0)) s5) ?_))))))))
        obtain ⟨aV,b⟩:=iLs b (F_4 c0) s5
        refine yR rfl (yCt O_22 e0 b F1 rfl) (yR rfl (m_ (iV W) (eh c7)) (yR rfl (yIa SL_22 e0 e0 b (rdI F0) s6) (yR rfl (yI O_3 e0 b (rdI F0) s6) (yR rfl (yadd e0 e0) (yR rfl (yIs SL_22 e0 e0 b (rdF R6 c8 j5) s7) (Rn QSn ?_))))))
        refine Lc1 rfl ?_
        replace b:=b.pk 7 [6,0,0,0,0,0,0] rfl
        refine LT wn (r_sti (cs:=[iV (wa .i64 O9 P0)]) (b.foc c8 j5) O_3 rfl e0 e0 rfl mkI s7) fun w b=>?_
        replace b:=b.unfoc' c8 P1
        refine Dz [] [] (Rn QSn (O7 _ _ _ (O6 _ _ (wR (Ym (iV W) (eh c7) (yY (yadd e0 rfl) (Ya (iV (wa .i64 W 1)) e0 (wN ?_))))))))
        cases o
        exact O0 _ _ _ rfl ⟨_,_,_,rfl,rfl,b8,r8,r9,c6,s0,s1,e9,b0,rfl,((b.pk 7 [1,1,1,1,1,1,0] rfl).facts (allT (allT (allT (allT (allT (allT allI)))))))⟩
       ·refine wp_exit (O3 _ _ _ rfl ?_)
        cases o
        exact O1 _ _ _ _ rfl rfl (N0 _ _ _ b8 r8 r9 c6 s0 s1 e9 b0 (b.facts (allT (allT allI))) (N9 _ rfl))
      ·refine wp_exit (M0 _ _ _ rfl ?_)
       cases a9
       exact L8 _ _ _ _ rfl rfl (C6 _ _ _ r1 r3 r4 r5 r6 (b.pk 7 [1,1,1,1,1,1] rfl) (L6 _ rfl))
     refine loopQ (fun s a w=>∃ (j7:L2) (b1:Int) (f:FV) (j8:List Hdr),(j7,b1)=s∧a=fr 266 f∧f 2=(pB q)∧f 4=(pB c)∧f 8=iV (r.length:Int)∧f 10=d.v∧f 11=(pB k)∧f 13=iV (i.length:Int)∧f 14=m.v∧f 15=iV b1∧St w0 ros (box q 28 [A.v,y.v,B.v]::box c 28 [hnil.v,hnil.v,hnil.v]::row 3 I1 d.v H::row 3 I1 g.v i::box k 28 [hnil.v,g.v,hnil.v]::row 22 rH m.v j8::fam 3 I1 j8 j7::rs) w) B1 ⟨_,_,_,_,rfl,rfl,z5,z7,z9,A0,n3,rfl,rfl,rfl,(b.pk 7 [2,2,2,2,2,0,0] rfl)⟩ ?_
     rintro _ _ w aW ⟨j7,b1,f,j8,rfl,rfl,s8,s9,t0,t1,t2,f3,j9,k0,b⟩ X P2 aX P3 P4
     refine seqQ fun aY P5 P6=>sR fun _ P7=>Ym (iV b1) (eh k0) (Ym (iV (i.length:Int)) (eh f3) (yY (ylss e0 e0) (wK P7 ?_)))
     refine cIf e0 X (fun P8 X=>?_) fun P8 X=>?_
     ·refine wp_skip (P5 _ _ (sQ fun _ P9=>blockQ fun _ Q0=>wR (Ym m.v (eh j9) (Ym (iV b1) (eh k0) (Ym (iV (i.length:Int)) (eh f3) (bE X fun aZ Q1 X=>yH (rMk b SL_22 e0 Q1) fun t3 w b=>bE X fun bA t4 X=>?_))))))
      obtain ⟨bB,l0⟩:=setI_len (u:=t3) t4 (b.famL (mtR (mtR (mtR (mtR (mtR (mtR (mtR mhR))))))))
      refine yY (yIs SLH_24 e0 e0 b rO6 l0) (yT (r_sti (cs:=[t3.v]) (b.pk 7 [6,0,0,0,0,0,0] rfl) O_22 rfl e0 e0 rfl (mkF rfl) l0) fun w b=>?_)
      replace b:=(b.pk 8 [1,6,0,0,0,0,0,0] rfl).fput l0 t4
      refine wN (Q0 _ _ _ (P9 _ _ (wR (Ym (iV b1) (eh k0) (yY (yadd e0 rfl) (Ya (iV (wa .i64 b1 1)) e0 (wN ?_)))))))
      cases X
      exact P3 _ _ _ rfl ⟨_,_,_,_,rfl,rfl,s8,s9,t0,t1,t2,f3,j9,rfl,(b.pk 7 [2,2,2,2,2,1,0] rfl)⟩
     ·refine wp_exit (P6 _ _ _ rfl ?_)
      cases X
      exact P4 _ _ _ _ rfl rfl (B2 _ _ _ _ s8 s9 t0 t1 t2 f3 j9 b (P2 _ rfl))
    replace b:=b.rowNh 3 I1
    refine loopQ (fun s a w=>∃ (l1 f4:LI) (E:Int) (f:FV) (a3:Hdr),(l1,f4,E)=s∧a=fr 266 f∧f 1=G.v∧f 2=(pB q)∧f 4=(pB c)∧f 8=iV (r.length:Int)∧f 10=d.v∧f 11=(pB k)∧f 12=iV E∧St w0 ros (box q 28 [A.v,y.v,B.v]::box c 28 [hnil.v,hnil.v,hnil.v]::row 3 I1 d.v l1::row 3 I1 a3.v f4::box k 28 [hnil.v,a3.v,hnil.v]::rs) w) z3 ⟨_,_,_,_,_,rfl,rfl,y1,y2,y3,n2,rfl,rfl,rfl,(b.pk 5 [3,3,2,0,0] rfl)⟩ ?_
    rintro _ _ w Q3 ⟨l1,f4,E,f,a3,rfl,rfl,f5,c9,l2,f6,a4,Z,S,b⟩ h Q4 bC Q5 Q7
    refine seqQ fun bD Q9 R2=>sR fun _ R3=>Ym (iV E) (eh S) (Ym (iV (r.length:Int)) (eh f6) (yY (ylss e0 e0) (wK R3 ?_)))
    refine cIf e0 h (fun R8 h=>?_) fun R8 h=>?_
    ·refine wp_skip (Q9 _ _ (sQ fun S0 S3=>?_))
     have t5:∀ (l3 l4:LI) (l5:Hdr) (f:FV) w,f 1=G.v→f 2=(pB q)→f 4=(pB c)→f 8=iV (r.length:Int)→f 10=d.v→f 11=(pB k)→f 12=iV E→St w0 ros (box q 28 [A.v,y.v,B.v]::box c 28 [hnil.v,hnil.v,hnil.v]::row 3 I1 d.v l3::row 3 I1 l5.v l4::box k 28 [hnil.v,l5.v,hnil.v]::rs) w→sparseref18_Coarsen_j54 E l3 l4=some Q3→S0 .normal (fr 266 f) w:=by
      intro l3 l4 l5 f w S4 S5 S6 S7 S8 S9 T0 b j
      refine S3 _ _ (wR (Ym (iV E) (eh T0) (yY (yadd e0 rfl) (Ya (iV (wa .i64 E 1)) e0 (wN ?_)))))
      cases j
      exact Q5 _ _ _ rfl ⟨_,_,_,_,_,rfl,rfl,S4,S5,S6,S7,S8,S9,rfl,b⟩
     refine blockQ fun _ t6=>seqQ fun bF T1 T2=>sR fun _ T3=>Ym G.v (eh f5) (Ym (iV E) (eh S) (bE h fun bG t7 h=>yY (yIa SL_22 e0 e0 b (rdI K) t7) (yY (yI O_3 e0 b (rdI K) t7) (Ym (iV E) (eh S) (yY (ylss e0 e0) (wK T3 ?_))))))
     refine cIf e0 h (fun T4 h=>?_) fun T4 h=>?_
     ·refine sR fun _ T5=>Ym d.v (eh a4) (Ym (iV E) (eh S) (Ym d.v (eh a4) (Ym G.v (eh f5) (Ym (iV E) (eh S) (bE h fun bH t8 h=>yY (yIa SL_22 e0 e0 b (rdI K) t8) (yY (yI O_3 e0 b (rdI K) t8) (bE h fun T6 t9 h=>yY (yIa SL_22 e0 e0 b rO2 t9) (yY (yI O_3 e0 b rO2 t9) (bE h fun bI u0 h=>?_)))))))))
      refine yY (yIs SL_22 e0 e0 b rO2 u0) (yT (r_sti (cs:=[iV T6]) (b.pk 3 [2,0,0] rfl) O_3 rfl e0 e0 rfl mkI u0) fun w b=>wK T5 (sQ fun _ T7=>bE h fun bJ u1 h=>bE h fun bK u2 h=>bE h fun T8 u3 h=>bE h fun T9 u4 h=>bE h fun bL u5 h=>dR [0,1,0,0,12,28,0,64,0,0,768,1792,4032,8128,0,16384,0,114688,245760,524224,1048575,2097151] [21] 1 folM ?_))
      replace b:=b.drew
      refine Dn [0,1,2,3,4,5,6,7,8,9,10,11,12,13,14,15,16,17,18,19,20] [] [21] (yR rfl (yFb FL_28_1 (eh Z)) (yR rfl (lb_ a3.v O_22 e0 b R4) (yR rfl (m_ d.v (eh a4)) (yR rfl (m_ (iV E) (eh S)) (yR rfl (yIa SL_22 e0 e0 b rO0 u1) (yR rfl (yI O_3 e0 b rO0 u1) (yR rfl (yFb FL_28_1 (eh Z)) (yR rfl (lb_ a3.v O_22 e0 b R4) (yR rfl (m_ d.v (eh a4)) (yR rfl (m_ (iV E) (eh S)) (yR rfl (yIa SL_22 e0 e0 b rO0 u2) (yR rfl (yI O_3 e0 b rO0 u2) (yR rfl (yIa SL_22 e0 e0 b rO3 u3) ?_)))))))))))))
      refine yR rfl (yI O_3 e0 b rO3 u3) (yR rfl (yFb FL_28_1 (eh c9)) (yR rfl (lb_ y.v O_22 e0 b R1) (yR rfl (m_ (iV E) (eh S)) (yR rfl (yIa SL_22 e0 e0 b (rdI b3) u4) (yR rfl (yI O_3 e0 b (rdI b3) u4) (yR rfl (yadd e0 e0) (yR rfl (yIs SL_22 e0 e0 b rO3 u5) (Rn QSn ?_))))))))
      refine Lc1 rfl ?_
      replace b:=b.pk 4 [3,0,0,0] rfl
      exact LT wn (r_sti (cs:=[iV (wa .i64 T8 T9)]) b O_3 rfl e0 e0 rfl mkI u5) fun w b=>Dz [] [] (Rn QSn (T7 _ _ (wp_exit (T2 _ _ _ rfl (t6 _ _ _ (t5 _ _ _ _ _ f5 c9 l2 f6 a4 Z S (b.pk 5 [2,2,1,0,0] rfl) h))))))
     ·refine wp_skip (T1 _ _ (sR fun _ U0=>Ym d.v (eh a4) (Ym (iV E) (eh S) (yY (yFb FL_28_1 (eh Z)) (yY (lb_ a3.v O_22 e0 b R4) (yY (yLen SL_22 e0 b rO3) (bE h fun bM u6 h=>yY (yIs SL_22 e0 e0 b rO2 u6) (yT (r_sti (cs:=[iV (f4.length:Int)]) (b.pk 3 [2,0,0] rfl) O_3 rfl e0 e0 rfl mkI u6) fun w b=>wN ?_))))))))
      refine U0 _ _ (bE h fun l6 u7 h=>bE h fun bN U1 h=>dR [0,1,0,4,0,28,60,124,255,511,1023] [7,8,10] 3 folM ?_)
      replace b:=b.drew
      refine Dn [0,1,2,3,4,5,6] [] [7] (yR rfl (yFb FL_28_1 (eh Z)) (yR rfl (lb_ a3.v O_22 e0 b R4) (yR rfl (yFb FL_28_1 (eh c9)) (yR rfl (lb_ y.v O_22 e0 b R1) (yR rfl (m_ (iV E) (eh S)) (yR rfl (yIa SL_22 e0 e0 b (rdI b3) u7) (yR rfl (yI O_3 e0 b (rdI b3) u7) (Rn QSn ?_))))))))
      refine Lc1 rfl ?_
      refine LH wn (rLt (n:=1) (l:=[l6]) b SL_22 [iV l6] (bp1 e0) rfl rfl (mks1 (cs:=[iV l6]) rfl mkI mks0)) fun bO w b=>Dn [] [0,1] [8] (Rn (yS rfl (yFb FL_28_1 (eh Z)) (yS rfl (lb_ a3.v O_22 e0 b R5) QSn)) ?_)
      refine Lc1 rfl ?_
      replace b:=b.pk 5 [4,0,0,0,0] rfl
      refine LH wn (rAp b SL_22 e0 e0 rO1 U1) fun U2 w b=>Dn [9] [] [10] (yR rfl (yFb FL_28_1 (eh Z)) (Rn QSn ?_))
      refine Lc1 rfl ?_
      replace b:=b.pk 6 [5,0,0,0,0,0] rfl
      exact LT wn (r_stb1 (vals':=[hnil.v,U2.v,hnil.v]) b O_22 e0 e0 rfl rfl rfl rfl) fun w b=>Dz [] [] (Rn QSn (t6 _ _ _ (t5 _ _ _ _ _ f5 c9 l2 f6 a4 Z S (b.pk 6 [4,4,3,1,0] rfl) h)))
    ·refine wp_exit (R2 _ _ _ rfl ?_)
     cases h
     exact Q7 _ _ _ _ rfl rfl (z4 _ _ _ _ _ c9 l2 f6 a4 Z b (Q4 _ rfl))
   have U3:∀ (f:FV) w,f 4=(pB c)→f 5=hnil.v→f 6=iV 130→St w0 ros (box c 28 [hnil.v,hnil.v,hnil.v]::rs) w→.inr ()=n1→m9 .ret (fr 266 f) w:=by
    intro f w U4 U5 U6 b ho
    subst ho
    refine n0 _ _ _ (x6 _ _ _ rfl ?_)
    cases j
    replace b:=(((((((b.rowNh 22 rH).fNew 3 I1).pk 2 [1,0] rfl).rowNh 3 I1).rowNh 22 rH).fNew 3 I1).pk 2 [1,0] rfl).rowNh 3 I1
    exact c1 _ _ _ (fin3r Tryz.results15 (rcs2 rfl U4 b R6 ST_28 rfl) ⟨rfl,U5⟩ ⟨rfl,U6⟩ ⟨_,_,_,_,_,_,rfl,(b.pk 7 [4,4,3,1,1,0] rfl)⟩)
   refine loopQ (fun s a w=>∃ (O:Int) (f:FV),O=s∧a=fr 266 f∧f 1=G.v∧f 2=(pB q)∧f 4=(pB c)∧f 8=iV (r.length:Int)∧f 9=iV O∧St w0 ros (box q 28 [A.v,y.v,B.v]::box c 28 [hnil.v,hnil.v,hnil.v]::rs) w) x9 ⟨_,_,rfl,rfl,rfl,rfl,rfl,rfl,rfl,(b.pk 2 [1,0] rfl)⟩ ?_
   rintro _ _ w bP ⟨O,f,rfl,rfl,d0,l7,l8,d1,d2,b⟩ I u8 bQ U7 u9
   refine seqQ fun bR U8 U9=>sR fun _ V0=>Ym (iV O) (eh d2) (Ym (iV (r.length:Int)) (eh d1) (yY (ylss e0 e0) (wK V0 ?_)))
   refine cIf e0 I (fun V1 I=>?_) fun V1 I=>?_
   ·refine wp_skip (U8 _ _ (seqQ fun bS V2 V3=>blockQ fun _ v0=>sR fun _ V4=>Ym G.v (eh d0) (Ym (iV O) (eh d2) (bE I fun V5 v1 I=>yY (yIa SL_22 e0 e0 b (rdI K) v1) (yY (yI O_3 e0 b (rdI K) v1) (yY (ylss e0 rfl) (Ym (.bool (decide (V5 < 0))) e0 (bE I fun v2 b2 I=>?_))))))))
    refine joinW 7 (fun f w=>f 1=G.v∧f 2=(pB q)∧f 4=(pB c)∧f 8=iV (r.length:Int)∧f 9=iV O∧f 55=.bool v2∧St w0 ros (box q 28 [A.v,y.v,B.v]::box c 28 [hnil.v,hnil.v,hnil.v]::rs) w) (fun v3=>?_) ?_
    ·rcases iteS b2 with ⟨J,b2⟩ | ⟨J,b2⟩
     ·refine gN (dT J) (gN (dT J) (gN (dT J) (gN (dT J) (gN (dT J) (gN (dT J) (yY (pt_ (.bool true) e0 (dT J) rfl) ?_))))))
      cases b2
      exact v3 _ _ ⟨d0,l7,l8,d1,d2,rfl,b⟩
     ·refine yG (dF J) (m_ G.v (eh d0)) (yG (dF J) (m_ (iV O) (eh d2)) (bE b2 fun V6 v4 b2=>yG (dF J) (yIa SL_22 e0 e0 b (rdI K) v4) (yG (dF J) (yI O_3 e0 b (rdI K) v4) (yG (dF J) (m_ (iV (r.length:Int)) (eh d1)) (yG (dF J) (ygeq e0 e0) (yY (pf_ (.bool (decide ((r.length:Int)≤V6))) e0 (dF J) e0) ?_))))))
      cases b2
      exact v3 _ _ ⟨d0,l7,l8,d1,d2,rfl,b⟩
    rintro f w ⟨f7,v5,v6,v7,f8,V7,b⟩
    refine Ym (.bool v2) (eh V7) (bE I fun V8 a0 I=>?_)
    refine joinW 10 (fun f w=>f 1=G.v∧f 2=(pB q)∧f 4=(pB c)∧f 8=iV (r.length:Int)∧f 9=iV O∧f 66=.bool V8∧St w0 ros (box q 28 [A.v,y.v,B.v]::box c 28 [hnil.v,hnil.v,hnil.v]::rs) w) (fun v8=>?_) ?_
    ·rcases iteS a0 with ⟨x,a0⟩ | ⟨x,a0⟩
     ·refine gN x (gN x (gN x (gN x (gN x (gN x (gN x (gN x (gN x (yY (pt_ (.bool true) e0 x rfl) ?_)))))))))
      cases a0
      exact v8 _ _ ⟨f7,v5,v6,v7,f8,rfl,b⟩
     ·refine yG (bfalse x) (m_ G.v (eh f7)) (yG (bfalse x) (m_ G.v (eh f7)) (yG (bfalse x) (m_ (iV O) (eh f8)) (bE a0 fun bT v9 a0=>yG (bfalse x) (yIa SL_22 e0 e0 b (rdI K) v9) (yG (bfalse x) (yI O_3 e0 b (rdI K) v9) (bE a0 fun V9 w1 a0=>yG (bfalse x) (yIa SL_22 e0 e0 b (rdI K) w1) (yG (bfalse x) (yI O_3 e0 b (rdI K) w1) (yG (bfalse x) (m_ (iV O) (eh f8)) (yG (bfalse x) (yneq e0 e0) (yY (pf_ (.bool (!(decide (V9=O)))) e0 (bfalse x) e0) ?_)))))))))
      cases a0
      exact v8 _ _ ⟨f7,v5,v6,v7,f8,rfl,b⟩
    rintro f w ⟨W0,W1,l9,W2,W3,W4,b⟩
    refine wK V4 (cB (eh W4) I (fun W5 I=>?_) fun W5 I=>?_)
    ·refine sR fun _ W6=>yY (ybuild (us:=[hnil.v,hnil.v,hnil.v]) [] SO_28 bp0 rfl) (yT (r_stbn (vals':=[hnil.v,hnil.v,hnil.v]) (us:=[hnil.v,hnil.v,hnil.v]) (b.pk 2 [1,0] rfl) ST_28 (eh l9) e0 rfl rfl (one_of rfl) rfl) fun w b=>Ya hnil.v rfl (Ya (iV 130) rfl (wK W6 (wp_ret (v0 _ _ _ (V3 _ _ _ rfl ?_))))))
     cases I
     exact u9 _ _ _ _ rfl rfl (U3 _ _ l9 rfl rfl (b.pk 2 [0] rfl) (u8 _ rfl))
    ·refine wp_skip (v0 _ _ _ (V2 _ _ (wR (Ym (iV O) (eh W3) (yY (yadd e0 rfl) (Ya (iV (wa .i64 O 1)) e0 (wN ?_)))))))
     cases I
     exact U7 _ _ _ rfl ⟨_,_,rfl,rfl,W0,W1,l9,W2,rfl,b⟩
   ·refine wp_exit (U9 _ _ _ rfl ?_)
    cases I
    exact u9 _ _ _ _ rfl rfl (y0 _ _ d0 l7 l8 d1 b (u8 _ rfl))
  ·refine condT e0 (nT (dF g0)) (sR fun _ W7=>yY (ybuild (us:=[hnil.v,hnil.v,hnil.v]) [] SO_28 bp0 rfl) (yT (r_stbn (vals':=[hnil.v,hnil.v,hnil.v]) (us:=[hnil.v,hnil.v,hnil.v]) b ST_28 e0 e0 rfl rfl (one_of rfl) rfl) fun w b=>Ya hnil.v rfl (Ya (iV 2) rfl (wK W7 (wp_ret (x0 _ _ _ rfl ?_))))))
   cases j
   replace b:=(((((((b.rowNh 22 rH).fNew 3 I1).pk 2 [1,0] rfl).rowNh 3 I1).rowNh 22 rH).fNew 3 I1).pk 2 [1,0] rfl).rowNh 3 I1
   exact c1 _ _ _ (fin3r Tryz.results15 (rcs2 rfl rfl b R6 ST_28 rfl) ⟨rfl,rfl⟩ ⟨rfl,rfl⟩ ⟨_,_,_,_,_,_,rfl,(b.pk 8 [4,4,3,1,1,0] rfl)⟩)
 ·refine condT e0 (nT (dF f9)) (sR fun _ W8=>yY (ybuild (us:=[hnil.v,hnil.v,hnil.v]) [] SO_28 bp0 rfl) (Ym (iV d4) e0 (yT (r_stbn (vals':=[hnil.v,hnil.v,hnil.v]) (us:=[hnil.v,hnil.v,hnil.v]) b ST_28 e0 e0 rfl rfl (one_of rfl) rfl) fun w b=>Ya hnil.v rfl (Ya (iV d4) e0 (wK W8 (wp_ret (w4 _ _ _ rfl ?_)))))))
  cases j
  replace b:=(((((((b.rowNh 22 rH).fNew 3 I1).pk 2 [1,0] rfl).rowNh 3 I1).rowNh 22 rH).fNew 3 I1).pk 2 [1,0] rfl).rowNh 3 I1
  exact c1 _ _ _ (fin3r Tryz.results15 (rcs2 rfl rfl b R6 ST_28 rfl) ⟨rfl,rfl⟩ ⟨rfl,rfl⟩ ⟨_,_,_,_,_,_,rfl,(b.pk 8 [4,4,3,1,1,0] rfl)⟩)
theorem sparseref18_Bisect_step {rec:L2→LI→L2→Option (LI×Int)} (X:∀ {w0:World} {ros:List Fact} {rs:List Res} {w:World} {z:L2} {i:LI} {A:L2} {g d h:Hdr} {out:LI×Int} (c:rec z i A=some out) (l:imm S1 g.v z∈ros) (k:imm I1 d.v i∈ros) (m:imm S1 h.v A∈ros) (b:St w0 ros rs w),Calls Tryz.prog 17 #[.agg #[g.v,d.v,h.v]] w (fun e w=>∃ (B:Hdr),e=.returned (.tuple #[B.v,iV out.2])∧St w0 ros (row 3 I1 B.v out.1::rs) w)) {w0:World} {ros:List Fact} {rs:List Res} {w:World} {z:L2} {i:LI} {A:L2} {g d h:Hdr} {out:LI×Int} (c:sparseref18_Bisect_body rec z i A=some out) (l:imm S1 g.v z∈ros) (k:imm I1 d.v i∈ros) (m:imm S1 h.v A∈ros) (b:St w0 ros rs w):
  Calls Tryz.prog 17 #[.agg #[g.v,d.v,h.v]] w (fun e w=>∃ (B:Hdr),e=.returned (.tuple #[B.v,iV out.2])∧St w0 ros (row 3 I1 B.v out.1::rs) w):=by
 refine enterQ Tryz.func17 rfl Tryz.ntmps17 rfl fun Q r=>sR fun _ Z=>yBb (r_box (vals:=[g.v,d.v,h.v]) b e0 rfl) fun E w b=>Ya hnil.v rfl (Ya (iV 0) rfl (wK Z (sR fun _ a0=>yY (lbs_ [g.v,d.v,h.v] ST_28 e0 b R0) (bE c fun t a3 c=>yC (yCall FN_12 (a1 e0)) (sparseref18_Match_ok a3 l k m b) ?_))))
 rintro _ w ⟨F,rfl,b⟩
 refine ⟨_,rfl,?_⟩
 refine Ym (.tuple #[F.v,iV t.2]) e0 (yY (x_ F.v e0) (yY (x_ (iV t.2) e0) (Ya F.v e0 (Ya (iV t.2) e0 (wK a0 (seqQ fun g3 a4 a5=>sR fun _ a6=>Ym (iV t.2) e0 (yY (yneq e0 rfl) (wK a6 ?_))))))))
 rcases iteS c with ⟨H,c⟩ | ⟨H,c⟩
 ·refine condF e0 (nF (dT H)) (wp_skip (a4 _ _ (sR fun _ a7=>yY (yFb FL_28_1 e0) (yY (lb_ d.v O_22 e0 b R1) (yY (yLen SL_22 e0 b (rdI k)) (Ya (iV (i.length:Int)) e0 (wK a7 (seqQ fun g4 a8 a9=>sR fun _ b0=>?_))))))))
  refine Ym (iV (i.length:Int)) e0 (yY (yleq e0 rfl) (wK b0 ?_))
  refine cIf e0 c (fun b1 c=>?_) fun b1 c=>?_
  ·refine sQ fun _ b2=>bE c fun g5 b3 c=>bE c fun g6 b4 c=>dR [0,0,2,7,15,31] [2,3,4,5] 4 folM ?_
   replace b:=b.drew
   refine Dn [0,1] [] [2] (yR rfl (lbs_ [g.v,d.v,h.v] ST_28 e0 b R1) (yR rfl (lbs_ [g.v,d.v,h.v] ST_28 e0 b R1) (Rn QSn ?_)))
   refine Lc1 rfl ?_
   refine Lk wn (yCall FN_45 (a1 e0)) (sparseref18_Grow_ok b3 l k m b) ?_
   rintro _ w ⟨g7,rfl,b⟩
   refine ⟨_,rfl,?_⟩
   refine Dn [] [0] [3] (Rn (yS rfl (lbs_ [g.v,d.v,h.v] ST_28 e0 b R2) QSn) ?_)
   refine Lc1 rfl ?_
   replace b:=b.fz
   refine Lk wn (yCall FN_44 (a2 e0 e0)) (sparseref18_Refine_ok b4 (mtF l) (mtF k) (mtF m) F0 b) ?_
   rintro _ w ⟨b5,rfl,b⟩
   refine ⟨_,rfl,?_⟩
   refine Dn [] [] [4] (Rn QSn ?_)
   refine Lc1 rfl ?_
   refine Ly wn (a_ b5.v e0) (Dn [] [] [5] (Rn QSn ?_))
   refine Lc1 rfl ?_
   refine Ly wn (a_ (iV 0) rfl) (Dz [] [] (Rn QSn (b2 _ _ (wp_ret (a9 _ _ _ rfl ?_)))))
   cases c
   exact r _ _ _ (fin2r Tryz.results17 ⟨rfl,rfl⟩ ⟨rfl,rfl⟩ ⟨_,rfl,((b.pk 3 [0] rfl).facts (allT allI))⟩)
  ·refine wp_skip (a8 _ _ (sR fun _ b6=>yY (lbs_ [g.v,d.v,h.v] ST_28 e0 b R1) (Ym F.v e0 (bE c fun o b8 c=>?_))))
   replace b:=b.fz
   refine yC (yCall FN_15 (a2 e0 e0)) (sparseref18_Coarsen_ok b8 (mtF l) (mtF k) (mtF m) F0 b) ?_
   rintro _ w ⟨C,g8,u,D,g9,x,rfl,b⟩
   refine ⟨_,rfl,?_⟩
   refine Ym (.tuple #[.agg #[C.v,u.v,D.v],x.v,iV o.2.2.2.2]) e0 (yY (x_ (.agg #[C.v,u.v,D.v]) e0) (yY (x_ x.v e0) (yY (x_ (iV o.2.2.2.2) e0) (yBb (rAl b ZT_28) fun h0 w b=>yT (r_stbn (vals':=[C.v,u.v,D.v]) (us:=[C.v,u.v,D.v]) b ST_28 e0 e0 rfl rfl (one_of rfl) rfl) fun w b=>Ya x.v e0 (Ya (iV o.2.2.2.2) e0 (wK b6 (seqQ fun h1 b9 c0=>sQ fun _ c1=>?_)))))))
   refine wR (Ym (iV o.2.2.2.2) e0 (yY (yneq e0 rfl) (wK c1 ?_)))
   rcases iteS c with ⟨I,c⟩ | ⟨I,c⟩
   ·refine condF e0 (nF (dT I)) (wp_skip (b9 _ _ (seqQ fun h3 c2 c3=>sR fun _ c4=>yY (yFb FL_28_1 e0) (yY (lb_ u.v O_22 e0 b R0) (yY (yLen SL_22 e0 b rO3) (Ym (iV (i.length:Int)) e0 (yY (yeql e0 e0) (wK c4 ?_))))))))
    refine cIf e0 c (fun c5 c=>?_) fun c5 c=>?_
    ·refine sQ fun _ c6=>bE c fun h5 c7 c=>bE c fun h7 c8 c=>dR [0,0,2,7,15,31] [2,3,4,5] 4 folM ?_
     replace b:=b.drew
     refine Dn [0,1] [] [2] (yR rfl (lbs_ [g.v,d.v,h.v] ST_28 e0 b R7) (yR rfl (lbs_ [g.v,d.v,h.v] ST_28 e0 b R7) (Rn QSn ?_)))
     refine Lc1 rfl ?_
     refine Lk wn (yCall FN_45 (a1 e0)) (sparseref18_Grow_ok c7 (mtF l) (mtF k) (mtF m) b) ?_
     rintro _ w ⟨h8,rfl,b⟩
     refine ⟨_,rfl,?_⟩
     refine Dn [] [0] [3] (Rn (yS rfl (lbs_ [g.v,d.v,h.v] ST_28 e0 b R8) QSn) ?_)
     refine Lc1 rfl ?_
     replace b:=b.fz
     refine Lk wn (yCall FN_44 (a2 e0 e0)) (sparseref18_Refine_ok c8 (F_2 l) (F_2 k) (F_2 m) F0 b) ?_
     rintro _ w ⟨c9,rfl,b⟩
     refine ⟨_,rfl,?_⟩
     refine Dn [] [] [4] (Rn QSn ?_)
     refine Lc1 rfl ?_
     refine Ly wn (a_ c9.v e0) (Dn [] [] [5] (Rn QSn ?_))
     refine Lc1 rfl ?_
     refine Ly wn (a_ (iV 0) rfl) (Dz [] [] (Rn QSn (c6 _ _ (wp_ret (c3 _ _ _ rfl ?_)))))
     cases c
     exact r _ _ _ (fin2r Tryz.results17 ⟨rfl,rfl⟩ ⟨rfl,rfl⟩ ⟨_,rfl,((b.pk 9 [0] rfl).facts (allT (allT allI)))⟩)
    ·refine wp_skip (c2 _ _ (sR fun _ d0=>yY (lbs_ [C.v,u.v,D.v] ST_28 e0 b R0) (bE c fun p d1 c=>?_)))
     replace b:=(((((b.pk 3 [1,1,0] rfl).ffz).pk 2 [1,0] rfl).fz).pk 3 [1,1,0] rfl).ffz
     refine yC (yCall FN_17 (a1 e0)) (X d1 F2 F1 F0 b) ?_
     rintro _ w ⟨y,rfl,b⟩
     refine ⟨_,rfl,?_⟩
     refine Ym (.tuple #[y.v,iV p.2]) e0 (yY (x_ y.v e0) (yY (x_ (iV p.2) e0) (Ya y.v e0 (Ya (iV p.2) e0 (wK d0 (seqQ fun i0 d2 d3=>sR fun _ d4=>Ym (iV p.2) e0 (yY (yneq e0 rfl) (wK d4 ?_))))))))
     rcases iteS c with ⟨J,c⟩ | ⟨J,c⟩
     ·refine condF e0 (nF (dT J)) (wp_skip (d2 _ _ (sR fun _ d5=>Ym (iV (i.length:Int)) e0 (bE c fun i1 d6 c=>yH (rMk b SL_22 e0 d6) fun q w b=>Ya q.v e0 (wK d5 (sQ fun _ d7=>sQ fun _ d8=>?_))))))
      refine wR (Ya (iV 0) rfl (wK d8 (blockQ fun d9 e1=>bE c fun e2 e3 c=>?_)))
      have e4:∀ (K:LI) (f:FV) w,f 1=(pB E)→f 10=q.v→St w0 ros (box E 28 [g.v,d.v,h.v]::row 3 I1 q.v K::rs) w→K=e2→d9 (.exit 0) (fr 76 f) w:=by
       intro K f w e5 e6 b ho
       subst ho
       refine e1 _ _ _ (d7 _ _ (sR fun _ e7=>yY (lbs_ [g.v,d.v,h.v] ST_28 (eh e5) b R0) (Ym q.v (eh e6) (bE c fun i2 e8 c=>?_))))
       replace b:=(b.pk 2 [1,0] rfl).fz
       refine yC (yCall FN_44 (a2 e0 e0)) (sparseref18_Refine_ok e8 (mtF l) (mtF k) (mtF m) F0 b) ?_
       rintro _ w ⟨e9,rfl,b⟩
       refine ⟨_,rfl,?_⟩
       refine Ya e9.v e0 (Ya (iV 0) rfl (wK e7 (wp_ret ?_)))
       cases c
       exact r _ _ _ (fin2r Tryz.results17 ⟨rfl,rfl⟩ ⟨rfl,rfl⟩ ⟨_,rfl,((b.pk 2 [0] rfl).facts (allT allI))⟩)
      refine loopQ (fun s a w=>∃ (L:LI) (n:Int) (f:FV),(L,n)=s∧a=fr 76 f∧f 1=(pB E)∧f 6=iV (i.length:Int)∧f 8=x.v∧f 9=y.v∧f 10=q.v∧f 11=iV n∧St w0 ros (box E 28 [g.v,d.v,h.v]::row 3 I1 x.v o.2.2.2.1::row 3 I1 y.v p.1::row 3 I1 q.v L::rs) w) e3 ⟨_,_,_,rfl,rfl,rfl,rfl,rfl,rfl,rfl,rfl,((b.pk 5 [4,3,1,0] rfl).facts (allT (allT (allT (allT allI)))))⟩ ?_
      rintro _ _ w i3 ⟨L,n,f,rfl,rfl,O,R,S,T,N,G,b⟩ j f0 i4 f1 f2
      refine seqQ fun i5 f3 f4=>sR fun _ f5=>Ym (iV n) (eh G) (Ym (iV (i.length:Int)) (eh R) (yY (ylss e0 e0) (wK f5 ?_)))
      refine cIf e0 j (fun f6 j=>?_) fun f6 j=>?_
      ·refine wp_skip (f3 _ _ (sQ fun _ f7=>blockQ fun _ f8=>wR (Ym q.v (eh N) (Ym (iV n) (eh G) (Ym y.v (eh T) (Ym x.v (eh S) (Ym (iV n) (eh G) (bE j fun i6 U j=>yY (yIa SL_22 e0 e0 b rO1 U) (yY (yI O_3 e0 b rO1 U) (bE j fun f9 V j=>?_))))))))))
       refine yY (yIa SL_22 e0 e0 b rO2 V) (yY (yI O_3 e0 b rO2 V) (bE j fun i7 W j=>yY (yIs SL_22 e0 e0 b rO3 W) (yT (r_sti (cs:=[iV f9]) (b.pk 4 [3,0,0,0] rfl) O_3 rfl e0 e0 rfl mkI W) fun w b=>wN (f8 _ _ _ (f7 _ _ (wR (Ym (iV n) (eh G) (yY (yadd e0 rfl) (Ya (iV (wa .i64 n 1)) e0 (wN ?_))))))))))
       cases j
       exact f1 _ _ _ rfl ⟨_,_,_,rfl,rfl,O,R,S,T,N,rfl,(b.pk 4 [1,1,1,0] rfl)⟩
      ·refine wp_exit (f4 _ _ _ rfl ?_)
       cases j
       exact f2 _ _ _ _ rfl rfl (e4 _ _ _ O N (b.pk 4 [0,2] rfl) (f0 _ rfl))
     ·refine condT e0 (nT (dF J)) (sR fun _ g0=>Ym (iV p.2) e0 (Ya hnil.v rfl (Ya (iV p.2) e0 (wK g0 (wp_ret (d3 _ _ _ rfl ?_))))))
      cases c
      replace b:=b.rowNh 3 I1
      exact r _ _ _ (fin2r Tryz.results17 ⟨rfl,rfl⟩ ⟨rfl,rfl⟩ ⟨_,rfl,((b.pk 5 [0] rfl).facts (allT (allT (allT (allT allI)))))⟩)
   ·refine condT e0 (nT (dF I)) (sR fun _ g1=>Ym (iV o.2.2.2.2) e0 (Ya hnil.v rfl (Ya (iV o.2.2.2.2) e0 (wK g1 (wp_ret (c0 _ _ _ rfl ?_))))))
    cases c
    replace b:=b.rowNh 3 I1
    exact r _ _ _ (fin2r Tryz.results17 ⟨rfl,rfl⟩ ⟨rfl,rfl⟩ ⟨_,rfl,((b.pk 9 [0] rfl).facts (allT allI))⟩)
 ·refine condT e0 (nT (dF H)) (sR fun _ g2=>Ym (iV t.2) e0 (Ya hnil.v rfl (Ya (iV t.2) e0 (wK g2 (wp_ret (a5 _ _ _ rfl ?_))))))
  cases c
  replace b:=b.rowNh 3 I1
  exact r _ _ _ (fin2r Tryz.results17 ⟨rfl,rfl⟩ ⟨rfl,rfl⟩ ⟨_,rfl,(b.pk 3 [0] rfl)⟩)
theorem sparseref18_Bisect_ok_n (n:Nat):∀ {w0:World} {ros:List Fact} {rs:List Res} {w:World} {b:L2} {c:LI} {d:L2} {f g h:Hdr} {out:LI×Int} (a:sparseref18_Bisect n b c d=some out) (i:imm S1 f.v b∈ros) (j:imm I1 g.v c∈ros) (k:imm S1 h.v d∈ros) (l:St w0 ros rs w),
  Calls Tryz.prog 17 #[.agg #[f.v,g.v,h.v]] w (fun e w=>∃ (m:Hdr),e=.returned (.tuple #[m.v,iV out.2])∧St w0 ros (row 3 I1 m.v out.1::rs) w):=by
 induction n with
 | zero=>intro _ _ _ _ _ _ _ _ _ _ out a; cases a
 | succ n ih=>exact fun a i j k l=>sparseref18_Bisect_step (rec:=sparseref18_Bisect n) ih a i j k l
theorem sparseref18_Bisect_ok {a:L2} {b:LI} {c:L2} {d f g:Hdr} {out:LI×Int} (i:sparseref18_Bisect FUEL a b c=some out) (j:imm S1 d.v a∈ros) (k:imm I1 f.v b∈ros) (l:imm S1 g.v c∈ros) (m:St w0 ros rs w):
  Calls Tryz.prog 17 #[.agg #[d.v,f.v,g.v]] w (fun e w=>∃ (h:Hdr),e=.returned (.tuple #[h.v,iV out.2])∧St w0 ros (row 3 I1 h.v out.1::rs) w):=sparseref18_Bisect_ok_n FUEL i j k l m
theorem sparseref18_border_ok {T:L2} {U:LI} {i:Int} {m o:Hdr} {out:LI} (x:sparseref18_border T U i=some out) (E:imm S1 m.v T∈ros) (y:imm I1 o.v U∈ros) (b:St w0 ros rs w):
  Calls Tryz.prog 58 #[.agg #[m.v],o.v,iV i] w (fun e w=>∃ (V:Hdr),e=.returned (V.v)∧St w0 ros (row 3 I1 V.v out::rs) w):=by
 refine enterQ Tryz.func58 rfl Tryz.ntmps58 rfl fun Q b7=>sR fun _ b8=>yBb (r_box (vals:=[m.v]) b e0 rfl) fun j w b=>Ya hnil.v rfl (wK b8 (sR fun _ b9=>Ya hnil.v rfl (wK b9 (sQ fun _ c0=>?_))))
 refine sR fun _ c1=>Ya (iV 0) rfl (wK c1 (blockQ fun c2 c3=>bE x fun c4 c5 x=>?_))
 have c6:∀ (I:LI) (z:Hdr) (f:FV) w,f 7=z.v→St w0 ros (row 3 I1 z.v I::rs) w→I=c4→c2 (.exit 0) (fr 57 f) w:=by
  intro I z f w c7 b ho
  subst ho
  refine c3 _ _ _ (c0 _ _ (sR fun _ c8=>Ym z.v (eh c7) (Ya z.v e0 (wK c8 (wp_ret ?_)))))
  cases x
  exact b7 _ _ _ (fin1r Tryz.results58 ⟨rfl,rfl⟩ ⟨_,rfl,b⟩)
 replace b:=b.rowNh 3 I1
 refine loopQ (fun s a w=>∃ (t:LI) (d:Int) (f:FV) (k:Hdr),(t,d)=s∧a=fr 57 f∧f 1=o.v∧f 2=iV i∧f 3=(pB j)∧f 7=k.v∧f 8=iV d∧St w0 ros (box j 26 [m.v]::row 3 I1 k.v t::rs) w) c5 ⟨_,_,_,_,rfl,rfl,rfl,rfl,rfl,rfl,rfl,(b.pk 2 [1,0] rfl)⟩ ?_
 rintro _ _ w c9 ⟨t,d,f,k,rfl,rfl,W,d0,d1,X,Z,b⟩ g d2 i3 d3 d4
 refine seqQ fun i4 d5 d6=>sR fun _ d7=>Ym (iV d) (eh Z) (Ym o.v (eh W) (yY (yLen SL_22 e0 b (rdI y)) (yY (ylss e0 e0) (wK d7 ?_))))
 refine cIf e0 g (fun d8 g=>?_) fun d8 g=>?_
 ·refine wp_skip (d5 _ _ (sQ fun _ d9=>blockQ fun e1 e2=>sR fun _ e3=>Ya (.bool false) rfl (wK e3 (sQ fun _ e4=>sR fun _ e5=>Ya (iV 0) rfl (wN ?_)))))
  refine e5 _ _ (blockQ fun e6 e7=>bE g fun e8 e9 g=>?_)
  have f0:∀ (A:Bool) (f:FV) w,f 1=o.v→f 2=iV i→f 3=(pB j)→f 7=k.v→f 8=iV d→f 9=.bool A→St w0 ros (box j 26 [m.v]::row 3 I1 k.v t::rs) w→A=e8→e6 (.exit 2) (fr 57 f) w:=by
   intro A f w J K a0 a1 L f1 b ho
   subst ho
   refine e7 _ _ _ (e4 _ _ (sR fun _ f2=>Ym (.bool A) (eh f1) (Ym (.bool A) e0 (bE g fun f3 u g=>?_))))
   refine joinW 7 (fun f w=>f 1=o.v∧f 2=iV i∧f 3=(pB j)∧f 7=k.v∧f 8=iV d∧f 51=.bool f3∧St w0 ros (box j 26 [m.v]::row 3 I1 k.v t::rs) w) (fun a2=>?_) ?_
   ·rcases iteS u with ⟨h,u⟩ | ⟨h,u⟩
    ·refine yG h (m_ o.v (eh J)) (yG h (m_ (iV d) (eh L)) (bE u fun f4 a3 u=>yG h (yIa SL_22 e0 e0 b (rdI y) a3) (yG h (yI O_3 e0 b (rdI y) a3) (yG h (m_ (iV i) (eh K)) (yG h (yeql e0 e0) (yY (pt_ (.bool (decide (f4=i))) e0 h e0) ?_))))))
     cases u
     exact a2 _ _ ⟨J,K,a0,a1,L,rfl,b⟩
    ·refine gN (bfalse h) (gN (bfalse h) (gN (bfalse h) (gN (bfalse h) (gN (bfalse h) (gN (bfalse h) (yY (pf_ (.bool false) e0 (bfalse h) rfl) ?_))))))
     cases u
     exact a2 _ _ ⟨J,K,a0,a1,L,rfl,b⟩
   rintro f w ⟨a4,a5,a6,a7,N,f5,b⟩
   refine wK f2 ?_
   have a8:∀ (O:LI) (R:Hdr) (f:FV) w,f 1=o.v→f 2=iV i→f 3=(pB j)→f 7=R.v→f 8=iV d→St w0 ros (box j 26 [m.v]::row 3 I1 R.v O::rs) w→sparseref18_border_j15 d O=some c9→e1 .normal (fr 57 f) w:=by
    intro O R f w f6 f7 f8 f9 g0 b x
    refine e2 _ _ _ (d9 _ _ (wR (Ym (iV d) (eh g0) (yY (yadd e0 rfl) (Ya (iV (wa .i64 d 1)) e0 (wN ?_))))))
    cases x
    exact d3 _ _ _ rfl ⟨_,_,_,_,rfl,rfl,f6,f7,f8,f9,rfl,b⟩
   refine cB (eh f5) g (fun g1 g=>?_) fun g1 g=>?_
   ·exact wR (Ym k.v (eh a7) (Ym (iV d) (eh N) (yH (rLt (n:=1) (l:=[d]) b SL_22 [iV d] (bp1 e0) rfl rfl (mks1 (cs:=[iV d]) rfl mkI mks0)) fun i5 w b=>bE g fun i6 g2 g=>yH (rAp (b.pk 3 [2,0,0] rfl) SL_22 e0 e0 rO1 g2) fun g3 w b=>Ya g3.v e0 (wN (a8 _ _ _ _ a4 a5 a6 rfl N (b.pk 3 [2,0] rfl) g)))))
   ·exact wp_skip (a8 _ _ _ _ a4 a5 a6 a7 N b g)
  refine loopQ (fun s a w=>∃ (B:Bool) (r:Int) (f:FV),(B,r)=s∧a=fr 57 f∧f 1=o.v∧f 2=iV i∧f 3=(pB j)∧f 7=k.v∧f 8=iV d∧f 9=.bool B∧f 10=iV r∧St w0 ros (box j 26 [m.v]::row 3 I1 k.v t::rs) w) e9 ⟨_,_,_,rfl,rfl,W,d0,d1,X,Z,rfl,rfl,b⟩ ?_
  rintro _ _ w i7 ⟨B,r,f,rfl,rfl,F,G,C,S,D,a9,H,b⟩ q g4 i8 g5 g6
  refine seqQ fun i9 g7 g8=>sR fun _ g9=>Ym (iV r) (eh H) (yY (yFb FL_26_0 (eh C)) (yY (lb_ m.v O_24 e0 b R0) (Ym (iV d) (eh D) (bE q fun j0 b0 q=>yY (yIa SL_24 e0 e0 b (rdI E) b0) ?_))))
  obtain ⟨j1,b⟩:=iLs b E b0
  refine yY (yCt O_22 e0 b F1 rfl) (yY (yLen SL_22 e0 b (rdI F0)) (yY (ylss e0 e0) (wK g9 ?_)))
  refine cIf e0 q (fun h0 q=>?_) fun h0 q=>?_
  ·refine wp_skip (g7 _ _ (sQ fun _ h1=>blockQ fun _ h3=>wR (Ym (.bool B) (eh a9) (Ym (.bool B) e0 (bE q fun b1 p q=>?_)))))
   refine joinW 14 (fun f w=>f 1=o.v∧f 2=iV i∧f 3=(pB j)∧f 7=k.v∧f 8=iV d∧f 10=iV r∧f 42=.bool b1∧St w0 ros (box j 26 [m.v]::row 3 I1 k.v t::rs) w) (fun b2=>?_) ?_
   ·rcases iteS p with ⟨c,p⟩ | ⟨c,p⟩
    ·refine gN c (gN c (gN c (gN c (gN c (gN c (gN c (gN c (gN c (gN c (gN c (gN c (gN c (yY (pt_ (.bool true) e0 c rfl) ?_)))))))))))))
     cases p
     exact b2 _ _ ⟨F,G,C,S,D,H,rfl,(b.facts (allT (allT allI)))⟩
    ·refine yG (bfalse c) (m_ o.v (eh F)) (yG (bfalse c) (yFb FL_26_0 (eh C)) (yG (bfalse c) (lb_ m.v O_24 e0 b R0) (yG (bfalse c) (m_ (iV d) (eh D)) (bE p fun j2 b3 p=>yG (bfalse c) (yIa SL_24 e0 e0 b (rdI (F_2 E)) b3) ?_))))
     obtain ⟨j3,b⟩:=iLs b (F_2 E) b3
     refine yG (bfalse c) (yCt O_22 e0 b F1 rfl) (yG (bfalse c) (m_ (iV r) (eh H)) (bE p fun j4 b4 p=>yG (bfalse c) (yIa SL_22 e0 e0 b (rdI F0) b4) (yG (bfalse c) (yI O_3 e0 b (rdI F0) b4) (bE p fun h5 b5 p=>yG (bfalse c) (yIa SL_22 e0 e0 b (rdI (F_4 y)) b5) (yG (bfalse c) (yI O_3 e0 b (rdI (F_4 y)) b5) (yG (bfalse c) (m_ (iV i) (eh G)) (yG (bfalse c) (yneq e0 e0) (yY (pf_ (.bool (!(decide (h5=i)))) e0 (bfalse c) e0) ?_))))))))
     cases p
     exact b2 _ _ ⟨F,G,C,S,D,H,rfl,(b.facts (allT (allT (allT (allT allI)))))⟩
   rintro f w ⟨h6,h7,h8,h9,i0,i1,i2,b⟩
   refine Ya (.bool b1) (eh i2) (wN (h3 _ _ _ (h1 _ _ (wR (Ym (iV r) (eh i1) (yY (yadd e0 rfl) (Ya (iV (wa .i64 r 1)) e0 (wN ?_))))))))
   cases q
   exact g5 _ _ _ rfl ⟨_,_,_,rfl,rfl,h6,h7,h8,h9,i0,rfl,rfl,b⟩
  ·refine wp_exit (g8 _ _ _ rfl ?_)
   cases q
   exact g6 _ _ _ _ rfl rfl (f0 _ _ _ F G C S D a9 (b.facts (allT (allT allI))) (g4 _ rfl))
 ·refine wp_exit (d6 _ _ _ rfl ?_)
  cases g
  exact d4 _ _ _ _ rfl rfl (c6 _ _ _ _ X (b.pk 2 [1] rfl) (d2 _ rfl))
theorem sparseref09_Pack_ok {c d:Int} {c0:List (Int×Int×Int)} {m:Hdr} {out:Int×Int×LI×LI×LI} (t:sparseref09_Pack c d c0=some out) (A:imm rTi64i64u64 m.v c0∈ros) (b:St w0 ros rs w):
  Calls Tryz.prog 60 #[iV c,iV d,m.v] w (fun e w=>∃ (c1 c2 c3:Hdr),e=.returned (.agg #[iV out.1,iV out.2.1,c1.v,c2.v,c3.v])∧St w0 ros (row 3 I1 c1.v out.2.2.1::row 3 I1 c2.v out.2.2.2.1::row 82 (rI .u64) c3.v out.2.2.2.2::rs) w):=by
 refine enterQ Tryz.func60 rfl Tryz.ntmps60 rfl fun Q d9=>sR fun _ e1=>yBb (rAl b ZT_91) fun i w b=>wK e1 (sR fun _ e2=>Ym (iV c) e0 (Ym (iV d) e0 (yH (rLt (n:=1) (l:=[0]) b SL_22 [iV 0] (bp1 rfl) rfl rfl (mks1 (cs:=[iV 0]) rfl mkI mks0)) fun y w b=>yY (ybuild (us:=[iV c,iV d,y.v,hnil.v,hnil.v]) [(0,iV c),(1,iV d),(2,y.v)] SO_91 (bp3 e0 e0 e0) rfl) ?_)))
 refine yBb (rAl b ZT_91) fun j w b=>yT (r_stbn (vals':=[iV c,iV d,y.v,hnil.v,hnil.v]) (us:=[iV c,iV d,y.v,hnil.v,hnil.v]) b ST_91 e0 e0 rfl rfl (one_of rfl) rfl) fun w b=>wK e2 (sR fun _ e3=>Ym (iV c) e0 (Ym (iV d) e0 (yY (ymul e0 e0) (bE t fun o0 e4 t=>yH (rMk b SL_22 e0 e4) fun h w b=>?_))))
 refine Ya h.v e0 (wK e3 (sQ fun _ e5=>sR fun _ e6=>Ya (iV 0) rfl (wK e6 (blockQ fun e7 e8=>bE t fun e9 f0 t=>?_))))
 have f1:∀ (B:LI) (f:FV) w,f 0=iV c→f 1=iV d→f 2=m.v→f 6=(pB i)→f 7=(pB j)→f 8=h.v→St w0 ros (box i 91 [iV 0,iV 0,hnil.v,hnil.v,hnil.v]::row 3 I1 y.v [0]::box j 91 [iV c,iV d,y.v,hnil.v,hnil.v]::row 3 I1 h.v B::rs) w→B=e9→e7 (.exit 0) (fr 90 f) w:=by
  intro B f w f2 f3 f4 f5 f6 f7 b ho
  subst ho
  refine e8 _ _ _ (e5 _ _ (sQ fun _ f8=>sR fun _ f9=>Ya (iV 0) rfl (wK f9 (blockQ fun g0 g1=>bE t fun g2 g3 t=>?_))))
  have g4:∀ (X Z a0:LI) (C D E:Hdr) (f:FV) w,f 6=(pB i)→f 7=(pB j)→St w0 ros (box i 91 [iV 0,iV 0,hnil.v,hnil.v,hnil.v]::row 3 I1 C.v X::row 3 I1 D.v Z::row 82 (rI .u64) E.v a0::box j 91 [iV c,iV d,C.v,D.v,E.v]::rs) w→(X,Z,a0)=g2→g0 (.exit 2) (fr 90 f) w:=by
   intro X Z a0 C D E f w c4 g5 b ho
   subst ho
   refine g1 _ _ _ (f8 _ _ (sR fun _ g6=>yY (lbs_ [iV c,iV d,C.v,D.v,E.v] ST_91 (eh g5) b R4) (yT (r_stbn (vals':=[iV c,iV d,C.v,D.v,E.v]) (us:=[iV c,iV d,C.v,D.v,E.v]) b ST_91 (eh c4) e0 rfl rfl (one_of rfl) rfl) fun w b=>wK g6 (wp_ret ?_))))
   cases t
   exact d9 _ _ _ (fin1r Tryz.results60 (rcs2 rfl c4 b R0 ST_91 rfl) ⟨_,_,_,rfl,(b.pk 5 [1,1,1] rfl)⟩)
  replace b:=(b.rowNh 3 I1).rowNh 82 (rI .u64)
  refine loopQ (fun s a w=>∃ (F a1 a2:LI) (q:Int) (f:FV) (o a3 a4:Hdr),(F,a1,a2,q)=s∧a=fr 90 f∧f 0=iV c∧f 1=iV d∧f 2=m.v∧f 6=(pB i)∧f 7=(pB j)∧f 8=h.v∧f 10=iV q∧St w0 ros (box i 91 [iV 0,iV 0,hnil.v,hnil.v,hnil.v]::row 3 I1 o.v F::row 3 I1 a3.v a1::row 82 (rI .u64) a4.v a2::box j 91 [iV c,iV d,o.v,a3.v,a4.v]::row 3 I1 h.v B::rs) w) g3 ⟨_,_,_,_,_,_,_,_,rfl,rfl,f2,f3,f4,f5,f6,f7,rfl,(b.pk 6 [2,2,1,0,0,0] rfl)⟩ ?_
  rintro _ _ w o2 ⟨F,a1,a2,q,f,o,a3,a4,rfl,rfl,g7,c5,g8,c6,c7,g9,c8,b⟩ x h0 o3 h1 h2
  refine seqQ fun o4 h3 h5=>sR fun _ h7=>Ym (iV q) (eh c8) (Ym (iV d) (eh c5) (yY (ylss e0 e0) (wK h7 ?_)))
  refine cIf e0 x (fun h9 x=>?_) fun h9 x=>?_
  ·refine wp_skip (h3 _ _ (sQ fun _ i0=>blockQ fun _ i1=>sQ fun _ i2=>sR fun _ i3=>Ya (iV 0) rfl (wK i3 (blockQ fun i4 i5=>bE x fun i6 i7 x=>?_))))
   have i8:∀ (G a5:LI) (I O:Hdr) (f:FV) w,f 0=iV c→f 1=iV d→f 2=m.v→f 6=(pB i)→f 7=(pB j)→f 8=h.v→f 10=iV q→St w0 ros (box i 91 [iV 0,iV 0,hnil.v,hnil.v,hnil.v]::row 3 I1 o.v F::row 3 I1 I.v G::row 82 (rI .u64) O.v a5::box j 91 [iV c,iV d,o.v,I.v,O.v]::row 3 I1 h.v B::rs) w→(G,a5)=i6→i4 (.exit 4) (fr 90 f) w:=by
    intro G a5 I O f w i9 j0 j1 j2 R j3 j4 b ho
    subst ho
    refine i5 _ _ _ (i2 _ _ (wR (yY (yFb FL_91_2 (eh R)) (yY (lb_ o.v O_22 e0 b R4) (yY (yFb FL_91_3 (eh R)) (yY (lb_ I.v O_22 e0 b R4) (yY (yLen SL_22 e0 b rO2) (yH (rLt (n:=1) (l:=[(G.length:Int)]) b SL_22 [iV (G.length:Int)] (bp1 e0) rfl rfl (mks1 (cs:=[iV (G.length:Int)]) rfl mkI mks0)) fun o5 w b=>bE x fun o6 j5 x=>yH (rAp (b.pk 3 [2,0,0] rfl) SL_22 e0 e0 rO1 j5) fun j6 w b=>yY (yFb FL_91_2 (eh R)) ?_))))))))
    refine yT (r_stb1 (vals':=[iV c,iV d,j6.v,I.v,O.v]) (b.pk 6 [5,0,0,0,0,0] rfl) O_22 e0 e0 rfl rfl rfl rfl) fun w b=>wN (i1 _ _ _ (i0 _ _ (wR (Ym (iV q) (eh j4) (yY (yadd e0 rfl) (Ya (iV (wa .i64 q 1)) e0 (wN ?_)))))))
    cases x
    exact h1 _ _ _ rfl ⟨_,_,_,_,_,_,_,_,rfl,rfl,i9,j0,j1,j2,R,j3,rfl,(b.pk 7 [3,1,2,2,0,1] rfl)⟩
   refine loopQ (fun s a w=>∃ (a6 a7:LI) (k:Int) (f:FV) (S H:Hdr),(a6,a7,k)=s∧a=fr 90 f∧f 0=iV c∧f 1=iV d∧f 2=m.v∧f 6=(pB i)∧f 7=(pB j)∧f 8=h.v∧f 10=iV q∧f 11=iV k∧St w0 ros (box i 91 [iV 0,iV 0,hnil.v,hnil.v,hnil.v]::row 3 I1 o.v F::row 3 I1 S.v a6::row 82 (rI .u64) H.v a7::box j 91 [iV c,iV d,o.v,S.v,H.v]::row 3 I1 h.v B::rs) w) i7 ⟨_,_,_,_,_,_,rfl,rfl,g7,c5,g8,c6,c7,g9,c8,rfl,b⟩ ?_
   rintro _ _ w j7 ⟨a6,a7,k,f,S,H,rfl,rfl,J,a8,T,a9,z,U,V,K,b⟩ g j8 o7 j9 k0
   refine seqQ fun o8 k6 k7=>sR fun _ k8=>Ym (iV k) (eh K) (Ym (iV c) (eh J) (yY (ylss e0 e0) (wK k8 ?_)))
   refine cIf e0 g (fun k9 g=>?_) fun k9 g=>?_
   ·refine wp_skip (k6 _ _ (sQ fun _ l0=>blockQ fun l1 l2=>sR fun _ l3=>Ym h.v (eh U) (Ym (iV q) (eh V) (Ym (iV c) (eh J) (yY (ymul e0 e0) (Ym (iV k) (eh K) (yY (yadd e0 e0) (bE g fun b0 c9 g=>yY (yIa SL_22 e0 e0 b rO5 c9) ?_))))))))
    refine yY (yI O_3 e0 b rO5 c9) (Ya (iV b0) e0 (wK l3 (sR fun _ l4=>Ym (iV b0) e0 (yY (ygtr e0 rfl) (wK l4 ?_)))))
    have d0:∀ (b1 b2:LI) (b3 b4:Hdr) (f:FV) w,f 0=iV c→f 1=iV d→f 2=m.v→f 6=(pB i)→f 7=(pB j)→f 8=h.v→f 10=iV q→f 11=iV k→St w0 ros (box i 91 [iV 0,iV 0,hnil.v,hnil.v,hnil.v]::row 3 I1 o.v F::row 3 I1 b3.v b1::row 82 (rI .u64) b4.v b2::box j 91 [iV c,iV d,o.v,b3.v,b4.v]::row 3 I1 h.v B::rs) w→sparseref09_Pack_j14 k b1 b2=some j7→l1 .normal (fr 90 f) w:=by
     intro b1 b2 b3 b4 f w l5 l6 l7 l8 l9 m0 m1 m2 b t
     refine l2 _ _ _ (l0 _ _ (wR (Ym (iV k) (eh m2) (yY (yadd e0 rfl) (Ya (iV (wa .i64 k 1)) e0 (wN ?_))))))
     cases t
     exact j9 _ _ _ rfl ⟨_,_,_,_,_,_,rfl,rfl,l5,l6,l7,l8,l9,m0,m1,rfl,b⟩
    refine cIf e0 g (fun m3 g=>?_) fun m3 g=>?_
    ·refine sR fun _ m4=>yY (yFb FL_91_3 (eh z)) (yY (lb_ S.v O_22 e0 b R4) (Ym (iV k) (eh K) (yH (rLt (n:=1) (l:=[k]) b SL_22 [iV k] (bp1 e0) rfl rfl (mks1 (cs:=[iV k]) rfl mkI mks0)) fun o9 w b=>bE g fun p0 m5 g=>yH (rAp (b.pk 4 [3,0,0,0] rfl) SL_22 e0 e0 rO1 m5) fun d1 w b=>yY (yFb FL_91_3 (eh z)) (yT (r_stb1 (vals':=[iV c,iV d,o.v,d1.v,H.v]) (b.pk 6 [5,0,0,0,0,0] rfl) O_22 e0 e0 rfl rfl rfl rfl) fun w b=>wN ?_))))
     refine m4 _ _ (bE g fun W d2 g=>bE g fun p1 m6 g=>dR [0,1,0,0,8,28,60,124,252,511,1023,2047] [8,9,11] 3 folM ?_)
     replace b:=b.drew
     refine Dn [0,1,2,3,4,5,6,7] [] [8] (yR rfl (yFb FL_91_4 (eh z)) (yR rfl (lb_ H.v O_89 e0 b R0) (yR rfl (m_ m.v (eh T)) (yR rfl (m_ (iV b0) e0) (yR rfl (ysub e0 rfl) (yR rfl (yIa SL_80 e0 e0 b (rdI A) d2) (yR rfl (yFe FL_84_2 e0) (yR rfl (yFf (u:=.int .u64 W.2.2) O_82 e0 b (rdI A) d2 rfl) (Rn QSn ?_)))))))))
     refine Lc1 rfl ?_
     refine LH wn (rLt (n:=1) (l:=[W.2.2]) b SL_89 [.int .u64 W.2.2] (bp1 e0) rfl rfl (mks1 (cs:=[.int .u64 W.2.2]) rfl mkI mks0)) fun p2 w b=>Dn [] [0,1] [9] (Rn (yS rfl (yFb FL_91_4 (eh z)) (yS rfl (lb_ H.v O_89 e0 b R1) QSn)) ?_)
     refine Lc1 rfl ?_
     replace b:=b.pk 7 [6,0,0,0,0,0,0] rfl
     refine LH wn (rAp b SL_89 e0 e0 rO1 m6) fun m7 w b=>Dn [10] [] [11] (yR rfl (yFb FL_91_4 (eh z)) (Rn QSn ?_))
     refine Lc1 rfl ?_
     replace b:=b.pk 3 [2,0,0] rfl
     exact LT wn (r_stb1 (vals':=[iV c,iV d,o.v,d1.v,m7.v]) b O_89 e0 e0 rfl rfl rfl rfl) fun w b=>Dz [] [] (Rn QSn (d0 _ _ _ _ _ _ J a8 T a9 z U V K (b.pk 8 [5,5,3,1,0,2] rfl) g))
    ·exact wp_skip (d0 _ _ _ _ _ _ J a8 T a9 z U V K b g)
   ·refine wp_exit (k7 _ _ _ rfl ?_)
    cases g
    exact k0 _ _ _ _ rfl rfl (i8 _ _ _ _ _ _ J a8 T a9 z U V b (j8 _ rfl))
  ·refine wp_exit (h5 _ _ _ rfl ?_)
   cases x
   exact h2 _ _ _ _ rfl rfl (g4 _ _ _ _ _ _ _ _ c6 c7 (b.pk 6 [0,0,0,0,0] rfl) (h0 _ rfl))
 refine loopQ (fun s a w=>∃ (b6:LI) (r:Int) (f:FV),(b6,r)=s∧a=fr 90 f∧f 0=iV c∧f 1=iV d∧f 2=m.v∧f 6=(pB i)∧f 7=(pB j)∧f 8=h.v∧f 9=iV r∧St w0 ros (box i 91 [iV 0,iV 0,hnil.v,hnil.v,hnil.v]::row 3 I1 y.v [0]::box j 91 [iV c,iV d,y.v,hnil.v,hnil.v]::row 3 I1 h.v b6::rs) w) f0 ⟨_,_,_,rfl,rfl,rfl,rfl,rfl,rfl,rfl,rfl,rfl,(b.pk 4 [3,2,1,0] rfl)⟩ ?_
 rintro _ _ w p3 ⟨b6,r,f,rfl,rfl,b8,d3,L,d4,d5,b9,N,b⟩ p m8 p4 m9 n0
 refine seqQ fun p5 n2 n3=>sR fun _ n4=>Ym (iV r) (eh N) (Ym m.v (eh L) (yY (yLen SL_80 e0 b (rdI A)) (yY (ylss e0 e0) (wK n4 ?_))))
 refine cIf e0 p (fun n5 p=>?_) fun n5 p=>?_
 ·refine wp_skip (n2 _ _ (sQ fun _ n6=>blockQ fun _ n7=>bE p fun n8 d6 p=>bE p fun n9 d7 p=>bE p fun p6 d8 p=>dR [0,0,0,6,14,30,0,126,0,0,768,1792,3840,8190,0,16384,65535,131071] [17] 1 folM ?_))
  replace b:=b.drew
  refine Dn [0,1,2,3,4,5,6,7,8,9,10,11,12,13,14,15,16] [] [17] (yR rfl (m_ h.v (eh b9)) (yR rfl (m_ m.v (eh L)) (yR rfl (m_ (iV r) (eh N)) (yR rfl (yIa SL_80 e0 e0 b (rdI A) d6) (yR rfl (yFe FL_84_1 e0) (yR rfl (yFf (u:=iV n8.2.1) O_3 e0 b (rdI A) d6 rfl) (yR rfl (m_ (iV c) (eh b8)) (yR rfl (ymul e0 e0) (yR rfl (m_ m.v (eh L)) (yR rfl (m_ (iV r) (eh N)) (yR rfl (yIa SL_80 e0 e0 b (rdI A) d7) (yR rfl (yFe FL_84_0 e0) (yR rfl (yFf (u:=iV n9.1) O_3 e0 b (rdI A) d7 rfl) ?_)))))))))))))
  refine yR rfl (yadd e0 e0) (yR rfl (m_ (iV r) (eh N)) (yR rfl (yadd e0 rfl) (yR rfl (yIs SL_22 e0 e0 b rO3 d8) (Rn QSn ?_))))
  refine Lc1 rfl ?_
  replace b:=b.pk 4 [3,0,0,0] rfl
  refine LT wn (r_sti (cs:=[iV (wa .i64 r 1)]) b O_3 rfl e0 e0 rfl mkI d8) fun w b=>Dz [] [] (Rn QSn (n7 _ _ _ (n6 _ _ (wR (Ym (iV r) (eh N) (yY (yadd e0 rfl) (Ya (iV (wa .i64 r 1)) e0 (wN ?_))))))))
  cases p
  exact m9 _ _ _ rfl ⟨_,_,_,rfl,rfl,b8,d3,L,d4,d5,b9,rfl,(b.pk 4 [1,1,1,0] rfl)⟩
 ·refine wp_exit (n3 _ _ _ rfl ?_)
  cases p
  exact n0 _ _ _ _ rfl rfl (f1 _ _ _ b8 d3 L d4 d5 b9 b (m8 _ rfl))
theorem sparseref03_IsFinite_ok {a:Int} {out:Bool} (b:sparseref03_IsFinite a=some out) (c:St w0 ros rs w):
  Calls Tryz.prog 125 #[.int .u64 a] w (fun e w=>e=.returned (.bool out)∧St w0 ros rs w):=by
 refine enterQ Tryz.func125 rfl Tryz.ntmps125 rfl fun Q d=>sR fun _ f=>Ya (.bool false) rfl (wK f (sR fun _ g=>Ym (.int .u64 a) e0 (yY (yshrc e0 rfl) (yY (yand e0 rfl) (yY (yneq e0 rfl) (Ya (.bool (!(decide ((wand .u64 (wsrc .u64 a 52) 2047)=2047)))) e0 (wN ?_)))))))
 refine g _ _ (wp_ret ?_)
 cases b
 exact d _ _ _ (fin1r Tryz.results125 ⟨rfl,rfl⟩ ⟨rfl,c⟩)
theorem sparseref06_Finite_ok {m:LI} {g:Hdr} {out:Bool} (h:sparseref06_Finite m=some out) (i:imm (rI .u64) g.v m∈ros) (b:St w0 ros rs w):
  Calls Tryz.prog 105 #[g.v] w (fun e w=>e=.returned (.bool out)∧St w0 ros rs w):=by
 refine enterQ Tryz.func105 rfl Tryz.ntmps105 rfl fun Q n=>sR fun _ y=>Ya (.bool false) rfl (wK y (seqQ fun U z A=>sR fun _ B=>Ya (iV 0) rfl (wK B (blockQ fun o p=>bE h fun q C h=>?_))))
 have D:∀ (f:FV) w,St w0 ros rs w→.inl ()=q→o (.exit 0) (fr 16 f) w:=by
  intro f w b ho
  subst ho
  refine p _ _ _ (z _ _ (sR fun _ E=>Ya (.bool true) rfl (wK E (wp_ret ?_))))
  cases h
  exact n _ _ _ (fin1r Tryz.results105 ⟨rfl,rfl⟩ ⟨rfl,b⟩)
 have F:∀ (f:FV) w,f 2=.bool false→St w0 ros rs w→.inr ()=q→o .ret (fr 16 f) w:=by
  intro f w G b ho
  subst ho
  refine p _ _ _ (A _ _ _ rfl ?_)
  cases h
  exact n _ _ _ (fin1r Tryz.results105 ⟨rfl,G⟩ ⟨rfl,b⟩)
 refine loopQ (fun s a w=>∃ (d:Int) (f:FV),d=s∧a=fr 16 f∧f 0=g.v∧f 3=iV d∧St w0 ros rs w) C ⟨_,_,rfl,rfl,rfl,rfl,b⟩ ?_
 rintro _ _ w V ⟨d,f,rfl,rfl,j,k,b⟩ c r W H t
 refine seqQ fun X I J=>sR fun _ K=>Ym (iV d) (eh k) (Ym g.v (eh j) (yY (yLen SL_89 e0 b (rdI i)) (yY (ylss e0 e0) (wK K ?_))))
 refine cIf e0 c (fun L c=>?_) fun L c=>?_
 ·refine wp_skip (I _ _ (seqQ fun Z N O=>blockQ fun _ u=>sR fun _ R=>Ym g.v (eh j) (Ym (iV d) (eh k) (bE c fun a0 x c=>yY (yIa SL_89 e0 e0 b (rdI i) x) (yY (yI O_82 e0 b (rdI i) x) (bE c fun a2 S c=>yC (yCall FN_125 (a1 e0)) (sparseref03_IsFinite_ok S b) ?_))))))
  rintro _ w ⟨rfl,b⟩
  refine ⟨_,rfl,?_⟩
  refine yY (ynot e0) (wK R ?_)
  rcases iteS c with ⟨l,c⟩ | ⟨l,c⟩
  ·refine condF e0 (nF l) (wp_skip (u _ _ _ (N _ _ (wR (Ym (iV d) (eh k) (yY (yadd e0 rfl) (Ya (iV (wa .i64 d 1)) e0 (wN ?_))))))))
   cases c
   exact H _ _ _ rfl ⟨_,_,rfl,rfl,j,rfl,b⟩
  ·refine condT e0 (nT (bfalse l)) (sR fun _ T=>Ya (.bool false) rfl (wK T (wp_ret (u _ _ _ (O _ _ _ rfl ?_)))))
   cases c
   exact t _ _ _ _ rfl rfl (F _ _ rfl b (r _ rfl))
 ·refine wp_exit (J _ _ _ rfl ?_)
  cases c
  exact t _ _ _ _ rfl rfl (D _ _ b (r _ rfl))
theorem sparseref09_Check_ok {c d:Int} {a2 A W:LI} {l i r:Hdr} {out:Int} (m:sparseref09_Check c d a2 A W=some out) (x:imm I1 l.v a2∈ros) (o:imm I1 i.v A∈ros) (b8:imm (rI .u64) r.v W∈ros) (b:St w0 ros rs w):
  Calls Tryz.prog 87 #[.agg #[iV c,iV d,l.v,i.v,r.v]] w (fun e w=>e=.returned (iV out)∧St w0 ros rs w):=by
 refine enterQ Tryz.func87 rfl Tryz.ntmps87 rfl fun Q X=>sR fun _ g0=>yBb (r_box (vals:=[iV c,iV d,l.v,i.v,r.v]) b e0 rfl) fun j w b=>Ya (iV 0) rfl (wK g0 (seqQ fun r3 g1 g2=>sR fun _ g3=>yY (yFb FL_91_0 e0) (yY (lb_ (iV c) O_3 e0 b R0) (yY (ylss e0 rfl) ?_))))
 refine Ym (.bool (decide (c < 0))) e0 ?_
 refine joinW 4 (fun f w=>f 1=(pB j)∧f 14=.bool ((decide (c < 0)) || (decide ((200:Int) < c)))∧St w0 ros (box j 91 [iV c,iV d,l.v,i.v,r.v]::rs) w) (fun c0=>?_) ?_
 ·rcases Bool.eq_false_or_eq_true (decide (c < 0)) with F | F
  ·exact gN F (gN F (gN F (yY (pt_ (.bool true) e0 F rfl) (c0 _ _ ⟨rfl,(congrArg Value.bool (orT F)),b⟩))))
  ·exact yG F (yFb FL_91_0 e0) (yG F (lb_ (iV c) O_3 e0 b R0) (yG F (ygtr e0 rfl) (yY (pf_ (.bool (decide ((200:Int) < c))) e0 F e0) (c0 _ _ ⟨rfl,(congrArg Value.bool (orF F)),b⟩))))
 rintro f w ⟨b1,g4,b⟩
 refine Ym (.bool ((decide (c < 0)) || (decide ((200:Int) < c)))) (eh g4) ?_
 refine joinW 4 (fun f w=>f 1=(pB j)∧f 19=.bool (((decide (c < 0)) || (decide ((200:Int) < c))) || (decide (d < 0)))∧St w0 ros (box j 91 [iV c,iV d,l.v,i.v,r.v]::rs) w) (fun c1=>?_) ?_
 ·rcases Bool.eq_false_or_eq_true ((decide (c < 0)) || (decide ((200:Int) < c))) with G | G
  ·exact gN G (gN G (gN G (yY (pt_ (.bool true) e0 G rfl) (c1 _ _ ⟨b1,(congrArg Value.bool (orT G)),b⟩))))
  ·exact yG G (yFb FL_91_1 (eh b1)) (yG G (lb_ (iV d) O_3 e0 b R0) (yG G (ylss e0 rfl) (yY (pf_ (.bool (decide (d < 0))) e0 G e0) (c1 _ _ ⟨b1,(congrArg Value.bool (orF G)),b⟩))))
 rintro f w ⟨b2,g5,b⟩
 refine Ym (.bool (((decide (c < 0)) || (decide ((200:Int) < c))) || (decide (d < 0)))) (eh g5) ?_
 refine joinW 4 (fun f w=>f 1=(pB j)∧f 24=.bool ((((decide (c < 0)) || (decide ((200:Int) < c))) || (decide (d < 0))) || (decide ((200:Int) < d)))∧St w0 ros (box j 91 [iV c,iV d,l.v,i.v,r.v]::rs) w) (fun c2=>?_) ?_
 ·rcases Bool.eq_false_or_eq_true (((decide (c < 0)) || (decide ((200:Int) < c))) || (decide (d < 0))) with H | H
  ·exact gN H (gN H (gN H (yY (pt_ (.bool true) e0 H rfl) (c2 _ _ ⟨b2,(congrArg Value.bool (orT H)),b⟩))))
  ·exact yG H (yFb FL_91_1 (eh b2)) (yG H (lb_ (iV d) O_3 e0 b R0) (yG H (ygtr e0 rfl) (yY (pf_ (.bool (decide ((200:Int) < d))) e0 H e0) (c2 _ _ ⟨b2,(congrArg Value.bool (orF H)),b⟩))))
 rintro f w ⟨b3,g6,b⟩
 refine Ym (.bool ((((decide (c < 0)) || (decide ((200:Int) < c))) || (decide (d < 0))) || (decide ((200:Int) < d)))) (eh g6) ?_
 refine joinW 5 (fun f w=>f 1=(pB j)∧f 30=.bool (((((decide (c < 0)) || (decide ((200:Int) < c))) || (decide (d < 0))) || (decide ((200:Int) < d))) || (decide ((10000:Int) < (A.length:Int))))∧St w0 ros (box j 91 [iV c,iV d,l.v,i.v,r.v]::rs) w) (fun c3=>?_) ?_
 ·rcases Bool.eq_false_or_eq_true ((((decide (c < 0)) || (decide ((200:Int) < c))) || (decide (d < 0))) || (decide ((200:Int) < d))) with B | B
  ·exact gN B (gN B (gN B (gN B (yY (pt_ (.bool true) e0 B rfl) (c3 _ _ ⟨b3,(congrArg Value.bool (orT B)),b⟩)))))
  ·exact yG B (yFb FL_91_3 (eh b3)) (yG B (lb_ i.v O_22 e0 b R0) (yG B (yLen SL_22 e0 b (rdI o)) (yG B (ygtr e0 rfl) (yY (pf_ (.bool (decide ((10000:Int) < (A.length:Int)))) e0 B e0) (c3 _ _ ⟨b3,(congrArg Value.bool (orF B)),b⟩)))))
 rintro f w ⟨Z,g7,b⟩
 refine wK g3 (cB (eh g7) m (fun g8 m=>?_) fun g8 m=>?_)
 ·refine sR fun _ g9=>Ya (iV 6) rfl (wK g9 (wp_ret (g2 _ _ _ rfl ?_)))
  cases m
  exact X _ _ _ (fin1r Tryz.results87 ⟨rfl,rfl⟩ ⟨rfl,(b.pk 1 [] rfl)⟩)
 ·refine wp_skip (g1 _ _ (sR fun _ h0=>yY (yFb FL_91_3 (eh Z)) (yY (lb_ i.v O_22 e0 b R0) (yY (yLen SL_22 e0 b (rdI o)) (Ya (iV (A.length:Int)) e0 (wK h0 (seqQ fun r4 h1 h2=>sR fun _ h3=>yY (yFb FL_91_4 (eh Z)) ?_)))))))
  refine yY (lb_ r.v O_89 e0 b R0) (yY (yLen SL_89 e0 b (rdI b8)) (Ym (iV (A.length:Int)) e0 (yY (yneq e0 e0) (Ym (.bool (!(decide ((W.length:Int)=(A.length:Int))))) e0 ?_))))
  refine joinW 8 (fun f w=>f 1=(pB j)∧f 3=iV (A.length:Int)∧f 47=.bool ((!(decide ((W.length:Int)=(A.length:Int)))) || (!(decide ((a2.length:Int)=(wa .i64 d 1)))))∧St w0 ros (box j 91 [iV c,iV d,l.v,i.v,r.v]::rs) w) (fun c4=>?_) ?_
  ·rcases Bool.eq_false_or_eq_true (!(decide ((W.length:Int)=(A.length:Int)))) with t | t
   ·exact gN t (gN t (gN t (gN t (gN t (gN t (gN t (yY (pt_ (.bool true) e0 t rfl) (c4 _ _ ⟨Z,rfl,(congrArg Value.bool (orT t)),b⟩))))))))
   ·exact yG t (yFb FL_91_2 (eh Z)) (yG t (lb_ l.v O_22 e0 b R0) (yG t (yLen SL_22 e0 b (rdI x)) (yG t (yFb FL_91_1 (eh Z)) (yG t (lb_ (iV d) O_3 e0 b R0) (yG t (yadd e0 rfl) (yG t (yneq e0 e0) (yY (pf_ (.bool (!(decide ((a2.length:Int)=(wa .i64 d 1))))) e0 t e0) (c4 _ _ ⟨Z,rfl,(congrArg Value.bool (orF t)),b⟩))))))))
  rintro f w ⟨b4,c5,h5,b⟩
  refine Ym (.bool ((!(decide ((W.length:Int)=(A.length:Int)))) || (!(decide ((a2.length:Int)=(wa .i64 d 1)))))) (eh h5) (bE m fun c6 T m=>?_)
  refine joinW 6 (fun f w=>f 1=(pB j)∧f 3=iV (A.length:Int)∧f 54=.bool c6∧St w0 ros (box j 91 [iV c,iV d,l.v,i.v,r.v]::rs) w) (fun c7=>?_) ?_
  ·rcases iteS T with ⟨C,T⟩ | ⟨C,T⟩
   ·refine gN C (gN C (gN C (gN C (gN C (yY (pt_ (.bool true) e0 C rfl) ?_)))))
    cases T
    exact c7 _ _ ⟨b4,c5,rfl,b⟩
   ·refine yG (bfalse C) (yFb FL_91_2 (eh b4)) (yG (bfalse C) (lb_ l.v O_22 e0 b R0) (bE T fun h7 c8 T=>yG (bfalse C) (yIa SL_22 e0 rfl b (rdI x) c8) (yG (bfalse C) (yI O_3 e0 b (rdI x) c8) (yG (bfalse C) (yneq e0 rfl) (yY (pf_ (.bool (!(decide (h7=0)))) e0 (bfalse C) e0) ?_)))))
    cases T
    exact c7 _ _ ⟨b4,c5,rfl,b⟩
  rintro f w ⟨a5,h9,i0,b⟩
  refine Ym (.bool c6) (eh i0) (bE m fun i1 U m=>?_)
  refine joinW 9 (fun f w=>f 1=(pB j)∧f 64=.bool i1∧St w0 ros (box j 91 [iV c,iV d,l.v,i.v,r.v]::rs) w) (fun c9=>?_) ?_
  ·rcases iteS U with ⟨u,U⟩ | ⟨u,U⟩
   ·refine gN u (gN u (gN u (gN u (gN u (gN u (gN u (gN u (yY (pt_ (.bool true) e0 u rfl) ?_))))))))
    cases U
    exact c9 _ _ ⟨a5,rfl,b⟩
   ·refine yG (bfalse u) (yFb FL_91_2 (eh a5)) (yG (bfalse u) (lb_ l.v O_22 e0 b R0) (yG (bfalse u) (yFb FL_91_1 (eh a5)) (yG (bfalse u) (lb_ (iV d) O_3 e0 b R0) (bE U fun i2 d0 U=>yG (bfalse u) (yIa SL_22 e0 e0 b (rdI x) d0) (yG (bfalse u) (yI O_3 e0 b (rdI x) d0) (yG (bfalse u) (m_ (iV (A.length:Int)) (eh h9)) (yG (bfalse u) (yneq e0 e0) (yY (pf_ (.bool (!(decide (i2=(A.length:Int))))) e0 (bfalse u) e0) ?_))))))))
    cases U
    exact c9 _ _ ⟨a5,rfl,b⟩
  rintro f w ⟨i3,i4,b⟩
  refine wK h3 (cB (eh i4) m (fun i5 m=>?_) fun i5 m=>?_)
  ·refine sR fun _ i6=>Ya (iV 1) rfl (wK i6 (wp_ret (h2 _ _ _ rfl ?_)))
   cases m
   exact X _ _ _ (fin1r Tryz.results87 ⟨rfl,rfl⟩ ⟨rfl,(b.pk 1 [] rfl)⟩)
  ·refine wp_skip (h1 _ _ (seqQ fun r5 i7 i8=>sR fun _ i9=>Ya (iV 0) rfl (wK i9 (blockQ fun d1 d2=>bE m fun d3 j0 m=>?_))))
   have j8:∀ (f:FV) w,f 1=(pB j)→St w0 ros (box j 91 [iV c,iV d,l.v,i.v,r.v]::rs) w→.inl ()=d3→d1 (.exit 0) (fr 147 f) w:=by
    intro f w j9 b ho
    subst ho
    refine d2 _ _ _ (i7 _ _ (seqQ fun r6 k0 l0=>sR fun _ l1=>Ya (iV 0) rfl (wK l1 (blockQ fun d4 d5=>bE m fun d6 l2 m=>?_))))
    have l3:∀ (f:FV) w,f 1=(pB j)→St w0 ros (box j 91 [iV c,iV d,l.v,i.v,r.v]::rs) w→.inl ()=d6→d4 (.exit 2) (fr 147 f) w:=by
     intro f w l4 b ho
     subst ho
     refine d5 _ _ _ (k0 _ _ (seqQ fun r7 l5 l6=>sR fun _ l7=>yY (yFb FL_91_4 (eh l4)) (yY (lb_ r.v O_89 e0 b R0) (bE m fun r8 l8 m=>yC (yCall FN_105 (a1 e0)) (sparseref06_Finite_ok l8 b8 b) ?_))))
     rintro _ w ⟨rfl,b⟩
     refine ⟨_,rfl,?_⟩
     refine yY (ynot e0) (wK l7 ?_)
     rcases iteS m with ⟨b5,m⟩ | ⟨b5,m⟩
     ·refine condF e0 (nF b5) (wp_skip (l5 _ _ (sR fun _ l9=>Ya (iV 0) rfl (wK l9 (wp_ret ?_)))))
      cases m
      exact X _ _ _ (fin1r Tryz.results87 ⟨rfl,rfl⟩ ⟨rfl,(b.pk 1 [] rfl)⟩)
     ·refine condT e0 (nT (bfalse b5)) (sR fun _ m0=>Ya (iV 4) rfl (wK m0 (wp_ret (l6 _ _ _ rfl ?_))))
      cases m
      exact X _ _ _ (fin1r Tryz.results87 ⟨rfl,rfl⟩ ⟨rfl,(b.pk 1 [] rfl)⟩)
    have m1:∀ (f:FV) w,f 2=iV 1→St w0 ros rs w→.inr ()=d6→d4 .ret (fr 147 f) w:=by
     intro f w m2 b ho
     subst ho
     refine d5 _ _ _ (l0 _ _ _ rfl ?_)
     cases m
     exact X _ _ _ (fin1r Tryz.results87 ⟨rfl,m2⟩ ⟨rfl,b⟩)
    refine loopQ (fun s a w=>∃ (D:Int) (f:FV),D=s∧a=fr 147 f∧f 1=(pB j)∧f 5=iV D∧St w0 ros (box j 91 [iV c,iV d,l.v,i.v,r.v]::rs) w) l2 ⟨_,_,rfl,rfl,j9,rfl,b⟩ ?_
    rintro _ _ w r9 ⟨D,f,rfl,rfl,a6,b6,b⟩ K d7 s0 m3 d8
    refine seqQ fun s1 m4 m5=>sR fun _ m6=>Ym (iV D) (eh b6) (yY (yFb FL_91_1 (eh a6)) (yY (lb_ (iV d) O_3 e0 b R0) (yY (ylss e0 e0) (wK m6 ?_))))
    refine cIf e0 K (fun m7 K=>?_) fun m7 K=>?_
    ·refine wp_skip (m4 _ _ (seqQ fun s2 m8 m9=>blockQ fun _ d9=>sR fun _ n0=>yY (yFb FL_91_2 (eh a6)) (yY (lb_ l.v O_22 e0 b R0) (Ym (iV D) (eh b6) (bE K fun n1 e1 K=>yY (yIa SL_22 e0 e0 b (rdI x) e1) (yY (yI O_3 e0 b (rdI x) e1) (Ya (iV n1) e0 (wN ?_))))))))
     refine n0 _ _ (blockQ fun e2 e3=>bE K fun e4 n2 K=>?_)
     have n3:∀ (f:FV) w,f 1=(pB j)→f 5=iV D→St w0 ros (box j 91 [iV c,iV d,l.v,i.v,r.v]::rs) w→.inl ()=e4→e2 (.exit 4) (fr 147 f) w:=by
      intro f w n4 n5 b ho
      subst ho
      refine e3 _ _ _ (d9 _ _ _ (m8 _ _ (wR (Ym (iV D) (eh n5) (yY (yadd e0 rfl) (Ya (iV (wa .i64 D 1)) e0 (wN ?_)))))))
      cases K
      exact m3 _ _ _ rfl ⟨_,_,rfl,rfl,n4,rfl,b⟩
     have n6:∀ (f:FV) w,f 2=iV 1→St w0 ros rs w→.inr ()=e4→e2 .ret (fr 147 f) w:=by
      intro f w n7 b ho
      subst ho
      refine e3 _ _ _ (d9 _ _ _ (m9 _ _ _ rfl ?_))
      cases K
      exact d8 _ _ _ _ rfl rfl (m1 _ _ n7 b (d7 _ rfl))
     refine loopQ (fun s a w=>∃ (p:Int) (f:FV),p=s∧a=fr 147 f∧f 1=(pB j)∧f 5=iV D∧f 6=iV p∧St w0 ros (box j 91 [iV c,iV d,l.v,i.v,r.v]::rs) w) n2 ⟨_,_,rfl,rfl,a6,b6,rfl,b⟩ ?_
     rintro _ _ w s3 ⟨p,f,rfl,rfl,q,O,z,b⟩ y e5 s4 n9 e6
     refine seqQ fun s5 o0 o1=>sR fun _ o2=>Ym (iV p) (eh z) (yY (yFb FL_91_2 (eh q)) (yY (lb_ l.v O_22 e0 b R0) (Ym (iV D) (eh O) (yY (yadd e0 rfl) (bE y fun s6 e7 y=>yY (yIa SL_22 e0 e0 b (rdI x) e7) (yY (yI O_3 e0 b (rdI x) e7) (yY (ylss e0 e0) (wK o2 ?_))))))))
     refine cIf e0 y (fun o3 y=>?_) fun o3 y=>?_
     ·refine wp_skip (o0 _ _ (seqQ fun s7 o4 o5=>blockQ fun _ e8=>sQ fun _ o6=>bE y fun a7 R y=>bE y fun L V y=>bE y fun a3 I y=>?_))
      refine joinN (n:=147) (fun f w=>f 1=(pB j)∧f 5=iV D∧f 6=iV p∧f 142=.bool a3∧St w0 ros (box j 91 [iV c,iV d,l.v,i.v,r.v]::rs) w) (fun a8=>?_) ?_
      ·rcases iteS V with ⟨g,V⟩ | ⟨g,V⟩
       ·have e9:=someI V
        have J:L=true:=e9.symm
        rw [if_pos J] at I
        have o7:=someI I
        refine dR [0,1,0,7,15,31,63,127,255,127,1023,2047,127,4223,16383,32767,65535,131071,131071,393215,131071,1966079,4063231,8388607,16777215,33554431,67108863,33554431,268435455,536870911,33554431,1107296255,33554431,4328521727,16139681791,33319550975,68719476735,137438953471,274877906943] [] 0 folM ?_
        replace b:=b.drew
        refine Dz [0,1,2,3,4,5,6,7,8,9,10,11,12,13,14,15,16,17,18,19,20,21,22,23,24,25,26,27,28,29,30,31,32,33,34,35,36,37,38] [] (yR rfl (yFb FL_91_3 (eh q)) (yR rfl (lb_ i.v O_22 e0 b R0) (yR rfl (m_ (iV p) (eh z)) (yR rfl (yIa SL_22 e0 e0 b (rdI o) R) (yR rfl (yI O_3 e0 b (rdI o) R) (yR rfl (ylss e0 rfl) (yR rfl (m_ (.bool (decide (a7 < 0))) e0) (Rx rfl rfl (wX (dT g)) (Rx rfl rfl (wX (dT g)) (Rx rfl rfl (wX (dT g)) (Rx rfl rfl (wX (dT g)) (Rx rfl rfl (wX (dT g)) (Rx rfl rfl (wX (dT g)) ?_)))))))))))))
        refine Rx rfl rfl (wX (dT g)) (Rx rfl rfl (wX (dT g)) (yR rfl (pt_ (.bool L) e0 (dT g) (eqv e9 rfl)) (yR rfl (m_ (.bool L) e0) (Rx rfl rfl (wX J) (Rx rfl rfl (wX J) (Rx rfl rfl (wX J) (Rx rfl rfl (wX J) (Rx rfl rfl (wX J) (Rx rfl rfl (wX J) (Rx rfl rfl (wX J) (Rx rfl rfl (wX J) (Rx rfl rfl (wxu rfl rfl rfl) (Rx rfl rfl (wxu rfl rfl rfl) ?_)))))))))))))
        exact Rx rfl rfl (wxu rfl rfl rfl) (Rx rfl rfl (wxu rfl rfl rfl) (Rx rfl rfl (wxu rfl rfl rfl) (Rx rfl rfl (wxu rfl rfl rfl) (Rx rfl rfl (wxu rfl rfl rfl) (Rx rfl rfl (wxu rfl rfl rfl) (Rx rfl rfl (wxu rfl rfl rfl) (Rx rfl rfl (wxu rfl rfl rfl) (Rx rfl rfl (wxu rfl rfl rfl) (Rx rfl rfl (wxu rfl rfl rfl) (Rx rfl rfl (wX J) (yR rfl (pt_ (.bool a3) e0 J (eqv o7 rfl)) (Rn QSn (a8 _ _ ⟨q,O,z,rfl,b⟩)))))))))))))
       ·refine bE V fun s8 a0 V=>?_
        have b7:=someI V
        rcases iteS I with ⟨h,I⟩ | ⟨h,I⟩
        ·have o9:=someI I
         refine dR [0,1,0,7,15,31,63,127,255,127,1023,2047,127,4223,16383,32767,65535,131071,131071,393215,131071,1966079,4063231,8388607,16777215,33554431,67108863,33554431,268435455,536870911,33554431,1107296255,33554431,4328521727,16139681791,33319550975,68719476735,137438953471,274877906943] [] 0 folM ?_
         replace b:=b.drew
         refine Dz [0,1,2,3,4,5,6,7,8,9,10,11,12,13,14,15,16,17,18,19,20,21,22,23,24,25,26,27,28,29,30,31,32,33,34,35,36,37,38] [] (yR rfl (yFb FL_91_3 (eh q)) (yR rfl (lb_ i.v O_22 e0 b R0) (yR rfl (m_ (iV p) (eh z)) (yR rfl (yIa SL_22 e0 e0 b (rdI o) R) (yR rfl (yI O_3 e0 b (rdI o) R) (yR rfl (ylss e0 rfl) (yR rfl (m_ (.bool (decide (a7 < 0))) e0) (Ry rfl rfl (wG (dF g)) (yFb FL_91_3 (eh q)) (Ry rfl rfl (wG (dF g)) (lb_ i.v O_22 e0 b R0) (Ry rfl rfl (wG (dF g)) (m_ (iV p) (eh z)) (Ry rfl rfl (wG (dF g)) (yIa SL_22 e0 e0 b (rdI o) a0) (Ry rfl rfl (wG (dF g)) (yI O_3 e0 b (rdI o) a0) (Ry rfl rfl (wG (dF g)) (yFb FL_91_0 (eh q)) ?_)))))))))))))
         refine Ry rfl rfl (wG (dF g)) (lb_ (iV c) O_3 e0 b R0) (Ry rfl rfl (wG (dF g)) (ygeq e0 e0) (yR rfl (pf_ (.bool L) e0 (dF g) (eqv b7 e0)) (yR rfl (m_ (.bool L) e0) (Rx rfl rfl (wX h) (Rx rfl rfl (wX h) (Rx rfl rfl (wX h) (Rx rfl rfl (wX h) (Rx rfl rfl (wX h) (Rx rfl rfl (wX h) (Rx rfl rfl (wX h) (Rx rfl rfl (wX h) (Rx rfl rfl (wxu rfl rfl rfl) (Rx rfl rfl (wxu rfl rfl rfl) ?_)))))))))))))
         exact Rx rfl rfl (wxu rfl rfl rfl) (Rx rfl rfl (wxu rfl rfl rfl) (Rx rfl rfl (wxu rfl rfl rfl) (Rx rfl rfl (wxu rfl rfl rfl) (Rx rfl rfl (wxu rfl rfl rfl) (Rx rfl rfl (wxu rfl rfl rfl) (Rx rfl rfl (wxu rfl rfl rfl) (Rx rfl rfl (wxu rfl rfl rfl) (Rx rfl rfl (wxu rfl rfl rfl) (Rx rfl rfl (wxu rfl rfl rfl) (Rx rfl rfl (wX h) (yR rfl (pt_ (.bool a3) e0 h (eqv o9 rfl)) (Rn QSn (a8 _ _ ⟨q,O,z,rfl,b⟩)))))))))))))
        ·refine bE I fun f0 a9 I=>bE I fun f1 N I=>?_
         have f2:=someI I
         rcases iteS N with ⟨k,N⟩ | ⟨k,N⟩
         ·refine bE N fun s9 f3 N=>bE N fun t0 f4 N=>?_
          have p0:=someI N
          refine dR [0,1,0,7,15,31,63,127,255,127,1023,2047,127,4223,16383,32767,65535,131071,131071,393215,131071,1966079,4063231,8388607,16777215,33554431,67108863,33554431,268435455,536870911,33554431,1107296255,33554431,4328521727,16139681791,33319550975,68719476735,137438953471,274877906943] [] 0 folM ?_
          replace b:=b.drew
          refine Dz [0,1,2,3,4,5,6,7,8,9,10,11,12,13,14,15,16,17,18,19,20,21,22,23,24,25,26,27,28,29,30,31,32,33,34,35,36,37,38] [] (yR rfl (yFb FL_91_3 (eh q)) (yR rfl (lb_ i.v O_22 e0 b R0) (yR rfl (m_ (iV p) (eh z)) (yR rfl (yIa SL_22 e0 e0 b (rdI o) R) (yR rfl (yI O_3 e0 b (rdI o) R) (yR rfl (ylss e0 rfl) (yR rfl (m_ (.bool (decide (a7 < 0))) e0) (Ry rfl rfl (wG (dF g)) (yFb FL_91_3 (eh q)) (Ry rfl rfl (wG (dF g)) (lb_ i.v O_22 e0 b R0) (Ry rfl rfl (wG (dF g)) (m_ (iV p) (eh z)) (Ry rfl rfl (wG (dF g)) (yIa SL_22 e0 e0 b (rdI o) a0) (Ry rfl rfl (wG (dF g)) (yI O_3 e0 b (rdI o) a0) (Ry rfl rfl (wG (dF g)) (yFb FL_91_0 (eh q)) ?_)))))))))))))
          refine Ry rfl rfl (wG (dF g)) (lb_ (iV c) O_3 e0 b R0) (Ry rfl rfl (wG (dF g)) (ygeq e0 e0) (yR rfl (pf_ (.bool L) e0 (dF g) (eqv b7 e0)) (yR rfl (m_ (.bool L) e0) (Ry rfl rfl (wG (bfalse h)) (m_ (iV p) (eh z)) (Ry rfl rfl (wG (bfalse h)) (yFb FL_91_2 (eh q)) (Ry rfl rfl (wG (bfalse h)) (lb_ l.v O_22 e0 b R0) (Ry rfl rfl (wG (bfalse h)) (m_ (iV D) (eh O)) (Ry rfl rfl (wG (bfalse h)) (yIa SL_22 e0 e0 b (rdI x) a9) (Ry rfl rfl (wG (bfalse h)) (yI O_3 e0 b (rdI x) a9) (Ry rfl rfl (wG (bfalse h)) (ygtr e0 e0) (Ry rfl rfl (wG (bfalse h)) (m_ (.bool (decide (f0 < p))) e0) (Ry rfl rfl (wG (dT k)) (yFb FL_91_3 (eh q)) (Ry rfl rfl (wG (dT k)) (lb_ i.v O_22 e0 b R0) ?_)))))))))))))
          exact Ry rfl rfl (wG (dT k)) (m_ (iV p) (eh z)) (Ry rfl rfl (wG (dT k)) (yIa SL_22 e0 e0 b (rdI o) f3) (Ry rfl rfl (wG (dT k)) (yI O_3 e0 b (rdI o) f3) (Ry rfl rfl (wG (dT k)) (yFb FL_91_3 (eh q)) (Ry rfl rfl (wG (dT k)) (lb_ i.v O_22 e0 b R0) (Ry rfl rfl (wG (dT k)) (m_ (iV p) (eh z)) (Ry rfl rfl (wG (dT k)) (ysub e0 rfl) (Ry rfl rfl (wG (dT k)) (yIa SL_22 e0 e0 b (rdI o) f4) (Ry rfl rfl (wG (dT k)) (yI O_3 e0 b (rdI o) f4) (Ry rfl rfl (wG (dT k)) (yleq e0 e0) (Ry rfl rfl (wG (bfalse h)) (pt_ (.bool f1) e0 (dT k) (eqv p0 e0)) (yR rfl (pf_ (.bool a3) e0 (bfalse h) (eqv f2 e0)) (Rn QSn (a8 _ _ ⟨q,O,z,rfl,b⟩)))))))))))))
         ·have p1:=someI N
          refine dR [0,1,0,7,15,31,63,127,255,127,1023,2047,127,4223,16383,32767,65535,131071,131071,393215,131071,1966079,4063231,8388607,16777215,33554431,67108863,33554431,268435455,536870911,33554431,1107296255,33554431,4328521727,16139681791,33319550975,68719476735,137438953471,274877906943] [] 0 folM ?_
          replace b:=b.drew
          refine Dz [0,1,2,3,4,5,6,7,8,9,10,11,12,13,14,15,16,17,18,19,20,21,22,23,24,25,26,27,28,29,30,31,32,33,34,35,36,37,38] [] (yR rfl (yFb FL_91_3 (eh q)) (yR rfl (lb_ i.v O_22 e0 b R0) (yR rfl (m_ (iV p) (eh z)) (yR rfl (yIa SL_22 e0 e0 b (rdI o) R) (yR rfl (yI O_3 e0 b (rdI o) R) (yR rfl (ylss e0 rfl) (yR rfl (m_ (.bool (decide (a7 < 0))) e0) (Ry rfl rfl (wG (dF g)) (yFb FL_91_3 (eh q)) (Ry rfl rfl (wG (dF g)) (lb_ i.v O_22 e0 b R0) (Ry rfl rfl (wG (dF g)) (m_ (iV p) (eh z)) (Ry rfl rfl (wG (dF g)) (yIa SL_22 e0 e0 b (rdI o) a0) (Ry rfl rfl (wG (dF g)) (yI O_3 e0 b (rdI o) a0) (Ry rfl rfl (wG (dF g)) (yFb FL_91_0 (eh q)) ?_)))))))))))))
          refine Ry rfl rfl (wG (dF g)) (lb_ (iV c) O_3 e0 b R0) (Ry rfl rfl (wG (dF g)) (ygeq e0 e0) (yR rfl (pf_ (.bool L) e0 (dF g) (eqv b7 e0)) (yR rfl (m_ (.bool L) e0) (Ry rfl rfl (wG (bfalse h)) (m_ (iV p) (eh z)) (Ry rfl rfl (wG (bfalse h)) (yFb FL_91_2 (eh q)) (Ry rfl rfl (wG (bfalse h)) (lb_ l.v O_22 e0 b R0) (Ry rfl rfl (wG (bfalse h)) (m_ (iV D) (eh O)) (Ry rfl rfl (wG (bfalse h)) (yIa SL_22 e0 e0 b (rdI x) a9) (Ry rfl rfl (wG (bfalse h)) (yI O_3 e0 b (rdI x) a9) (Ry rfl rfl (wG (bfalse h)) (ygtr e0 e0) (Ry rfl rfl (wG (bfalse h)) (m_ (.bool (decide (f0 < p))) e0) (Rx rfl rfl (wX (dF k)) (Rx rfl rfl (wX (dF k)) ?_)))))))))))))
          exact Rx rfl rfl (wX (dF k)) (Rx rfl rfl (wX (dF k)) (Rx rfl rfl (wX (dF k)) (Rx rfl rfl (wX (dF k)) (Rx rfl rfl (wX (dF k)) (Rx rfl rfl (wX (dF k)) (Rx rfl rfl (wX (dF k)) (Rx rfl rfl (wX (dF k)) (Rx rfl rfl (wX (dF k)) (Rx rfl rfl (wX (dF k)) (Ry rfl rfl (wG (bfalse h)) (pf_ (.bool f1) e0 (dF k) (eqv p1 rfl)) (yR rfl (pf_ (.bool a3) e0 (bfalse h) (eqv f2 e0)) (Rn QSn (a8 _ _ ⟨q,O,z,rfl,b⟩)))))))))))))
      rintro f w ⟨p2,p3,p4,p5,b⟩
      refine o6 _ _ (cB (eh p5) y (fun p6 y=>?_) fun p6 y=>?_)
      ·refine sR fun _ p7=>Ya (iV 1) rfl (wK p7 (wp_ret (e8 _ _ _ (o5 _ _ _ rfl ?_))))
       cases y
       exact e6 _ _ _ _ rfl rfl (n6 _ _ rfl (b.pk 1 [] rfl) (e5 _ rfl))
      ·refine wp_skip (e8 _ _ _ (o4 _ _ (wR (Ym (iV p) (eh p4) (yY (yadd e0 rfl) (Ya (iV (wa .i64 p 1)) e0 (wN ?_)))))))
       cases y
       exact n9 _ _ _ rfl ⟨_,_,rfl,rfl,p2,p3,rfl,b⟩
     ·refine wp_exit (o1 _ _ _ rfl ?_)
      cases y
      exact e6 _ _ _ _ rfl rfl (n3 _ _ q O b (e5 _ rfl))
    ·refine wp_exit (m5 _ _ _ rfl ?_)
     cases K
     exact d8 _ _ _ _ rfl rfl (l3 _ _ a6 b (d7 _ rfl))
   have p8:∀ (f:FV) w,f 2=iV 1→St w0 ros rs w→.inr ()=d3→d1 .ret (fr 147 f) w:=by
    intro f w p9 b ho
    subst ho
    refine d2 _ _ _ (i8 _ _ _ rfl ?_)
    cases m
    exact X _ _ _ (fin1r Tryz.results87 ⟨rfl,p9⟩ ⟨rfl,b⟩)
   refine loopQ (fun s a w=>∃ (S:Int) (f:FV),S=s∧a=fr 147 f∧f 1=(pB j)∧f 4=iV S∧St w0 ros (box j 91 [iV c,iV d,l.v,i.v,r.v]::rs) w) j0 ⟨_,_,rfl,rfl,i3,rfl,b⟩ ?_
   rintro _ _ w t1 ⟨S,f,rfl,rfl,a4,b0,b⟩ E f5 t2 q0 f6
   refine seqQ fun t3 q4 q5=>sR fun _ q6=>Ym (iV S) (eh b0) (yY (yFb FL_91_1 (eh a4)) (yY (lb_ (iV d) O_3 e0 b R0) (yY (ylss e0 e0) (wK q6 ?_))))
   refine cIf e0 E (fun q7 E=>?_) fun q7 E=>?_
   ·refine wp_skip (q4 _ _ (seqQ fun t4 q8 q9=>blockQ fun _ f7=>sQ fun _ r0=>bE E fun t5 f8 E=>bE E fun t6 f9 E=>dR [0,1,0,7,15,0,32,0,128,480,992,2047] [] 0 folM ?_))
    replace b:=b.drew
    refine Dz [0,1,2,3,4,5,6,7,8,9,10,11] [] (yR rfl (yFb FL_91_2 (eh a4)) (yR rfl (lb_ l.v O_22 e0 b R0) (yR rfl (m_ (iV S) (eh b0)) (yR rfl (yIa SL_22 e0 e0 b (rdI x) f8) (yR rfl (yI O_3 e0 b (rdI x) f8) (yR rfl (yFb FL_91_2 (eh a4)) (yR rfl (lb_ l.v O_22 e0 b R0) (yR rfl (m_ (iV S) (eh b0)) (yR rfl (yadd e0 rfl) (yR rfl (yIa SL_22 e0 e0 b (rdI x) f9) (yR rfl (yI O_3 e0 b (rdI x) f9) (yR rfl (ygtr e0 e0) (Rn QSn ?_)))))))))))))
    refine r0 _ _ ?_
    refine cIf e0 E (fun r1 E=>?_) fun r1 E=>?_
    ·refine sR fun _ r2=>Ya (iV 1) rfl (wK r2 (wp_ret (f7 _ _ _ (q9 _ _ _ rfl ?_))))
     cases E
     exact f6 _ _ _ _ rfl rfl (p8 _ _ rfl (b.pk 1 [] rfl) (f5 _ rfl))
    ·refine wp_skip (f7 _ _ _ (q8 _ _ (wR (Ym (iV S) (eh b0) (yY (yadd e0 rfl) (Ya (iV (wa .i64 S 1)) e0 (wN ?_)))))))
     cases E
     exact q0 _ _ _ rfl ⟨_,_,rfl,rfl,a4,rfl,b⟩
   ·refine wp_exit (q5 _ _ _ rfl ?_)
    cases E
    exact f6 _ _ _ _ rfl rfl (j8 _ _ a4 b (f5 _ rfl))
theorem sparseref13_none_ok {h:Int} {out:LI} (j:sparseref13_none h=some out) (b:St w0 ros rs w):
  Calls Tryz.prog 106 #[iV h] w (fun e w=>∃ (o:Hdr),e=.returned (o.v)∧St w0 ros (row 3 I1 o.v out::rs) w):=by
 refine enterQ Tryz.func106 rfl Tryz.ntmps106 rfl fun Q t=>sR fun _ u=>Ya hnil.v rfl (wK u (sR fun _ x=>Ya hnil.v rfl (wK x (sQ fun _ y=>sR fun _ z=>?_))))
 refine Ya (iV 0) rfl (wK z (blockQ fun A B=>bE j fun C D j=>?_))
 have E:∀ (k:LI) (g:Hdr) (f:FV) w,f 3=g.v→St w0 ros (row 3 I1 g.v k::rs) w→k=C→A (.exit 0) (fr 14 f) w:=by
  intro k g f w F b ho
  subst ho
  refine B _ _ _ (y _ _ (sR fun _ G=>Ym g.v (eh F) (Ya g.v e0 (wK G (wp_ret ?_)))))
  cases j
  exact t _ _ _ (fin1r Tryz.results106 ⟨rfl,rfl⟩ ⟨_,rfl,b⟩)
 replace b:=b.rowNh 3 I1
 refine loopQ (fun s a w=>∃ (m:LI) (d:Int) (f:FV) (i:Hdr),(m,d)=s∧a=fr 14 f∧f 0=iV h∧f 3=i.v∧f 4=iV d∧St w0 ros (row 3 I1 i.v m::rs) w) D ⟨_,_,_,_,rfl,rfl,rfl,rfl,rfl,b⟩ ?_
 rintro _ _ w V ⟨m,d,f,i,rfl,rfl,p,q,r,b⟩ c H W I J
 refine seqQ fun X K L=>sR fun _ N=>Ym (iV d) (eh r) (Ym (iV h) (eh p) (yY (ylss e0 e0) (wK N ?_)))
 refine cIf e0 c (fun O c=>?_) fun O c=>?_
 ·refine wp_skip (K _ _ (sQ fun _ R=>blockQ fun _ S=>wR (Ym i.v (eh q) (yH (rLt (n:=1) (l:=[(-1)]) b SL_22 [iV (-1)] (bp1 rfl) rfl rfl (mks1 (cs:=[iV (-1)]) rfl mkI mks0)) fun Z w b=>bE c fun a0 T c=>yH (rAp (b.pk 2 [1,0] rfl) SL_22 e0 e0 rO1 T) fun U w b=>Ya U.v e0 (wN (S _ _ _ ?_))))))
  refine R _ _ (wR (Ym (iV d) (eh r) (yY (yadd e0 rfl) (Ya (iV (wa .i64 d 1)) e0 (wN ?_)))))
  cases c
  exact I _ _ _ rfl ⟨_,_,_,_,rfl,rfl,p,rfl,rfl,(b.pk 2 [0] rfl)⟩
 ·refine wp_exit (L _ _ _ rfl ?_)
  cases c
  exact J _ _ _ _ rfl rfl (E _ _ _ _ q b (H _ rfl))
theorem sparseref13_Search_Try_step {rec:Int→Int→LI→LI→LI→LI→LI→(List Bool)→Int→Option (LI×LI×(List Bool)×Bool)} (c3:∀ {w0:World} {ros:List Fact} {rs:List Res} {w:World} {n o:Int} {z A B C D:LI} {E:List Bool} {k:Int} {d:Nat} {l m p g j h:Hdr} {out:LI×LI×(List Bool)×Bool} (u:rec n o z A B C D E k=some out) (y:imm I1 l.v z∈ros) (G:imm I1 m.v A∈ros) (a4:imm (rI .u64) p.v B∈ros) (b:St w0 ros (box d 133 [iV n,iV o,l.v,m.v,p.v,g.v,j.v,h.v]::row 3 I1 g.v C::row 3 I1 j.v D::row 4 rB h.v E::rs) w),Calls Tryz.prog 107 #[(pB d),iV k] w (fun e w=>e=.returned (.bool out.2.2.2)∧St w0 ros (row 3 I1 g.v out.1::row 3 I1 j.v out.2.1::row 4 rB h.v out.2.2.1::box d 133 [iV n,iV o,l.v,m.v,p.v,g.v,j.v,h.v]::rs) w)) {w0:World} {ros:List Fact} {rs:List Res} {w:World} {n o:Int} {z A B C D:LI} {E:List Bool} {k:Int} {d:Nat} {l m p g j h:Hdr} {out:LI×LI×(List Bool)×Bool} (u:sparseref13_Search_Try_body rec n o z A B C D E k=some out) (y:imm I1 l.v z∈ros) (G:imm I1 m.v A∈ros) (a4:imm (rI .u64) p.v B∈ros) (b:St w0 ros (box d 133 [iV n,iV o,l.v,m.v,p.v,g.v,j.v,h.v]::row 3 I1 g.v C::row 3 I1 j.v D::row 4 rB h.v E::rs) w):
  Calls Tryz.prog 107 #[(pB d),iV k] w (fun e w=>e=.returned (.bool out.2.2.2)∧St w0 ros (row 3 I1 g.v out.1::row 3 I1 j.v out.2.1::row 4 rB h.v out.2.2.1::box d 133 [iV n,iV o,l.v,m.v,p.v,g.v,j.v,h.v]::rs) w):=by
 refine enterQ Tryz.func107 rfl Tryz.ntmps107 rfl fun Q a5=>sR fun _ c4=>Ya (.bool false) rfl (wK c4 (seqQ fun g2 c5 c6=>sR fun _ c7=>Ym (pB d) e0 (yY (yn e0) (yY (yFb FL_133_0 e0) (yY (yFb FL_91_2 e0) (yY (lb_ l.v O_22 e0 b R0) ?_))))))
 refine Ym (iV k) e0 (bE u fun c8 a6 u=>yY (yIa SL_22 e0 e0 b (rdI y) a6) (yY (yI O_3 e0 b (rdI y) a6) (Ya (iV c8) e0 (wK c7 (blockQ fun a7 a8=>bE u fun a9 c9 u=>?_)))))
 have d0:∀ (K L:LI) (N:List Bool) (f:FV) w,St w0 ros (row 3 I1 g.v K::row 3 I1 j.v L::row 4 rB h.v N::box d 133 [iV n,iV o,l.v,m.v,p.v,g.v,j.v,h.v]::rs) w→.inl (K,L,N)=a9→a7 (.exit 0) (fr 82 f) w:=by
  intro K L N f w b ho
  subst ho
  refine a8 _ _ _ (c5 _ _ (sR fun _ d1=>Ya (.bool false) rfl (wK d1 (wp_ret ?_))))
  cases u
  exact a5 _ _ _ (fin1r Tryz.results107 ⟨rfl,rfl⟩ ⟨rfl,b⟩)
 have d2:∀ (O R:LI) (S:List Bool) (f:FV) w,f 4=.bool true→St w0 ros (row 3 I1 g.v O::row 3 I1 j.v R::row 4 rB h.v S::box d 133 [iV n,iV o,l.v,m.v,p.v,g.v,j.v,h.v]::rs) w→.inr (O,R,S)=a9→a7 .ret (fr 82 f) w:=by
  intro O R S f w d3 b ho
  subst ho
  refine a8 _ _ _ (c6 _ _ _ rfl ?_)
  cases u
  exact a5 _ _ _ (fin1r Tryz.results107 ⟨rfl,d3⟩ ⟨rfl,b⟩)
 refine loopQ (fun s a w=>∃ (T U:LI) (V:List Bool) (q:Int) (f:FV),(T,U,V,q)=s∧a=fr 82 f∧f 0=(pB d)∧f 1=iV k∧f 5=iV q∧St w0 ros (row 3 I1 g.v T::row 3 I1 j.v U::row 4 rB h.v V::box d 133 [iV n,iV o,l.v,m.v,p.v,g.v,j.v,h.v]::rs) w) c9 ⟨_,_,_,_,_,rfl,rfl,rfl,rfl,rfl,(b.pk 4 [1,1,1,0] rfl)⟩ ?_
 rintro _ _ w d4 ⟨T,U,V,q,f,rfl,rfl,r,H,F,b⟩ c b0 g3 d5 b2
 refine seqQ fun g4 d6 d7=>sR fun _ d8=>Ym (iV q) (eh F) (Ym (pB d) (eh r) (yY (yn e0) (yY (yFb FL_133_0 e0) (yY (yFb FL_91_2 e0) (yY (lb_ l.v O_22 e0 b R3) (Ym (iV k) (eh H) (yY (yadd e0 rfl) (bE c fun g5 b3 c=>yY (yIa SL_22 e0 e0 b (rdI y) b3) (yY (yI O_3 e0 b (rdI y) b3) ?_)))))))))
 refine yY (ylss e0 e0) (wK d8 ?_)
 refine cIf e0 c (fun d9 c=>?_) fun d9 c=>?_
 ·refine wp_skip (d6 _ _ (seqQ fun e1 e2 e3=>?_))
  have b4:∀ (W X:LI) (Z:List Bool) (f:FV) w,f 0=(pB d)→f 1=iV k→f 5=iV q→St w0 ros (row 3 I1 g.v W::row 3 I1 j.v X::row 4 rB h.v Z::box d 133 [iV n,iV o,l.v,m.v,p.v,g.v,j.v,h.v]::rs) w→sparseref13_Search_Try_j12 q W X Z=some d4→e1 .normal (fr 82 f) w:=by
   intro W X Z f w e4 e5 e6 b u
   refine e2 _ _ (wR (Ym (iV q) (eh e6) (yY (yadd e0 rfl) (Ya (iV (wa .i64 q 1)) e0 (wN ?_)))))
   cases u
   exact d5 _ _ _ rfl ⟨_,_,_,_,_,rfl,rfl,e4,e5,rfl,b⟩
  refine blockQ fun _ a0=>sR fun _ e7=>Ym (pB d) (eh r) (yY (yn e0) (yY (yFb FL_133_0 e0) (yY (yFb FL_91_3 e0) (yY (lb_ m.v O_22 e0 b R3) (Ym (iV q) (eh F) (bE c fun t b5 c=>yY (yIa SL_22 e0 e0 b (rdI G) b5) (yY (yI O_3 e0 b (rdI G) b5) (Ya (iV t) e0 (wN ?_)))))))))
  refine e7 _ _ (seqQ fun g6 e8 e9=>sR fun _ f0=>Ym (pB d) (eh r) (yY (yn e0) (yY (yFb FL_133_3 e0) (yY (lb_ h.v O_93 e0 b R3) (Ym (iV t) e0 (bE c fun g7 b6 c=>yY (yIa SL_93 e0 e0 b rO2 b6) (yY (yB O_4 e0 b rO2 b6) (wK f0 (cB e0 c (fun f1 c=>?_) fun f1 c=>?_)))))))))
  ·exact wp_exit (e9 _ _ _ rfl (a0 _ _ _ (b4 _ _ _ _ _ r H F b c)))
  ·refine wp_skip (e8 _ _ (sR fun _ f2=>Ym (pB d) (eh r) (yY (yn e0) (yY (yFb FL_133_3 e0) (yY (lb_ h.v O_93 e0 b R3) (Ym (iV t) e0 (bE c fun g8 b7 c=>yY (yIs SL_93 e0 e0 b rO2 b7) (yT (r_sti (cs:=[.bool true]) (b.pk 3 [2,0,0] rfl) O_4 rfl e0 rfl rfl mkB b7) fun w b=>wN ?_))))))))
   refine f2 _ _ (sR fun _ f3=>Ym (pB d) (eh r) (yY (yn e0) (yY (yFb FL_133_1 e0) (yY (lb_ g.v O_22 e0 b R3) (Ym (iV t) e0 (bE c fun f4 b8 c=>yY (yIa SL_22 e0 e0 b rO1 b8) (yY (yI O_3 e0 b rO1 b8) (yY (ylss e0 rfl) (Ym (.bool (decide (f4 < 0))) e0 (bE c fun I x c=>?_))))))))))
   refine joinW 10 (fun f w=>f 0=(pB d)∧f 1=iV k∧f 5=iV q∧f 6=iV t∧f 67=.bool I.1∧St w0 ros (row 3 I1 g.v I.2.1::row 3 I1 j.v I.2.2.1::row 4 rB h.v I.2.2.2::box d 133 [iV n,iV o,l.v,m.v,p.v,g.v,j.v,h.v]::rs) w) (fun b9=>?_) ?_
   ·rcases iteS x with ⟨i,x⟩ | ⟨i,x⟩
    ·refine gN (dT i) (gN (dT i) (gN (dT i) (gN (dT i) (gN (dT i) (gN (dT i) (gN (dT i) (gN (dT i) (gN (dT i) (yY (pt_ (.bool true) e0 (dT i) rfl) ?_)))))))))
     cases x
     exact b9 _ _ ⟨r,H,F,rfl,rfl,(b.pk 4 [1,1,0,0] rfl)⟩
    ·refine yG (dF i) (m_ (pB d) (eh r)) (yG (dF i) (m_ (pB d) (eh r)) (yG (dF i) (yn e0) (yG (dF i) (yFb FL_133_1 e0) (yG (dF i) (lb_ g.v O_22 e0 b R3) (yG (dF i) (m_ (iV t) e0) (bE x fun g9 c0 x=>yG (dF i) (yIa SL_22 e0 e0 b rO1 c0) (yG (dF i) (yI O_3 e0 b rO1 c0) (bE x fun f5 f6 x=>?_))))))))
     replace b:=b.pk 4 [3,1,1,0] rfl
     refine Yc (wG (dF i)) rfl (yCall FN_107 (a2 e0 e0)) (c3 f6 y G a4 b) ?_
     rintro _ w ⟨rfl,b⟩
     refine ⟨_,rfl,?_⟩
     refine yY (pf_ (.bool f5.2.2.2) e0 (dF i) e0) ?_
     cases x
     exact b9 _ _ ⟨r,H,F,rfl,rfl,b⟩
   rintro f w ⟨a1,J,f7,a3,f8,b⟩
   refine wK f3 (cB (eh f8) c (fun f9 c=>?_) fun f9 c=>?_)
   ·refine sQ fun _ g0=>bE c fun h0 c1 c=>bE c fun h1 c2 c=>dR [0,1,3,7,0,0,32,96,224,0,0,0,1535,5631,16383,32767] [13,15] 2 folM ?_
    replace b:=b.drew
    refine Dn [0,1,2,3,4,5,6,7,8,9,10,11,12] [] [13] (yR rfl (m_ (pB d) (eh a1)) (yR rfl (yn e0) (yR rfl (yFb FL_133_1 e0) (yR rfl (lb_ g.v O_22 e0 b R3) (yR rfl (m_ (iV t) (eh a3)) (yR rfl (m_ (pB d) (eh a1)) (yR rfl (yn e0) (yR rfl (yFb FL_133_2 e0) (yR rfl (lb_ j.v O_22 e0 b R3) (yR rfl (m_ (iV k) (eh J)) (yR rfl (m_ (iV k) (eh J)) (yR rfl (m_ (iV t) (eh a3)) (yR rfl (yIs SL_22 e0 e0 b rO0 c1) ?_)))))))))))))
    refine Rn QSn ?_
    refine Lc1 rfl ?_
    refine LT wn (r_sti (cs:=[iV k]) b O_3 rfl e0 e0 rfl mkI c1) fun w b=>Dn [14] [9,11] [15] (yR rfl (yIs SL_22 e0 e0 b rO1 c2) (Rn (yS rfl (m_ (iV k) (eh J)) (yS rfl (m_ (iV t) (eh a3)) QSn)) ?_))
    refine Lc1 rfl ?_
    replace b:=b.pk 2 [1,0] rfl
    refine LT wn (r_sti (cs:=[iV t]) b O_3 rfl e0 e0 rfl mkI c2) fun w b=>Dz [] [] (Rn QSn (g0 _ _ (sR fun _ g1=>Ya (.bool true) rfl (wK g1 (wp_ret (a0 _ _ _ (e3 _ _ _ rfl ?_)))))))
    cases c
    exact b2 _ _ _ _ rfl rfl (d2 _ _ _ _ _ rfl (b.pk 4 [1,0,0,0] rfl) (b0 _ rfl))
   ·exact wp_skip (a0 _ _ _ (b4 _ _ _ _ _ a1 J f7 b c))
 ·refine wp_exit (d7 _ _ _ rfl ?_)
  cases c
  exact b2 _ _ _ _ rfl rfl (d0 _ _ _ _ _ b (b0 _ rfl))
theorem sparseref13_Search_Try_ok_n (n:Nat):∀ {w0:World} {ros:List Fact} {rs:List Res} {w:World} {f g:Int} {l m o p q:LI} {r:List Bool} {s:Int} {h:Nat} {i j k a b c:Hdr} {out:LI×LI×(List Bool)×Bool} (d:sparseref13_Search_Try n f g l m o p q r s=some out) (t:imm I1 i.v l∈ros) (u:imm I1 j.v m∈ros) (x:imm (rI .u64) k.v o∈ros) (y:St w0 ros (box h 133 [iV f,iV g,i.v,j.v,k.v,a.v,b.v,c.v]::row 3 I1 a.v p::row 3 I1 b.v q::row 4 rB c.v r::rs) w),
  Calls Tryz.prog 107 #[(pB h),iV s] w (fun e w=>e=.returned (.bool out.2.2.2)∧St w0 ros (row 3 I1 a.v out.1::row 3 I1 b.v out.2.1::row 4 rB c.v out.2.2.1::box h 133 [iV f,iV g,i.v,j.v,k.v,a.v,b.v,c.v]::rs) w):=by
 induction n with
 | zero=>intro _ _ _ _ _ _ _ _ _ _ _ _ _ _ _ _ _ _ _ _ out d; cases d
 | succ n ih=>exact fun d t u x y=>sparseref13_Search_Try_step (rec:=sparseref13_Search_Try n) ih d t u x y
theorem sparseref13_Search_Try_ok {d f:Int} {k l m n o:LI} {p:List Bool} {q:Int} {g:Nat} {h i j a b c:Hdr} {out:LI×LI×(List Bool)×Bool} (r:sparseref13_Search_Try FUEL d f k l m n o p q=some out) (s:imm I1 h.v k∈ros) (t:imm I1 i.v l∈ros) (u:imm (rI .u64) j.v m∈ros) (x:St w0 ros (box g 133 [iV d,iV f,h.v,i.v,j.v,a.v,b.v,c.v]::row 3 I1 a.v n::row 3 I1 b.v o::row 4 rB c.v p::rs) w):
  Calls Tryz.prog 107 #[(pB g),iV q] w (fun e w=>e=.returned (.bool out.2.2.2)∧St w0 ros (row 3 I1 a.v out.1::row 3 I1 b.v out.2.1::row 4 rB c.v out.2.2.1::box g 133 [iV d,iV f,h.v,i.v,j.v,a.v,b.v,c.v]::rs) w):=sparseref13_Search_Try_ok_n FUEL r s t u x
theorem sparseref13_Find_ok {d c:Int} {D E F:LI} {g h i:Hdr} {out:LI×LI×(List Bool)} (n:sparseref13_Find d c D E F=some out) (L:imm I1 g.v D∈ros) (N:imm I1 h.v E∈ros) (O:imm (rI .u64) i.v F∈ros) (b:St w0 ros rs w):
  Calls Tryz.prog 89 #[.agg #[iV d,iV c,g.v,h.v,i.v]] w (fun e w=>∃ (G:Nat) (H I J:Hdr),e=.returned (pB G)∧St w0 ros (row 3 I1 H.v out.1::row 3 I1 I.v out.2.1::row 4 rB J.v out.2.2::box G 133 [iV d,iV c,g.v,h.v,i.v,H.v,I.v,J.v]::rs) w):=by
 refine enterQ Tryz.func89 rfl Tryz.ntmps89 rfl fun Q R=>sR fun _ S=>yBb (r_box (vals:=[iV d,iV c,g.v,h.v,i.v]) b e0 rfl) fun K w b=>Ya (.pointer none) rfl (wK S (sQ fun _ T=>bE n fun c2 U n=>bE n fun c3 V n=>dR [0,0,2,6,0,16,62,127,255,511] [3,6,8,9] 4 folM ?_))
 replace b:=b.drew
 refine Dn [0,1,2,4,5] [] [3] (yR rfl (lbs_ [iV d,iV c,g.v,h.v,i.v] ST_91 e0 b R0) (yR rfl (yFb FL_91_0 e0) (yR rfl (lb_ (iV d) O_3 e0 b R0) (yR rfl (yFb FL_91_1 e0) (yR rfl (lb_ (iV c) O_3 e0 b R0) (Rn QSn ?_))))))
 refine Lc1 rfl ?_
 refine Lk wn (yCall FN_106 (a1 e0)) (sparseref13_none_ok U b) ?_
 rintro _ w ⟨l,rfl,b⟩
 refine ⟨_,rfl,?_⟩
 refine Dn [] [0,4,5] [6] (Rn (yS rfl (lbs_ [iV d,iV c,g.v,h.v,i.v] ST_91 e0 b R1) (yS rfl (yFb FL_91_1 e0) (yS rfl (lb_ (iV c) O_3 e0 b R1) QSn))) ?_)
 refine Lc1 rfl ?_
 refine Lk wn (yCall FN_106 (a1 e0)) (sparseref13_none_ok V b) ?_
 rintro _ w ⟨m,rfl,b⟩
 refine ⟨_,rfl,?_⟩
 refine Dn [7] [0] [8] (yR rfl (ybuild (us:=[iV d,iV c,g.v,h.v,i.v,l.v,m.v,hnil.v]) [(0,.agg #[iV d,iV c,g.v,h.v,i.v]),(1,l.v),(2,m.v)] SO_133 (bp3 e0 e0 e0) rfl) (Rn (yS rfl (lbs_ [iV d,iV c,g.v,h.v,i.v] ST_91 e0 b R2) QSn) ?_))
 refine Lc1 rfl ?_
 refine LB wn (r_box (vals:=[iV d,iV c,g.v,h.v,i.v,l.v,m.v,hnil.v]) b e0 rfl) fun j w b=>Dn [] [] [9] (Rn QSn ?_)
 refine Lc1 rfl ?_
 refine Ly wn (a_ (pB j) e0) (Dz [] [] (Rn QSn (T _ _ (sQ fun _ W=>sR fun _ X=>Ya (iV 0) rfl (wK X (blockQ fun Z a0=>bE n fun a3 a4 n=>?_))))))
 have a5:∀ (q r:LI) (t:List Bool) (u:Hdr) (f:FV) w,f 3=(pB j)→St w0 ros (row 3 I1 l.v q::row 3 I1 m.v r::row 4 rB u.v t::box j 133 [iV d,iV c,g.v,h.v,i.v,l.v,m.v,u.v]::rs) w→(q,r,t)=a3→Z (.exit 0) (fr 30 f) w:=by
  intro q r t u f w a6 b ho
  subst ho
  refine a0 _ _ _ (W _ _ (sR fun _ a7=>Ym (pB j) (eh a6) (Ya (pB j) e0 (wK a7 (wp_ret ?_)))))
  cases n
  exact R _ _ _ (fin1r Tryz.results89 ⟨rfl,rfl⟩ ⟨_,_,_,_,rfl,b⟩)
 replace b:=b.rowNh 4 rB
 refine loopQ (fun s a w=>∃ (x y:LI) (z:List Bool) (o:Int) (f:FV) (A:Hdr),(x,y,z,o)=s∧a=fr 30 f∧f 1=(pB K)∧f 3=(pB j)∧f 4=iV o∧St w0 ros (box K 91 [iV d,iV c,g.v,h.v,i.v]::row 3 I1 l.v x::row 3 I1 m.v y::row 4 rB A.v z::box j 133 [iV d,iV c,g.v,h.v,i.v,l.v,m.v,A.v]::rs) w) a4 ⟨_,_,_,_,_,_,rfl,rfl,rfl,rfl,rfl,(b.pk 5 [4,3,2,0,0] rfl)⟩ ?_
 rintro _ _ w c4 ⟨x,y,z,o,f,A,rfl,rfl,B,p,C,b⟩ k a8 c5 a9 b0
 refine seqQ fun c6 b1 b2=>sR fun _ b3=>Ym (iV o) (eh C) (yY (yFb FL_91_1 (eh B)) (yY (lb_ (iV c) O_3 e0 b R0) (yY (ylss e0 e0) (wK b3 ?_))))
 refine cIf e0 k (fun b4 k=>?_) fun b4 k=>?_
 ·refine wp_skip (b1 _ _ (sQ fun _ b5=>blockQ fun _ b6=>sR fun _ b7=>Ym (pB j) (eh p) (yY (yFb FL_91_0 (eh B)) (yY (lb_ (iV d) O_3 e0 b R0) (bE k fun c7 b8 k=>yH (rMk b SL_93 e0 b8) fun c0 w b=>yY (yn e0) (yY (yFb FL_133_3 e0) ?_))))))
  refine yT (r_stb1 (vals':=[iV d,iV c,g.v,h.v,i.v,l.v,m.v,c0.v]) (b.pk 6 [5,0,0,0,0,0] rfl) O_93 e0 e0 rfl rfl rfl rfl) fun w b=>wK b7 (wR (Ym (pB j) (eh p) (Ym (iV o) (eh C) (bE k fun c8 c1 k=>?_))))
  replace b:=b.pk 5 [0,2,2,0,0] rfl
  refine yC (yCall FN_107 (a2 e0 e0)) (sparseref13_Search_Try_ok c1 L N O b) ?_
  rintro _ w ⟨rfl,b⟩
  refine ⟨_,rfl,?_⟩
  refine wN (b6 _ _ _ (b5 _ _ (wR (Ym (iV o) (eh C) (yY (yadd e0 rfl) (Ya (iV (wa .i64 o 1)) e0 (wN ?_)))))))
  cases k
  exact a9 _ _ _ rfl ⟨_,_,_,_,_,_,rfl,rfl,B,p,rfl,(b.pk 6 [4,0,0,0,0] rfl)⟩
 ·refine wp_exit (b2 _ _ _ rfl ?_)
  cases k
  exact b0 _ _ _ _ rfl rfl (a5 _ _ _ _ _ _ p (b.pk 5 [1,1,1,1] rfl) (a8 _ rfl))
end Go.Proofs.YthpeajepbffinaaGreat
