/- Walks: each function computes its model, printed. -/
import Derived.Test.YthpeajepbffinaaGreatW5
namespace Go.Proofs.YthpeajepbffinaaGreat
open Go Sx M
set_option maxRecDepth 100000
set_option maxHeartbeats 40000000
set_option linter.unusedVariables false
attribute [local irreducible] wpList Code.wp Calls DR QR QS LA LS St
variable {w0:World} {ros:List Fact} {rs:List Res} {w:World}
theorem sparseref13_Reach_ok {u o:Int} {c4 c5 c6 z A:LI} {B:List Bool} {c:Nat} {x y C h i j:Hdr} {out:(List Bool)×(List Bool)} (q:sparseref13_Reach u o c4 c5 c6 z A B=some out) (R:imm I1 x.v c4∈ros) (c7:imm I1 y.v c5∈ros) (o6:imm (rI .u64) C.v c6∈ros) (b:St w0 ros (box c 133 [iV u,iV o,x.v,y.v,C.v,h.v,i.v,j.v]::row 3 I1 h.v z::row 3 I1 i.v A::row 4 rB j.v B::rs) w):
  Calls Tryz.prog 88 #[(pB c)] w (fun e w=>∃ (c8 c9:Hdr),e=.returned (.tuple #[c8.v,c9.v])∧St w0 ros (row 3 I1 h.v z::row 3 I1 i.v A::row 4 rB j.v B::box c 133 [iV u,iV o,x.v,y.v,C.v,h.v,i.v,j.v]::row 4 rB c8.v out.1::row 4 rB c9.v out.2::rs) w):=by
 refine enterQ Tryz.func88 rfl Tryz.ntmps88 rfl fun Q f5=>sR fun _ k1=>Ya hnil.v rfl (Ya hnil.v rfl (wK k1 (sQ fun _ f6=>bE q fun a2 d0 q=>bE q fun f7 a3 q=>?_)))
 refine joinN (n:=119) (fun f w=>∃ (k g:Hdr),f 0=(pB c)∧f 4=k.v∧f 5=g.v∧St w0 ros (row 3 I1 h.v z::row 3 I1 i.v A::row 4 rB j.v B::box c 133 [iV u,iV o,x.v,y.v,C.v,h.v,i.v,j.v]::row 4 rB k.v a2::row 4 rB g.v f7::rs) w) (fun a4=>?_) ?_
 ·refine dR [0,1,3,7,15,31,0,64,192,448,960,1984,63,8191] [5,11,12,13] 4 folM ?_
  replace b:=b.drew
  refine Dn [0,1,2,3,4,6,7,8,9,10] [] [5,11] (yR rfl (m_ (pB c) e0) (yR rfl (yn e0) (yR rfl (yFb FL_133_0 e0) (yR rfl (yFb FL_91_0 e0) (yR rfl (lb_ (iV u) O_3 e0 b R0) (yR rfl (m_ (pB c) e0) (yR rfl (yn e0) (yR rfl (yFb FL_133_0 e0) (yR rfl (yFb FL_91_1 e0) (yR rfl (lb_ (iV o) O_3 e0 b R0) (Rn QSn ?_)))))))))))
  refine Lc rfl ?_ (Lc1 rfl ?_)
  ·refine LH wn (rMk b SL_93 e0 d0) fun S w b=>Dn [] [6,7,8,9,10] [11,12] (Rn (yS rfl (m_ (pB c) e0) (yS rfl (yn e0) (yS rfl (yFb FL_133_0 e0) (yS rfl (yFb FL_91_1 e0) (yS rfl (lb_ (iV o) O_3 e0 b R1) QSn))))) ?_)
   refine Lc rfl ?_ (Lc1 rfl ?_)
   ·refine LH wn (rMk b SL_93 e0 a3) fun L w b=>Dn [] [] [12] (Rn QSn ?_)
    refine Lc1 rfl ?_
    refine Ly wn (a_ S.v e0) (Dn [] [] [13] (Rn QSn ?_))
    refine Lc1 rfl ?_
    exact Ly wn (a_ L.v e0) (Dz [] [] (Rn QSn (a4 _ _ ⟨_,_,rfl,rfl,rfl,(b.pk 6 [3,3,3,2,1,0] rfl)⟩)))
   refine Ly wn (a_ S.v e0) (Dn [] [6,7,8,9,10] [11] (Rn (yS rfl (m_ (pB c) e0) (yS rfl (yn e0) (yS rfl (yFb FL_133_0 e0) (yS rfl (yFb FL_91_1 e0) (yS rfl (lb_ (iV o) O_3 e0 b R1) QSn))))) ?_))
   refine Lc1 rfl ?_
   refine LH wn (rMk b SL_93 e0 a3) fun L w b=>Dn [] [] [13] (Rn QSn ?_)
   refine Lc1 rfl ?_
   exact Ly wn (a_ L.v e0) (Dz [] [] (Rn QSn (a4 _ _ ⟨_,_,rfl,rfl,rfl,(b.pk 6 [3,3,3,2,1,0] rfl)⟩)))
  refine LH wn (rMk b SL_93 e0 a3) fun L w b=>Dn [] [0,1,2,3,4] [5] (Rn (yS rfl (m_ (pB c) e0) (yS rfl (yn e0) (yS rfl (yFb FL_133_0 e0) (yS rfl (yFb FL_91_0 e0) (yS rfl (lb_ (iV u) O_3 e0 b R1) QSn))))) ?_)
  refine Lc1 rfl ?_
  refine LH wn (rMk b SL_93 e0 d0) fun S w b=>Dn [] [] [12] (Rn QSn ?_)
  refine Lc1 rfl ?_
  refine Ly wn (a_ S.v e0) (Dn [] [] [13] (Rn QSn ?_))
  refine Lc1 rfl ?_
  exact Ly wn (a_ L.v e0) (Dz [] [] (Rn QSn (a4 _ _ ⟨_,_,rfl,rfl,rfl,(b.pk 6 [3,3,3,2,0,0] rfl)⟩)))
 rintro f w ⟨k,g,f8,f9,g0,b⟩
 refine f6 _ _ (sR fun _ g1=>Ya hnil.v rfl (wK g1 (sQ fun _ g2=>sR fun _ g3=>Ya (iV 0) rfl (wK g3 (blockQ fun _ g4=>bE q fun o7 g5 q=>?_)))))
 replace b:=b.rowNh 3 I1
 refine loopQ (fun s a w=>∃ (a5:List Bool) (a6:LI) (p:Int) (f:FV) (T:Hdr),(a5,a6,p)=s∧a=fr 119 f∧f 0=(pB c)∧f 4=k.v∧f 5=g.v∧f 6=T.v∧f 7=iV p∧St w0 ros (row 3 I1 h.v z::row 3 I1 i.v A::row 4 rB j.v B::box c 133 [iV u,iV o,x.v,y.v,C.v,h.v,i.v,j.v]::row 4 rB k.v a2::row 4 rB g.v a5::row 3 I1 T.v a6::rs) w) g5 ⟨_,_,_,_,_,rfl,rfl,f8,f9,g0,rfl,rfl,(b.pk 7 [1,1,1,1,1,1,0] rfl)⟩ ?_
 rintro _ _ w g6 ⟨a5,a6,p,f,T,rfl,rfl,N,a7,U,a8,H,b⟩ m g7 o8 g8 g9
 refine seqQ fun o9 h0 h1=>sR fun _ h2=>Ym (iV p) (eh H) (Ym (pB c) (eh N) (yY (yn e0) (yY (yFb FL_133_0 e0) (yY (yFb FL_91_1 e0) (yY (lb_ (iV o) O_3 e0 b R3) (yY (ylss e0 e0) (wK h2 ?_)))))))
 refine cIf e0 m (fun h3 m=>?_) fun h3 m=>?_
 ·refine wp_skip (h0 _ _ (sQ fun _ h4=>blockQ fun h6 h8=>sR fun _ i0=>Ym (pB c) (eh N) (yY (yn e0) (yY (yFb FL_133_2 e0) (yY (lb_ i.v O_22 e0 b R3) (Ym (iV p) (eh H) (bE m fun p0 d1 m=>yY (yIa SL_22 e0 e0 b rO1 d1) (yY (yI O_3 e0 b rO1 d1) ?_))))))))
  refine yY (ylss e0 rfl) (wK i0 ?_)
  have d2:∀ (a9:List Bool) (b0:LI) (b2:Hdr) (f:FV) w,f 0=(pB c)→f 4=k.v→f 5=g.v→f 6=b2.v→f 7=iV p→St w0 ros (row 3 I1 h.v z::row 3 I1 i.v A::row 4 rB j.v B::box c 133 [iV u,iV o,x.v,y.v,C.v,h.v,i.v,j.v]::row 4 rB k.v a2::row 4 rB g.v a9::row 3 I1 b2.v b0::rs) w→sparseref13_Reach_j27 p a9 b0=some g6→h6 .normal (fr 119 f) w:=by
   intro a9 b0 b2 f w i1 i2 i3 i4 i5 b q
   refine h8 _ _ _ (h4 _ _ (wR (Ym (iV p) (eh i5) (yY (yadd e0 rfl) (Ya (iV (wa .i64 p 1)) e0 (wN ?_))))))
   cases q
   exact g8 _ _ _ rfl ⟨_,_,_,_,_,rfl,rfl,i1,i2,i3,i4,rfl,b⟩
  refine cIf e0 m (fun i6 m=>?_) fun i6 m=>?_
  ·refine sR fun _ i7=>Ym g.v (eh U) (Ym (iV p) (eh H) (bE m fun p1 d3 m=>yY (yIs SL_93 e0 e0 b rO5 d3) (yT (r_sti (cs:=[.bool true]) (b.pk 6 [5,0,0,0,0,0] rfl) O_4 rfl e0 rfl rfl mkB d3) fun w b=>wK i7 (wR (Ym T.v (eh a8) (Ym (iV p) (eh H) (yH (rLt (n:=1) (l:=[p]) b SL_22 [iV p] (bp1 e0) rfl rfl (mks1 (cs:=[iV p]) rfl mkI mks0)) ?_)))))))
   exact fun p2 w b=>bE m fun p3 i8 m=>yH (rAp (b.pk 8 [7,0,0,0,0,0,0,0] rfl) SL_22 e0 e0 rO1 i8) fun i9 w b=>Ya i9.v e0 (wN (d2 _ _ _ _ _ N a7 U rfl H (b.pk 8 [3,3,3,3,3,2,0] rfl) m))
  exact wp_skip (d2 _ _ _ _ _ N a7 U a8 H b m)
 refine wp_exit (h1 _ _ _ rfl ?_)
 cases m
 refine g9 _ _ _ _ rfl rfl ?_
 obtain rfl:=g7 _ rfl
 refine g4 _ _ _ (g2 _ _ (sQ fun _ j0=>blockQ fun _ j2=>bE q fun p4 j3 q=>?_))
 refine loopQ (fun s a w=>∃ (b3 b4:List Bool) (V:LI) (f:FV) (F:Hdr),(b3,b4,V)=s∧a=fr 119 f∧f 0=(pB c)∧f 4=k.v∧f 5=g.v∧f 6=F.v∧St w0 ros (row 3 I1 h.v z::row 3 I1 i.v A::row 4 rB j.v B::box c 133 [iV u,iV o,x.v,y.v,C.v,h.v,i.v,j.v]::row 4 rB k.v b3::row 4 rB g.v b4::row 3 I1 F.v V::rs) w) j3 ⟨_,_,_,_,_,rfl,rfl,N,a7,U,a8,b⟩ ?_
 rintro _ _ w p5 ⟨b3,b4,V,f,F,rfl,rfl,d4,d5,d6,O,b⟩ r j4 p6 j6 j7
 refine seqQ fun p7 j8 j9=>sR fun _ k0=>Ym F.v (eh O) (yY (yLen SL_22 e0 b rO6) (yY (ygtr e0 rfl) (wK k0 ?_)))
 refine cIf e0 r (fun k6 r=>?_) fun k6 r=>?_
 ·refine wp_skip (j8 _ _ (blockQ fun _ k7=>sR fun _ k8=>Ym F.v (eh O) (Ym F.v (eh O) (yY (yLen SL_22 e0 b rO6) (yY (ysub e0 rfl) (bE r fun I d7 r=>yY (yIa SL_22 e0 e0 b rO6 d7) (yY (yI O_3 e0 b rO6 d7) (Ya (iV I) e0 (wN ?_)))))))))
  refine k8 _ _ (sR fun _ k9=>Ym F.v (eh O) (Ym F.v (eh O) (yY (yLen SL_22 e0 b rO6) (yY (ysub e0 rfl) (bE r fun p8 d8 r=>?_)))))
  replace b:=b.pk 7 [6,0,0,0,0,0,0] rfl
  refine yY (ySl (k1:=.i64) (hi:=(ws .i64 (V.length:Int) 1:Int)) SL_22 e0 b rO0 (.inr ⟨rfl,rfl⟩) (.inl (congrArg some e0)) d8) ?_
  obtain ⟨l0,eh261,b⟩:=b.resl d8
  rw [← eh261]
  refine Ya l0.v e0 (wK k9 (sR fun _ l1=>Ym (pB c) (eh d4) (yY (yn e0) (yY (yFb FL_133_0 e0) (yY (yFb FL_91_2 e0) (yY (lb_ x.v O_22 e0 b R4) (Ym (iV I) e0 (bE r fun l2 d9 r=>yY (yIa SL_22 e0 e0 b (rdI R) d9) (yY (yI O_3 e0 b (rdI R) d9) ?_)))))))))
  refine Ya (iV l2) e0 (wK l1 (blockQ fun _ l3=>bE r fun p9 l4 r=>?_))
  refine loopQ (fun s a w=>∃ (b5 W:List Bool) (X:LI) (D:Int) (f:FV) (J:Hdr),(b5,W,X,D)=s∧a=fr 119 f∧f 0=(pB c)∧f 4=k.v∧f 5=g.v∧f 6=J.v∧f 8=iV I∧f 9=iV D∧St w0 ros (row 3 I1 h.v z::row 3 I1 i.v A::row 4 rB j.v B::box c 133 [iV u,iV o,x.v,y.v,C.v,h.v,i.v,j.v]::row 4 rB k.v b5::row 4 rB g.v W::row 3 I1 J.v X::rs) w) l4 ⟨_,_,_,_,_,_,rfl,rfl,d4,d5,d6,rfl,rfl,rfl,(b.pk 7 [1,1,1,1,1,1,0] rfl)⟩ ?_
  rintro _ _ w l5 ⟨b5,W,X,D,f,J,rfl,rfl,K,Z,a0,b6,b7,a1,b⟩ d l6 q0 l7 l8
  refine seqQ fun q4 l9 m0=>sR fun _ m1=>Ym (iV D) (eh a1) (Ym (pB c) (eh K) (yY (yn e0) (yY (yFb FL_133_0 e0) (yY (yFb FL_91_2 e0) (yY (lb_ x.v O_22 e0 b R3) (Ym (iV I) (eh b7) (yY (yadd e0 rfl) (bE d fun q5 e1 d=>yY (yIa SL_22 e0 e0 b (rdI R) e1) (yY (yI O_3 e0 b (rdI R) e1) ?_)))))))))
  refine yY (ylss e0 e0) (wK m1 ?_)
  refine cIf e0 d (fun m2 d=>?_) fun m2 d=>?_
  ·refine wp_skip (l9 _ _ (sQ fun _ m3=>blockQ fun m4 m5=>sR fun _ m6=>Ym (pB c) (eh K) (yY (yn e0) (yY (yFb FL_133_0 e0) (yY (yFb FL_91_3 e0) (yY (lb_ y.v O_22 e0 b R3) (Ym (iV D) (eh a1) (bE d fun b8 e2 d=>yY (yIa SL_22 e0 e0 b (rdI c7) e2) ?_))))))))
   refine yY (yI O_3 e0 b (rdI c7) e2) (Ya (iV b8) e0 (wK m6 (sR fun _ m7=>Ym k.v (eh Z) (Ym (iV b8) e0 (bE d fun b9 e3 d=>yY (yIs SL_93 e0 e0 b rO4 e3) (yT (r_sti (cs:=[.bool true]) (b.pk 5 [4,0,0,0,0] rfl) O_4 rfl e0 rfl rfl mkB e3) fun w b=>wK m7 ?_))))))
   refine sR fun _ m8=>Ym (pB c) (eh K) (yY (yn e0) (yY (yFb FL_133_1 e0) (yY (lb_ h.v O_22 e0 b R4) (Ym (iV b8) e0 (bE d fun E e4 d=>yY (yIa SL_22 e0 e0 b rO1 e4) (yY (yI O_3 e0 b rO1 e4) (Ya (iV E) e0 (wK m8 (sQ fun _ m9=>?_)))))))))
   refine wR (Ym (iV E) e0 (yY (ygeq e0 rfl) (Ym (.bool (decide ((0:Int)≤E))) e0 (bE d fun n0 G d=>?_))))
   refine joinW 6 (fun f w=>f 0=(pB c)∧f 4=k.v∧f 5=g.v∧f 6=J.v∧f 8=iV I∧f 9=iV D∧f 11=iV E∧f 109=.bool n0∧St w0 ros (row 3 I1 h.v z::row 3 I1 i.v A::row 4 rB j.v B::box c 133 [iV u,iV o,x.v,y.v,C.v,h.v,i.v,j.v]::row 4 rB k.v b9::row 4 rB g.v W::row 3 I1 J.v X::rs) w) (fun e5=>?_) ?_
   ·rcases iteS G with ⟨t,G⟩ | ⟨t,G⟩
    ·refine yG (dT t) (m_ g.v (eh a0)) (yG (dT t) (m_ (iV E) e0) (bE G fun n1 e6 G=>yG (dT t) (yIa SL_93 e0 e0 b rO5 e6) (yG (dT t) (yB O_4 e0 b rO5 e6) (yG (dT t) (ynot e0) (yY (pt_ (.bool (!n1)) e0 (dT t) e0) ?_)))))
     cases G
     exact e5 _ _ ⟨K,Z,a0,b6,b7,a1,rfl,rfl,(b.pk 7 [1,1,1,1,0,0,0] rfl)⟩
    refine gN (dF t) (gN (dF t) (gN (dF t) (gN (dF t) (gN (dF t) (yY (pf_ (.bool false) e0 (dF t) rfl) ?_)))))
    cases G
    exact e5 _ _ ⟨K,Z,a0,b6,b7,a1,rfl,rfl,(b.pk 7 [1,1,1,1,0,0,0] rfl)⟩
   rintro f w ⟨e7,e8,c0,e9,f0,f1,f2,n2,b⟩
   refine wK m9 ?_
   have f3:∀ (c1:List Bool) (c2:LI) (c3:Hdr) (f:FV) w,f 0=(pB c)→f 4=k.v→f 5=g.v→f 6=c3.v→f 8=iV I→f 9=iV D→St w0 ros (row 3 I1 h.v z::row 3 I1 i.v A::row 4 rB j.v B::box c 133 [iV u,iV o,x.v,y.v,C.v,h.v,i.v,j.v]::row 4 rB k.v b9::row 4 rB g.v c1::row 3 I1 c3.v c2::rs) w→sparseref13_Reach_j26 b9 D c1 c2=some l5→m4 .normal (fr 119 f) w:=by
    intro c1 c2 c3 f w n3 n5 n6 n7 n8 n9 b q
    refine m5 _ _ _ (m3 _ _ (wR (Ym (iV D) (eh n9) (yY (yadd e0 rfl) (Ya (iV (wa .i64 D 1)) e0 (wN ?_))))))
    cases q
    exact l7 _ _ _ rfl ⟨_,_,_,_,_,_,rfl,rfl,n3,n5,n6,n7,n8,rfl,b⟩
   refine cB (eh n2) d (fun o0 d=>?_) fun o0 d=>?_
   ·refine sR fun _ o1=>Ym g.v (eh c0) (Ym (iV E) (eh f2) (bE d fun q6 f4 d=>yY (yIs SL_93 e0 e0 b rO5 f4) (yT (r_sti (cs:=[.bool true]) (b.pk 6 [5,0,0,0,0,0] rfl) O_4 rfl e0 rfl rfl mkB f4) fun w b=>wK o1 (wR (Ym J.v (eh e9) (Ym (iV E) (eh f2) (yH (rLt (n:=1) (l:=[E]) b SL_22 [iV E] (bp1 e0) rfl rfl (mks1 (cs:=[iV E]) rfl mkI mks0)) ?_)))))))
    exact fun q7 w b=>bE d fun q8 o2 d=>yH (rAp (b.pk 8 [7,0,0,0,0,0,0,0] rfl) SL_22 e0 e0 rO1 o2) fun o3 w b=>Ya o3.v e0 (wN (f3 _ _ _ _ _ e7 e8 c0 rfl f0 f1 (b.pk 8 [3,3,3,3,3,2,0] rfl) d))
   exact wp_skip (f3 _ _ _ _ _ e7 e8 c0 e9 f0 f1 b d)
  refine wp_exit (m0 _ _ _ rfl ?_)
  cases d
  refine l8 _ _ _ _ rfl rfl ?_
  obtain rfl:=l6 _ rfl
  refine l3 _ _ _ (k7 _ _ _ ?_)
  cases r
  exact j6 _ _ _ rfl ⟨_,_,_,_,_,rfl,rfl,K,Z,a0,b6,b⟩
 refine wp_exit (j9 _ _ _ rfl ?_)
 cases r
 refine j7 _ _ _ _ rfl rfl ?_
 obtain rfl:=j4 _ rfl
 refine j2 _ _ _ (j0 _ _ (sR fun _ o5=>Ym k.v (eh d5) (Ym g.v (eh d6) (Ya k.v e0 (Ya g.v e0 (wK o5 (wp_ret ?_)))))))
 cases q
 exact f5 _ _ _ (fin2r Tryz.results88 ⟨rfl,rfl⟩ ⟨rfl,rfl⟩ ⟨_,_,rfl,(b.pk 7 [0,0,0,0,0,0] rfl)⟩)
theorem sparseref13_Chosen_ok {x:List Bool} {i:Bool} {g:Hdr} {out:LI} (j:sparseref13_Chosen x i=some out) (o:imm rB g.v x∈ros) (b:St w0 ros rs w):
  Calls Tryz.prog 61 #[g.v,.bool i] w (fun e w=>∃ (y:Hdr),e=.returned (y.v)∧St w0 ros (row 3 I1 y.v out::rs) w):=by
 refine enterQ Tryz.func61 rfl Tryz.ntmps61 rfl fun Q B=>sR fun _ C=>Ya hnil.v rfl (wK C (sR fun _ D=>Ya hnil.v rfl (wK D (sQ fun _ E=>sR fun _ F=>?_))))
 refine Ya (iV 0) rfl (wK F (blockQ fun _ G=>bE j fun a6 H j=>?_))
 replace b:=b.rowNh 3 I1
 refine loopQ (fun s a w=>∃ (p:LI) (c:Int) (f:FV) (h:Hdr),(p,c)=s∧a=fr 24 f∧f 0=g.v∧f 1=.bool i∧f 5=h.v∧f 6=iV c∧St w0 ros (row 3 I1 h.v p::rs) w) H ⟨_,_,_,_,rfl,rfl,rfl,rfl,rfl,rfl,b⟩ ?_
 rintro _ _ w I ⟨p,c,f,h,rfl,rfl,m,q,r,k,b⟩ d J a7 K L
 refine seqQ fun a8 N O=>sR fun _ R=>Ym (iV c) (eh k) (Ym g.v (eh m) (yY (yLen SL_93 e0 b (rdI o)) (yY (ylss e0 e0) (wK R ?_))))
 refine cIf e0 d (fun S d=>?_) fun S d=>?_
 ·refine wp_skip (N _ _ (sQ fun _ T=>blockQ fun U V=>sR fun _ W=>Ym g.v (eh m) (Ym (iV c) (eh k) (bE d fun a9 z d=>yY (yIa SL_93 e0 e0 b (rdI o) z) (yY (yB O_4 e0 b (rdI o) z) (Ym (.bool i) (eh q) (yY (yeqb (by kernel_rfl) e0 e0) (wN ?_))))))))
  refine W _ _ ?_
  have A:∀ (t:LI) (u:Hdr) (f:FV) w,f 0=g.v→f 1=.bool i→f 5=u.v→f 6=iV c→St w0 ros (row 3 I1 u.v t::rs) w→sparseref13_Chosen_j4 c t=some I→U .normal (fr 24 f) w:=by
   intro t u f w X Z a0 a1 b j
   refine V _ _ _ (T _ _ (wR (Ym (iV c) (eh a1) (yY (yadd e0 rfl) (Ya (iV (wa .i64 c 1)) e0 (wN ?_))))))
   cases j
   exact K _ _ _ rfl ⟨_,_,_,_,rfl,rfl,X,Z,a0,rfl,b⟩
  refine cB e0 d (fun a2 d=>?_) fun a2 d=>?_
  ·exact wR (Ym h.v (eh r) (Ym (iV c) (eh k) (yH (rLt (n:=1) (l:=[c]) b SL_22 [iV c] (bp1 e0) rfl rfl (mks1 (cs:=[iV c]) rfl mkI mks0)) fun b0 w b=>bE d fun b1 a3 d=>yH (rAp (b.pk 2 [1,0] rfl) SL_22 e0 e0 rO1 a3) fun a4 w b=>Ya a4.v e0 (wN (A _ _ _ _ m q rfl k (b.pk 2 [0] rfl) d)))))
  exact wp_skip (A _ _ _ _ m q r k b d)
 refine wp_exit (O _ _ _ rfl ?_)
 cases d
 refine L _ _ _ _ rfl rfl ?_
 obtain rfl:=J _ rfl
 refine G _ _ _ (E _ _ (sR fun _ a5=>Ym h.v (eh r) (Ya h.v e0 (wK a5 (wp_ret ?_)))))
 cases j
 exact B _ _ _ (fin1r Tryz.results61 ⟨rfl,rfl⟩ ⟨_,rfl,b⟩)
theorem sparseref13_Cover_ok {c d:Int} {r s t:LI} {f g h:Hdr} {out:LI×LI×Int} (b:sparseref13_Cover c d r s t=some out) (n:imm I1 f.v r∈ros) (o:imm I1 g.v s∈ros) (p:imm (rI .u64) h.v t∈ros) (a:St w0 ros rs w):
  Calls Tryz.prog 59 #[.agg #[iV c,iV d,f.v,g.v,h.v]] w (fun e w=>∃ (u x:Hdr),e=.returned (.tuple #[.agg #[u.v,x.v],iV out.2.2])∧St w0 ros (row 3 I1 u.v out.1::row 3 I1 x.v out.2.1::rs) w):=by
 refine enterQ Tryz.func59 rfl Tryz.ntmps59 rfl fun Q y=>sR fun _ z=>yBb (r_box (vals:=[iV c,iV d,f.v,g.v,h.v]) a e0 rfl) fun N w a=>yBb (rAl a ZT_86) fun O w a=>Ya (iV 0) rfl (wK z (seqQ fun R A B=>sR fun _ C=>yY (lbs_ [iV c,iV d,f.v,g.v,h.v] ST_91 e0 a R1) ?_))
 refine bE b fun i D b=>yC (yCall FN_87 (a1 e0)) (sparseref09_Check_ok D n o p a) ?_
 rintro _ w ⟨rfl,a⟩
 refine ⟨_,rfl,?_⟩
 refine Ya (iV i) e0 (wK C (sR fun _ E=>Ym (iV i) e0 (yY (yneq e0 rfl) (wK E ?_))))
 rcases iteS b with ⟨q,b⟩ | ⟨q,b⟩
 ·refine condF e0 (nF (dT q)) (wp_skip (A _ _ (sR fun _ F=>yY (lbs_ [iV c,iV d,f.v,g.v,h.v] ST_91 e0 a R1) (bE b fun S G b=>yC (yCall FN_89 (a1 e0)) (sparseref13_Find_ok G n o p a) ?_))))
  rintro _ w ⟨T,U,V,W,rfl,a⟩
  refine ⟨_,rfl,?_⟩
  refine bE b fun X H b=>?_
  replace a:=a.pk 4 [3,0,0,0] rfl
  refine yC (yCall FN_88 (a1 e0)) (sparseref13_Reach_ok H n o p a) ?_
  rintro _ w ⟨j,k,rfl,a⟩
  refine ⟨_,rfl,?_⟩
  refine Ym (.tuple #[j.v,k.v]) e0 (yY (x_ j.v e0) (yY (x_ k.v e0) (Ya j.v e0 (Ya k.v e0 (wK F (sR fun _ I=>Ym j.v e0 (bE b fun Z J b=>?_)))))))
  replace a:=(a.pk 5 [4,0,0,0,0] rfl).fz
  refine yC (yCall FN_61 (a2 e0 rfl)) (sparseref13_Chosen_ok J F0 a) ?_
  rintro _ w ⟨l,rfl,a⟩
  refine ⟨_,rfl,?_⟩
  refine Ym k.v e0 (bE b fun a0 K b=>?_)
  replace a:=(a.pk 6 [5,0,0,0,0,0] rfl).fz
  refine yC (yCall FN_61 (a2 e0 rfl)) (sparseref13_Chosen_ok K F0 a) ?_
  rintro _ w ⟨m,rfl,a⟩
  refine ⟨_,rfl,?_⟩
  refine yY (ybuild (us:=[l.v,m.v]) [(0,l.v),(1,m.v)] SO_86 (bp2 e0 e0) rfl) (yT (r_stbn (vals':=[l.v,m.v]) (us:=[l.v,m.v]) (a.pk 7 [6,0,0,0,0,0,0] rfl) ST_86 e0 e0 rfl rfl (one_of rfl) rfl) fun w a=>Ya (iV 0) rfl (wK I (wp_ret ?_)))
  cases b
  exact y _ _ _ (fin2r Tryz.results59 (rcs2 rfl rfl a R0 ST_86 rfl) ⟨rfl,rfl⟩ ⟨_,_,rfl,((a.pk 8 [2,1] rfl).facts (allT (allT allI)))⟩)
 refine condT e0 (nT (dF q)) (sR fun _ L=>yY (ybuild (us:=[hnil.v,hnil.v]) [] SO_86 bp0 rfl) (Ym (iV i) e0 (yT (r_stbn (vals':=[hnil.v,hnil.v]) (us:=[hnil.v,hnil.v]) a ST_86 e0 e0 rfl rfl (one_of rfl) rfl) fun w a=>Ya (iV i) e0 (wK L (wp_ret (B _ _ _ rfl ?_))))))
 cases b
 replace a:=(a.rowNh 3 I1).rowNh 3 I1
 exact y _ _ _ (fin2r Tryz.results59 (rcs2 rfl rfl a R2 ST_86 rfl) ⟨rfl,rfl⟩ ⟨_,_,rfl,(a.pk 4 [1,0] rfl)⟩)
theorem sparseref18_Separate_ok {e1:L2} {t:Hdr} {out:LI×LI×LI×Int} (c:sparseref18_Separate e1=some out) (J:imm S1 t.v e1∈ros) (b:St w0 ros rs w):
  Calls Tryz.prog 28 #[.agg #[t.v]] w (fun e w=>∃ (e2 e3 e4:Hdr),e=.returned (.tuple #[.agg #[e2.v,e3.v,e4.v],iV out.2.2.2])∧St w0 ros (row 3 I1 e2.v out.1::row 3 I1 e3.v out.2.1::row 3 I1 e4.v out.2.2.1::rs) w):=by
 refine enterQ Tryz.func28 rfl Tryz.ntmps28 rfl fun Q e5=>sR fun _ h3=>yBb (r_box (vals:=[t.v]) b e0 rfl) fun K w b=>yBb (rAl b ZT_46) fun j w b=>Ya (iV 0) rfl (wK h3 (seqQ fun v2 h4 h5=>sR fun _ h6=>yY (lbs_ [t.v] ST_26 e0 b R1) ?_))
 refine bE c fun W h7 c=>yC (yCall FN_54 (a1 e0)) (sparseref12_Check_ok h7 J b) ?_
 rintro _ w ⟨rfl,b⟩
 refine ⟨_,rfl,?_⟩
 refine Ya (iV W) e0 (wK h6 (sR fun _ i0=>Ym (iV W) e0 (yY (yneq e0 rfl) (wK i0 ?_))))
 rcases iteS c with ⟨b1,c⟩ | ⟨b1,c⟩
 ·refine condF e0 (nF (dT b1)) (wp_skip (h4 _ _ (sR fun _ i1=>yY (lbs_ [t.v] ST_26 e0 b R1) (bE c fun v3 i2 c=>yC (yCall FN_57 (a1 e0)) (sparseref18_Ones_ok i2 J b) ?_))))
  rintro _ w ⟨v4,v5,v6,rfl,b⟩
  refine ⟨_,rfl,?_⟩
  refine bE c fun u i3 c=>?_
  replace b:=b.fz.fz
  refine yC (yCall FN_17 (a1 e0)) (sparseref18_Bisect_ok i3 F2 F1 F0 b) ?_
  rintro _ w ⟨d,rfl,b⟩
  refine ⟨_,rfl,?_⟩
  refine Ym (.tuple #[d.v,iV u.2]) e0 (yY (x_ d.v e0) (yY (x_ (iV u.2) e0) (Ya d.v e0 (Ya (iV u.2) e0 (wK i1 (sQ fun _ i4=>bE c fun X i5 c=>bE c fun O i6 c=>dR [0,0,3,0,0,31,63,127] [2,5,6,7] 4 folM ?_))))))
  replace b:=b.drew
  refine Dn [0,1,3,4] [] [2] (yR rfl (lbs_ [t.v] ST_26 e0 b R2) (yR rfl (m_ d.v e0) (yR rfl (lbs_ [t.v] ST_26 e0 b R2) (yR rfl (m_ d.v e0) (Rn QSn ?_)))))
  refine Lc1 rfl ?_
  replace b:=b.fz
  refine Lk wn (yCall FN_58 (a3 e0 e0 rfl)) (sparseref18_border_ok i5 (F_4 J) F0 b) ?_
  rintro _ w ⟨r,rfl,b⟩
  refine ⟨_,rfl,?_⟩
  refine Dn [] [3,4] [5] (Rn (yS rfl (lbs_ [t.v] ST_26 e0 b R2) (yS rfl (m_ d.v e0) QSn)) ?_)
  refine Lc1 rfl ?_
  refine Lk wn (yCall FN_58 (a3 e0 e0 rfl)) (sparseref18_border_ok i6 (F_4 J) F0 b) ?_
  rintro _ w ⟨k,rfl,b⟩
  refine ⟨_,rfl,?_⟩
  refine Dn [] [] [6] (Rn QSn ?_)
  refine Lc1 rfl ?_
  refine Ly wn (a_ r.v e0) (Dn [] [] [7] (Rn QSn ?_))
  refine Lc1 rfl ?_
  refine Ly wn (a_ k.v e0) (Dz [] [] (Rn QSn (i4 _ _ (sR fun _ i7=>Ya hnil.v rfl (wK i7 (sQ fun _ i8=>sR fun _ i9=>Ya (iV 0) rfl (wN ?_)))))))
  refine i9 _ _ (blockQ fun _ j0=>bE c fun v7 j1 c=>?_)
  replace b:=b.rowNh 84 rTi64i64u64
  refine loopQ (fun s a w=>∃ (b2:List (Int×Int×Int)) (m:Int) (f:FV) (Z:Hdr),(b2,m)=s∧a=fr 148 f∧f 1=(pB K)∧f 2=(pB j)∧f 5=d.v∧f 7=r.v∧f 8=k.v∧f 9=Z.v∧f 10=iV m∧St w0 (imm I1 d.v u.1::ros) (box K 26 [t.v]::box j 46 [hnil.v,hnil.v,hnil.v]::row 3 I1 r.v X::row 3 I1 k.v O::row 84 rTi64i64u64 Z.v b2::rs) w) j1 ⟨_,_,_,_,rfl,rfl,rfl,rfl,rfl,rfl,rfl,rfl,rfl,((b.pk 5 [4,3,2,1,0] rfl).facts (allC F0 (allT (allT (allT (allT allI))))))⟩ ?_
  rintro _ _ w v8 ⟨b2,m,f,Z,rfl,rfl,j2,e6,b5,a0,b6,e7,e8,b⟩ F j3 v9 j4 j5
  refine seqQ fun w1 j6 j7=>sR fun _ j8=>Ym (iV m) (eh e8) (Ym r.v (eh a0) (yY (yLen SL_22 e0 b rO2) (yY (ylss e0 e0) (wK j8 ?_))))
  refine cIf e0 F (fun j9 F=>?_) fun j9 F=>?_
  ·refine wp_skip (j6 _ _ (sQ fun _ k0=>blockQ fun _ l0=>sR fun _ l1=>Ya (iV 0) rfl (wK l1 (blockQ fun _ l2=>bE F fun w2 l3 F=>?_))))
   refine loopQ (fun s a w=>∃ (b7:List (Int×Int×Int)) (o:Int) (f:FV) (a4:Hdr),(b7,o)=s∧a=fr 148 f∧f 1=(pB K)∧f 2=(pB j)∧f 5=d.v∧f 7=r.v∧f 8=k.v∧f 9=a4.v∧f 10=iV m∧f 11=iV o∧St w0 (imm I1 d.v u.1::ros) (box K 26 [t.v]::box j 46 [hnil.v,hnil.v,hnil.v]::row 3 I1 r.v X::row 3 I1 k.v O::row 84 rTi64i64u64 a4.v b7::rs) w) l3 ⟨_,_,_,_,rfl,rfl,j2,e6,b5,a0,b6,e7,e8,rfl,b⟩ ?_
   rintro _ _ w l4 ⟨b7,o,f,a4,rfl,rfl,a5,b8,b9,a6,R,c0,S,T,b⟩ i l5 w3 l6 l7
   refine seqQ fun w4 l8 l9=>sR fun _ m0=>Ym (iV o) (eh T) (Ym k.v (eh R) (yY (yLen SL_22 e0 b rO3) (yY (ylss e0 e0) (wK m0 ?_))))
   refine cIf e0 i (fun m1 i=>?_) fun m1 i=>?_
   ·refine wp_skip (l8 _ _ (sQ fun _ m2=>blockQ fun m3 m4=>sQ fun _ m5=>bE i fun w5 e9 i=>bE i fun w6 f0 i=>bE i fun w7 f1 i=>bE i fun w8 m6 i=>dR [0,1,0,0,12,28,63,127,0,0,768,1792,4095] [12] 1 folM ?_))
    replace b:=b.drew
    refine Dn [0,1,2,3,4,5,6,7,8,9,10,11] [] [12] (yR rfl (yFb FL_26_0 (eh a5)) (yR rfl (lb_ t.v O_24 e0 b R0) (yR rfl (m_ r.v (eh a6)) (yR rfl (m_ (iV m) (eh S)) (yR rfl (yIa SL_22 e0 e0 b rO2 e9) (yR rfl (yI O_3 e0 b rO2 e9) (yR rfl (yIa SL_24 e0 e0 b (rdI (mtF J)) f0) ?_)))))))
    obtain ⟨w9,b⟩:=iLs b (mtF J) f0
    refine yR rfl (yCt O_22 e0 b F1 rfl) (yR rfl (m_ k.v (eh R)) (yR rfl (m_ (iV o) (eh T)) (yR rfl (yIa SL_22 e0 e0 b rO3 f1) (yR rfl (yI O_3 e0 b rO3 f1) (Rn QSn ?_)))))
    refine Lc1 rfl ?_
    refine Lk wn (yCall FN_37 (a2 e0 e0)) (sparsekit_In_ok m6 F0 b) ?_
    rintro _ w ⟨rfl,b⟩
    refine ⟨_,rfl,?_⟩
    refine Dz [] [] (Rn QSn (m5 _ _ ?_))
    have f2:∀ (c1:List (Int×Int×Int)) (c2:Hdr) (f:FV) w,f 1=(pB K)→f 2=(pB j)→f 5=d.v→f 7=r.v→f 8=k.v→f 9=c2.v→f 10=iV m→f 11=iV o→St w0 (imm I1 d.v u.1::ros) (box K 26 [t.v]::box j 46 [hnil.v,hnil.v,hnil.v]::row 3 I1 r.v X::row 3 I1 k.v O::row 84 rTi64i64u64 c2.v c1::rs) w→sparseref18_Separate_j25 o c1=some l4→m3 .normal (fr 148 f) w:=by
     intro c1 c2 f w m7 m8 m9 n0 n1 n2 n3 n4 b c
     refine m4 _ _ _ (m2 _ _ (wR (Ym (iV o) (eh n4) (yY (yadd e0 rfl) (Ya (iV (wa .i64 o 1)) e0 (wN ?_))))))
     cases c
     exact l6 _ _ _ rfl ⟨_,_,_,_,rfl,rfl,m7,m8,m9,n0,n1,n2,n3,rfl,b⟩
    refine cB e0 i (fun n5 i=>?_) fun n5 i=>?_
    ·exact wR (Ym a4.v (eh c0) (Ym (iV m) (eh S) (Ym (iV o) (eh T) (yY (ybuild (us:=[iV m,iV o,.int .u64 0]) [(0,iV m),(1,iV o)] SO_84 (bp2 e0 e0) rfl) (yH (rLt (n:=1) (l:=[(m,o,0)]) b SL_80 [.agg #[iV m,iV o,.int .u64 0]] (bp1 e0) rfl rfl (mks1 (cs:=[iV m,iV o,.int .u64 0]) rfl (mkF rfl) mks0)) fun x0 w b=>bE i fun x2 n6 i=>yH (rAp (b.pk 6 [5,0,0,0,0,0] rfl) SL_80 e0 e0 rO1 n6) fun n7 w b=>Ya n7.v e0 (wN (f2 _ _ _ _ a5 b8 b9 a6 R rfl S T ((b.pk 6 [2,2,2,2,0] rfl).facts (allC F2 (allT (allT (allT allI))))) i)))))))
    exact wp_skip (f2 _ _ _ _ a5 b8 b9 a6 R c0 S T (b.facts (allC F2 (allT (allT (allT allI))))) i)
   refine wp_exit (l9 _ _ _ rfl ?_)
   cases i
   refine l7 _ _ _ _ rfl rfl ?_
   obtain rfl:=l5 _ rfl
   refine l2 _ _ _ (l0 _ _ _ (k0 _ _ (wR (Ym (iV m) (eh S) (yY (yadd e0 rfl) (Ya (iV (wa .i64 m 1)) e0 (wN ?_)))))))
   cases F
   exact j4 _ _ _ rfl ⟨_,_,_,_,rfl,rfl,a5,b8,b9,a6,R,c0,rfl,b⟩
  refine wp_exit (j7 _ _ _ rfl ?_)
  cases F
  refine j5 _ _ _ _ rfl rfl ?_
  obtain rfl:=j3 _ rfl
  refine j0 _ _ _ (i8 _ _ (sR fun _ n8=>Ym r.v (eh a0) (yY (yLen SL_22 e0 b rO2) (Ym k.v (eh b6) (yY (yLen SL_22 e0 b rO3) (Ym Z.v (eh e7) (bE c fun x3 o0 c=>?_)))))))
  replace b:=(b.pk 5 [4,0,0,0,0] rfl).fz
  refine yC (yCall FN_60 (a3 e0 e0 e0)) (sparseref09_Pack_ok o0 F0 b) ?_
  rintro _ w ⟨x4,x5,x6,rfl,b⟩
  refine ⟨_,rfl,?_⟩
  refine bE c fun G o1 c=>?_
  replace b:=(b.fz.fz).fz
  refine yC (yCall FN_59 (a1 e0)) (sparseref13_Cover_ok o1 F2 F1 F0 b) ?_
  rintro _ w ⟨z,A,rfl,b⟩
  refine ⟨_,rfl,?_⟩
  refine Ym (.tuple #[.agg #[z.v,A.v],iV G.2.2]) e0 (yY (x_ (.agg #[z.v,A.v]) e0) (yY (x_ (iV G.2.2) e0) (yBb (rAl b ZT_86) fun a7 w b=>yT (r_stbn (vals':=[z.v,A.v]) (us:=[z.v,A.v]) b ST_86 e0 e0 rfl rfl (one_of rfl) rfl) fun w b=>Ya (iV G.2.2) e0 (wK n8 (sR fun _ o2=>Ym d.v (eh b5) (yY (yLen SL_22 e0 b (rdI F4)) ?_))))))
  refine bE c fun x7 o3 c=>yH (rMk b SL_93 e0 o3) fun p w b=>Ya p.v e0 (wK o2 (sQ fun _ o4=>sR fun _ o5=>Ya (iV 0) rfl (wK o5 (blockQ fun _ o6=>bE c fun x8 o7 c=>?_))))
  refine loopQ (fun s a w=>∃ (c3:List Bool) (H:Int) (f:FV),(c3,H)=s∧a=fr 148 f∧f 2=(pB j)∧f 5=d.v∧f 7=r.v∧f 8=k.v∧f 12=(pB a7)∧f 14=p.v∧f 15=iV H∧St w0 (imm I1 d.v u.1::ros) (box j 46 [hnil.v,hnil.v,hnil.v]::row 3 I1 r.v X::row 3 I1 k.v O::row 3 I1 z.v G.1::row 3 I1 A.v G.2.1::box a7 86 [z.v,A.v]::row 4 rB p.v c3::rs) w) o7 ⟨_,_,_,rfl,rfl,e6,b5,a0,b6,rfl,rfl,rfl,((b.pk 8 [5,5,5,2,2,1,0] rfl).facts (allC F4 (allT (allT (allT (allT (allT allI)))))))⟩ ?_
  rintro _ _ w x9 ⟨c3,H,f,rfl,rfl,f3,f4,f5,f6,a8,c4,c5,b⟩ x o8 y0 p0 p1
  refine seqQ fun y1 p2 p3=>sR fun _ p4=>Ym (iV H) (eh c5) (yY (yFb FL_86_0 (eh a8)) (yY (lb_ z.v O_22 e0 b R5) (yY (yLen SL_22 e0 b rO3) (yY (ylss e0 e0) (wK p4 ?_)))))
  refine cIf e0 x (fun p5 x=>?_) fun p5 x=>?_
  ·refine wp_skip (p2 _ _ (sQ fun _ p6=>blockQ fun _ p7=>wR (Ym p.v (eh c4) (Ym r.v (eh f5) (yY (yFb FL_86_0 (eh a8)) (yY (lb_ z.v O_22 e0 b R5) (Ym (iV H) (eh c5) (bE x fun y2 f7 x=>yY (yIa SL_22 e0 e0 b rO3 f7) (yY (yI O_3 e0 b rO3 f7) (bE x fun y3 f8 x=>?_))))))))))
   refine yY (yIa SL_22 e0 e0 b rO1 f8) (yY (yI O_3 e0 b rO1 f8) (bE x fun y4 f9 x=>yY (yIs SL_93 e0 e0 b rO6 f9) (yT (r_sti (cs:=[.bool true]) (b.pk 7 [6,0,0,0,0,0,0] rfl) O_4 rfl e0 rfl rfl mkB f9) fun w b=>wN (p7 _ _ _ (p6 _ _ (wR (Ym (iV H) (eh c5) (yY (yadd e0 rfl) (Ya (iV (wa .i64 H 1)) e0 (wN ?_))))))))))
   cases x
   exact p0 _ _ _ rfl ⟨_,_,_,rfl,rfl,f3,f4,f5,f6,a8,c4,rfl,(b.pk 7 [1,1,1,1,1,1,0] rfl)⟩
  refine wp_exit (p3 _ _ _ rfl ?_)
  cases x
  refine p1 _ _ _ _ rfl rfl ?_
  obtain rfl:=o8 _ rfl
  refine o6 _ _ _ (o4 _ _ (sQ fun _ p8=>sR fun _ p9=>Ya (iV 0) rfl (wK p9 (blockQ fun _ q0=>bE c fun y5 q2 c=>?_))))
  refine loopQ (fun s a w=>∃ (L:List Bool) (I:Int) (f:FV),(L,I)=s∧a=fr 148 f∧f 2=(pB j)∧f 5=d.v∧f 8=k.v∧f 12=(pB a7)∧f 14=p.v∧f 16=iV I∧St w0 (imm I1 d.v u.1::ros) (box j 46 [hnil.v,hnil.v,hnil.v]::row 3 I1 k.v O::row 3 I1 z.v G.1::row 3 I1 A.v G.2.1::box a7 86 [z.v,A.v]::row 4 rB p.v L::rs) w) q2 ⟨_,_,_,rfl,rfl,f3,f4,f6,a8,c4,rfl,(b.pk 7 [0,1,1,1,1,1] rfl)⟩ ?_
  rintro _ _ w y6 ⟨L,I,f,rfl,rfl,g0,g1,g2,c7,a9,c8,b⟩ y q3 y7 q4 q5
  refine seqQ fun y8 q6 q7=>sR fun _ q8=>Ym (iV I) (eh c8) (yY (yFb FL_86_1 (eh c7)) (yY (lb_ A.v O_22 e0 b R4) (yY (yLen SL_22 e0 b rO3) (yY (ylss e0 e0) (wK q8 ?_)))))
  refine cIf e0 y (fun q9 y=>?_) fun q9 y=>?_
  ·refine wp_skip (q6 _ _ (sQ fun _ r0=>blockQ fun _ r1=>wR (Ym p.v (eh a9) (Ym k.v (eh g2) (yY (yFb FL_86_1 (eh c7)) (yY (lb_ A.v O_22 e0 b R4) (Ym (iV I) (eh c8) (bE y fun y9 g3 y=>yY (yIa SL_22 e0 e0 b rO3 g3) (yY (yI O_3 e0 b rO3 g3) (bE y fun z0 g4 y=>?_))))))))))
   refine yY (yIa SL_22 e0 e0 b rO1 g4) (yY (yI O_3 e0 b rO1 g4) (bE y fun z1 g5 y=>yY (yIs SL_93 e0 e0 b rO5 g5) (yT (r_sti (cs:=[.bool true]) (b.pk 6 [5,0,0,0,0,0] rfl) O_4 rfl e0 rfl rfl mkB g5) fun w b=>wN (r1 _ _ _ (r0 _ _ (wR (Ym (iV I) (eh c8) (yY (yadd e0 rfl) (Ya (iV (wa .i64 I 1)) e0 (wN ?_))))))))))
   cases y
   exact q4 _ _ _ rfl ⟨_,_,_,rfl,rfl,g0,g1,g2,c7,a9,rfl,(b.pk 6 [1,1,1,1,1,0] rfl)⟩
  refine wp_exit (q7 _ _ _ rfl ?_)
  cases y
  refine q5 _ _ _ _ rfl rfl ?_
  obtain rfl:=q3 _ rfl
  refine q0 _ _ _ (p8 _ _ (sR fun _ r2=>Ym p.v (eh a9) (bE c fun c9 r3 c=>?_)))
  replace b:=(b.pk 6 [5,0,0,0,0,0] rfl).fz
  refine yC (yCall FN_61 (a2 e0 rfl)) (sparseref13_Chosen_ok r3 F0 b) ?_
  rintro _ w ⟨q,rfl,b⟩
  refine ⟨_,rfl,?_⟩
  refine yY (ybuild (us:=[hnil.v,hnil.v,q.v]) [(2,q.v)] SO_46 (bp1 e0) rfl) (yBb (rAl b ZT_46) fun N w b=>yT (r_stbn (vals':=[hnil.v,hnil.v,q.v]) (us:=[hnil.v,hnil.v,q.v]) b ST_46 e0 e0 rfl rfl (one_of rfl) rfl) fun w b=>wK r2 (sQ fun _ r4=>sR fun _ r6=>Ya (iV 0) rfl (wK r6 (blockQ fun _ r8=>?_))))
  refine bE c fun z3 r9 c=>?_
  replace b:=(b.rowNh 3 I1).rowNh 3 I1
  refine loopQ (fun s a w=>∃ (d0 d1:LI) (h:Int) (f:FV) (B C:Hdr),(d0,d1,h)=s∧a=fr 148 f∧f 2=(pB j)∧f 5=d.v∧f 14=p.v∧f 17=(pB N)∧f 18=iV h∧St w0 (imm I1 d.v u.1::imm rB p.v L::ros) (box j 46 [hnil.v,hnil.v,hnil.v]::row 3 I1 B.v d0::row 3 I1 C.v d1::row 3 I1 q.v c9::box N 46 [B.v,C.v,q.v]::rs) w) r9 ⟨_,_,_,_,_,_,rfl,rfl,g0,g1,a9,rfl,rfl,((b.pk 9 [4,1,0,1,0] rfl).facts (allC F1 (allC F0 (allT (allT allI)))))⟩ ?_
  rintro _ _ w g6 ⟨d0,d1,h,f,B,C,rfl,rfl,U,V,b0,D,E,b⟩ g s0 z4 s1 s2
  refine seqQ fun z5 s3 s4=>sR fun _ s5=>Ym (iV h) (eh E) (Ym d.v (eh V) (yY (yLen SL_22 e0 b (rdI F0)) (yY (ylss e0 e0) (wK s5 ?_))))
  refine cIf e0 g (fun s6 g=>?_) fun s6 g=>?_
  ·refine wp_skip (s3 _ _ (sQ fun _ s7=>blockQ fun _ s8=>blockQ fun g7 s9=>sR fun _ t0=>Ym p.v (eh b0) (Ym (iV h) (eh E) (bE g fun t1 g8 g=>yY (yIa SL_93 e0 e0 b (rdI F1) g8) (yY (yB O_4 e0 b (rdI F1) g8) (Ya (.bool t1) e0 (wN ?_)))))))
   refine t0 _ _ ?_
   have g9:∀ (d2 d3:LI) (d4 d5:Hdr) (f:FV) w,f 2=(pB j)→f 5=d.v→f 14=p.v→f 17=(pB N)→f 18=iV h→St w0 (imm I1 d.v u.1::imm rB p.v L::ros) (box j 46 [hnil.v,hnil.v,hnil.v]::row 3 I1 d4.v d2::row 3 I1 d5.v d3::row 3 I1 q.v c9::box N 46 [d4.v,d5.v,q.v]::rs) w→sparseref18_Separate_j20 h d2 d3=some g6→g7 .normal (fr 148 f) w:=by
    intro d2 d3 d4 d5 f w t2 t3 t4 t5 t6 b c
    refine s9 _ _ _ (s8 _ _ _ (s7 _ _ (wR (Ym (iV h) (eh t6) (yY (yadd e0 rfl) (Ya (iV (wa .i64 h 1)) e0 (wN ?_)))))))
    cases c
    exact s1 _ _ _ rfl ⟨_,_,_,_,_,_,rfl,rfl,t2,t3,t4,t5,rfl,b⟩
   refine cB e0 g (fun t7 g=>?_) fun t7 g=>?_
   ·exact wp_skip (g9 _ _ _ _ _ _ U V b0 D E b g)
   refine sR fun _ t8=>Ym d.v (eh V) (Ym (iV h) (eh E) (bE g fun t9 h0 g=>yY (yIa SL_22 e0 e0 b (rdI F0) h0) (yY (yI O_3 e0 b (rdI F0) h0) (yY (yeql e0 rfl) (Ya (.bool (decide (t9=0))) e0 (wK t8 ?_))))))
   have h1:∀ (d6 d7:LI) (d8 d9:Hdr) (f:FV) w,f 2=(pB j)→f 5=d.v→f 14=p.v→f 17=(pB N)→f 18=iV h→St w0 (imm I1 d.v u.1::imm rB p.v L::ros) (box j 46 [hnil.v,hnil.v,hnil.v]::row 3 I1 d8.v d6::row 3 I1 d9.v d7::row 3 I1 q.v c9::box N 46 [d8.v,d9.v,q.v]::rs) w→sparseref18_Separate_j21 h d6 d7=some g6→g7 .normal (fr 148 f) w:=by
    intro d6 d7 d8 d9 f w u0 u1 u2 u3 u4 b c
    exact g9 _ _ _ _ _ _ u0 u1 u2 u3 u4 b c
   refine cIf e0 g (fun u5 g=>?_) fun u5 g=>?_
   ·exact wR (yY (yFb FL_46_0 (eh D)) (yY (lb_ B.v O_22 e0 b R4) (Ym (iV h) (eh E) (yH (rLt (n:=1) (l:=[h]) b SL_22 [iV h] (bp1 e0) rfl rfl (mks1 (cs:=[iV h]) rfl mkI mks0)) fun z6 w b=>bE g fun z7 u6 g=>yH (rAp (b.pk 3 [2,0,0] rfl) SL_22 e0 e0 rO1 u6) fun u7 w b=>yY (yFb FL_46_0 (eh D)) (yT (r_stb1 (vals':=[u7.v,C.v,q.v]) (b.pk 6 [5,0,0,0,0,0] rfl) O_22 e0 e0 rfl rfl rfl rfl) fun w b=>wN (h1 _ _ _ _ _ _ U V b0 D E (b.pk 6 [3,1,2,2,0] rfl) g))))))
   exact wR (yY (yFb FL_46_1 (eh D)) (yY (lb_ C.v O_22 e0 b R4) (Ym (iV h) (eh E) (yH (rLt (n:=1) (l:=[h]) b SL_22 [iV h] (bp1 e0) rfl rfl (mks1 (cs:=[iV h]) rfl mkI mks0)) fun z8 w b=>bE g fun z9 u8 g=>yH (rAp (b.pk 4 [3,0,0,0] rfl) SL_22 e0 e0 rO1 u8) fun u9 w b=>yY (yFb FL_46_1 (eh D)) (yT (r_stb1 (vals':=[B.v,u9.v,q.v]) (b.pk 6 [5,0,0,0,0,0] rfl) O_22 e0 e0 rfl rfl rfl rfl) fun w b=>wN (h1 _ _ _ _ _ _ U V b0 D E (b.pk 6 [3,3,1,2,0] rfl) g))))))
  refine wp_exit (s4 _ _ _ rfl ?_)
  cases g
  refine s2 _ _ _ _ rfl rfl ?_
  obtain rfl:=s0 _ rfl
  refine r8 _ _ _ (r4 _ _ (sR fun _ v0=>yY (lbs_ [B.v,C.v,q.v] ST_46 (eh D) b R4) (yT (r_stbn (vals':=[B.v,C.v,q.v]) (us:=[B.v,C.v,q.v]) b ST_46 (eh U) e0 rfl rfl (one_of rfl) rfl) fun w b=>Ya (iV 0) rfl (wK v0 (wp_ret ?_)))))
  cases c
  exact e5 _ _ _ (fin2r Tryz.results28 (rcs2 rfl U b R0 ST_46 rfl) ⟨rfl,rfl⟩ ⟨_,_,_,rfl,((b.pk 5 [1,1,1] rfl).facts (allT (allT allI)))⟩)
 refine condT e0 (nT (dF b1)) (sR fun _ v1=>yY (ybuild (us:=[hnil.v,hnil.v,hnil.v]) [] SO_46 bp0 rfl) (Ym (iV W) e0 (yT (r_stbn (vals':=[hnil.v,hnil.v,hnil.v]) (us:=[hnil.v,hnil.v,hnil.v]) b ST_46 e0 e0 rfl rfl (one_of rfl) rfl) fun w b=>Ya (iV W) e0 (wK v1 (wp_ret (h5 _ _ _ rfl ?_))))))
 cases c
 replace b:=((b.rowNh 3 I1).rowNh 3 I1).rowNh 3 I1
 exact e5 _ _ _ (fin2r Tryz.results28 (rcs2 rfl rfl b R3 ST_46 rfl) ⟨rfl,rfl⟩ ⟨_,_,_,rfl,(b.pk 5 [2,1,0] rfl)⟩)
theorem graph_NewSets_ok {h:Int} {out:(List (List Bool))} (i:graph_NewSets h=some out) (b:St w0 ros rs w):
  Calls Tryz.prog 131 #[iV h] w (fun e w=>∃ (o:Hdr) (p:List Hdr),e=.returned (o.v)∧St w0 ros (row 93 rH o.v p::fam 4 rB p out::rs) w):=by
 refine enterQ Tryz.func131 rfl Tryz.ntmps131 rfl fun Q y=>sR fun _ z=>Ya hnil.v rfl (wK z (sR fun _ A=>Ym (iV h) e0 (bE i fun B C i=>?_)))
 obtain ⟨D,em3,E⟩:=mkL_rep C hnil
 refine yH (rMk b SLH_136 e0 E) fun d w b=>?_
 replace b:=(b.fReps 4 rB D).pk 2 [1,0] rfl
 rw [← em3] at b
 refine Ya d.v e0 (wK A (sQ fun _ F=>sR fun _ G=>Ym d.v e0 (yY (yLenF SLH_136 e0 b rO0 R1) (Ym (iV 0) rfl (wK G (blockQ fun _ H=>bE i fun Z I i=>?_))))))
 refine loopQ (fun s a w=>∃ (j:List (List Bool)) (g:Int) (f:FV) (k:List Hdr),(j,g)=s∧a=fr 19 f∧f 0=iV h∧f 3=d.v∧f 8=iV (B.length:Int)∧f 9=iV g∧St w0 ros (row 93 rH d.v k::fam 4 rB k j::rs) w) I ⟨_,_,_,_,rfl,rfl,rfl,rfl,rfl,rfl,b⟩ ?_
 rintro _ _ w a0 ⟨j,g,f,k,rfl,rfl,q,l,r,m,b⟩ c J a1 K L
 refine sR fun _ N=>yY (ylss (eh m) (eh r)) (wK N (seqQ fun a2 O R=>?_))
 refine cIf e0 c (fun S c=>?_) fun S c=>?_
 ·refine wp_skip (O _ _ (sQ fun _ T=>blockQ fun _ U=>sR fun _ V=>Ym (iV g) (eh m) (Ya (iV g) e0 (wK V (wR (Ym d.v (eh l) (Ym (iV g) e0 (Ym (iV h) (eh q) ?_))))))))
  refine bE c fun a3 W c=>yH (rMk b SL_93 e0 W) fun t w b=>bE c fun a4 x c=>?_
  obtain ⟨a5,n⟩:=setI_len (u:=t) x (b.famL (mtR (mtR mhR)))
  refine yY (yIs SLH_136 e0 e0 b rO1 n) (yT (r_sti (cs:=[t.v]) (b.pk 2 [1,0] rfl) O_93 rfl e0 e0 rfl (mkF rfl) n) fun w b=>?_)
  replace b:=(b.pk 3 [1,1,0] rfl).fput n x
  refine wN (U _ _ _ (T _ _ (wR (yY (yadd (eh m) rfl) (Ym (iV (wa .i64 g 1)) e0 (wN ?_))))))
  cases c
  exact K _ _ _ rfl ⟨_,_,_,_,rfl,rfl,q,l,r,rfl,(b.pk 2 [1,0] rfl)⟩
 refine wp_exit (R _ _ _ rfl ?_)
 cases c
 refine L _ _ _ _ rfl rfl ?_
 obtain rfl:=J _ rfl
 refine H _ _ _ (F _ _ (sR fun _ X=>Ym d.v (eh l) (Ya d.v e0 (wK X (wp_ret ?_)))))
 cases i
 exact y _ _ _ (fin1r Tryz.results131 ⟨rfl,rfl⟩ ⟨_,_,rfl,b⟩)
theorem graph_Sets_Join_ok {n:List (List Bool)} {c h:Int} {d:Hdr} {g:List Hdr} {out:(List (List Bool))} (b:graph_Sets_Join n c h=some out) (a:St w0 ros (row 93 rH d.v g::fam 4 rB g n::rs) w):
  Calls Tryz.prog 127 #[d.v,iV c,iV h] w (fun e w=>e=.returned (.tuple #[])∧St w0 ros (row 93 rH d.v g::fam 4 rB g out::rs) w):=by
 refine enterQ Tryz.func127 rfl Tryz.ntmps127 rfl fun Q s=>sR fun _ t=>Ym (iV c) e0 (Ym (iV h) e0 (yY (yneq e0 e0) (wK t ?_)))
 have o:∀ (k:List (List Bool)) (f:FV) w,St w0 ros (row 93 rH d.v g::fam 4 rB g k::rs) w→graph_Sets_Join_j1 k=some out→Q .normal (fr 21 f) w:=by
  intro k f w a b
  cases b
  exact s _ _ _ (fin0n Tryz.results127 ⟨rfl,a⟩)
 rcases iteS b with ⟨l,b⟩ | ⟨l,b⟩
 ·exact condF e0 (nF (dT l)) (wp_skip (o _ _ _ a b))
 refine condT e0 (nT (dF l)) (bE b fun z m b=>bE b fun A u b=>bE b fun B p b=>bE b fun C x b=>bE b fun D q b=>bE b fun E r b=>bE b fun F y b=>dR [0,0,3,7,0,0,0,96,224,0,511,1535,4095,8191] [11,13] 2 folM ?_)
 replace a:=a.drew
 refine Dn [0,1,2,3,4,5,6,7,8,9,10] [] [11] (yR rfl (m_ d.v e0) (yR rfl (m_ (iV c) e0) ?_))
 obtain ⟨G,i⟩:=a.famI R1 m
 refine yR rfl (yIa SLH_136 e0 e0 a rO0 i) (yR rfl (yF1 O_93 e0 a rO0 i rfl) (yR rfl (m_ (iV h) e0) (yR rfl (m_ d.v e0) (yR rfl (m_ (iV h) e0) ?_))))
 obtain ⟨H,j⟩:=a.famI R1 u
 refine yR rfl (yIa SLH_136 e0 e0 a rO0 j) (yR rfl (yF1 O_93 e0 a rO0 j rfl) (yR rfl (m_ (iV c) e0) (yR rfl (yIs SL_93 e0 e0 a (rdF R1 i m) p) (Rn QSn ?_))))
 refine Lc1 rfl ?_
 replace a:=a.pk 2 [1,0] rfl
 refine LT wn (r_sti (cs:=[.bool true]) (a.foc i m) O_4 rfl e0 rfl rfl mkB p) fun w a=>?_
 replace a:=a.unfoc' i x
 refine Dn [12] [9] [13] (yR rfl (yIs SL_93 e0 e0 a (rdF R0 j q) r) (Rn (yS rfl (m_ (iV c) e0) QSn) ?_))
 refine Lc1 rfl ?_
 refine LT wn (r_sti (cs:=[.bool true]) (a.foc j q) O_4 rfl e0 rfl rfl mkB r) fun w a=>?_
 replace a:=a.unfoc' j y
 exact Dz [] [] (Rn QSn (o _ _ _ (a.pk 2 [1,0] rfl) b))
theorem graph_Table_ok {k:L2} {i:Hdr} {out:(List (List Bool))} (j:graph_Table k=some out) (l:imm S1 i.v k∈ros) (b:St w0 ros rs w):
  Calls Tryz.prog 126 #[.agg #[i.v]] w (fun e w=>∃ (x:Hdr) (y:List Hdr),e=.returned (x.v)∧St w0 ros (row 93 rH x.v y::fam 4 rB y out::rs) w):=by
 refine enterQ Tryz.func126 rfl Tryz.ntmps126 rfl fun Q N=>sR fun _ O=>yBb (r_box (vals:=[i.v]) b e0 rfl) fun c6 w b=>Ya hnil.v rfl (wK O (sR fun _ R=>yY (yFb FL_26_0 e0) (yY (lb_ i.v O_24 e0 b R0) (yY (yLen SL_24 e0 b (rdI l)) (bE j fun c7 S j=>?_)))))
 refine yC (yCall FN_131 (a1 e0)) (graph_NewSets_ok S b) ?_
 rintro _ w ⟨h,m,rfl,b⟩
 refine ⟨_,rfl,?_⟩
 refine Ya h.v e0 (wK R (sQ fun _ T=>sR fun _ U=>yY (yFb FL_26_0 e0) (yY (lb_ i.v O_24 e0 b R2) (yY (yLen SL_24 e0 b (rdI l)) (Ym (iV 0) rfl (wK U (blockQ fun _ V=>bE j fun c8 W j=>?_)))))))
 refine loopQ (fun s a w=>∃ (q:List (List Bool)) (c:Int) (f:FV),(q,c)=s∧a=fr 33 f∧f 3=h.v∧f 13=i.v∧f 14=iV (k.length:Int)∧f 15=iV c∧St w0 ros (row 93 rH h.v m::fam 4 rB m q::rs) w) W ⟨_,_,_,rfl,rfl,rfl,rfl,rfl,rfl,(b.pk 3 [0,0] rfl)⟩ ?_
 rintro _ _ w c9 ⟨q,c,f,rfl,rfl,z,A,B,n,b⟩ d X d0 Z a0
 refine sR fun _ a2=>yY (ylss (eh n) (eh B)) (wK a2 (seqQ fun d1 a4 a5=>?_))
 refine cIf e0 d (fun a6 d=>?_) fun a6 d=>?_
 ·refine wp_skip (a4 _ _ (sQ fun _ a7=>blockQ fun _ a8=>sR fun _ a9=>Ym (iV c) (eh n) (bE d fun C D d=>yY (yIa SL_24 (eh A) (eh n) b (rdI l) D) ?_)))
  obtain ⟨o,b⟩:=iLs b l D
  refine yY (yCt O_22 e0 b F1 rfl) (Ya (iV c) e0 (Ya o.v e0 (wK a9 (sR fun _ b0=>Ym o.v e0 (yY (yLen SL_22 e0 b (rdI F0)) (Ym (iV 0) rfl (wK b0 (blockQ fun _ b1=>bE d fun d2 b2 d=>?_))))))))
  refine loopQ (fun s a w=>∃ (r:List (List Bool)) (p:Int) (f:FV),(r,p)=s∧a=fr 33 f∧f 3=h.v∧f 4=iV c∧f 13=i.v∧f 14=iV (k.length:Int)∧f 15=iV c∧f 20=o.v∧f 21=iV (C.length:Int)∧f 22=iV p∧St w0 (imm I1 o.v C::ros) (row 93 rH h.v m::fam 4 rB m r::rs) w) b2 ⟨_,_,_,rfl,rfl,z,rfl,A,B,n,rfl,rfl,rfl,(b.facts (allC F0 (allT (allT allI))))⟩ ?_
  rintro _ _ w d3 ⟨r,p,f,rfl,rfl,t,E,F,G,H,I,J,u,b⟩ g b4 d4 b5 b6
  refine sR fun _ b7=>yY (ylss (eh u) (eh J)) (wK b7 (seqQ fun d5 b8 b9=>?_))
  refine cIf e0 g (fun c0 g=>?_) fun c0 g=>?_
  ·refine wp_skip (b8 _ _ (sQ fun _ c1=>blockQ fun _ c2=>sR fun _ c3=>bE g fun K L g=>yY (yIa SL_22 (eh I) (eh u) b (rdI F0) L) (yY (yI O_3 e0 b (rdI F0) L) (Ya (iV K) e0 (wK c3 (wR (Ym h.v (eh t) ?_)))))))
   refine Ym (iV c) (eh E) (Ym (iV K) e0 (bE g fun d6 c4 g=>yC (yCall FN_127 (a3 e0 e0 e0)) (graph_Sets_Join_ok c4 b) ?_))
   rintro _ w ⟨rfl,b⟩
   refine ⟨_,rfl,?_⟩
   refine wN (c2 _ _ _ (c1 _ _ (wR (yY (yadd (eh u) rfl) (Ym (iV (wa .i64 p 1)) e0 (wN ?_))))))
   cases g
   exact b5 _ _ _ rfl ⟨_,_,_,rfl,rfl,t,E,F,G,H,I,J,rfl,b⟩
  refine wp_exit (b9 _ _ _ rfl ?_)
  cases g
  refine b6 _ _ _ _ rfl rfl ?_
  obtain rfl:=b4 _ rfl
  refine b1 _ _ _ (a8 _ _ _ (a7 _ _ (wR (yY (yadd (eh H) rfl) (Ym (iV (wa .i64 c 1)) e0 (wN ?_))))))
  cases d
  exact Z _ _ _ rfl ⟨_,_,_,rfl,rfl,t,F,G,rfl,(b.facts (allT allI))⟩
 refine wp_exit (a5 _ _ _ rfl ?_)
 cases d
 refine a0 _ _ _ _ rfl rfl ?_
 obtain rfl:=X _ rfl
 refine V _ _ _ (T _ _ (sR fun _ c5=>Ym h.v (eh z) (Ya h.v e0 (wK c5 (wp_ret ?_)))))
 cases j
 exact N _ _ _ (fin1r Tryz.results126 ⟨rfl,rfl⟩ ⟨_,_,rfl,b⟩)
theorem mindeg_Start_ok {o:L2} {b:Hdr} {out:(List (List Bool))×(List Bool)} (g:mindeg_Start o=some out) (h:imm S1 b.v o∈ros) (a:St w0 ros rs w):
  Calls Tryz.prog 108 #[.agg #[b.v]] w (fun e w=>∃ (p:Nat) (q:Hdr) (r:List Hdr) (s:Hdr),e=.returned (pB p)∧St w0 ros (row 93 rH q.v r::fam 4 rB r out.1::row 4 rB s.v out.2::box p 138 [q.v,s.v]::rs) w):=by
 refine enterQ Tryz.func108 rfl Tryz.ntmps108 rfl fun Q y=>sR fun _ z=>yBb (r_box (vals:=[b.v]) a e0 rfl) fun F w a=>Ya (.pointer none) rfl (wK z (sQ fun _ A=>bE g fun B t g=>bE g fun C u g=>?_))
 refine joinN (n:=11) (fun f w=>∃ (i:Nat) (j:Hdr) (k:List Hdr) (l:Hdr),f 2=(pB i)∧St w0 ros (row 93 rH j.v k::fam 4 rB k B::row 4 rB l.v C::box i 138 [j.v,l.v]::rs) w) (fun x=>?_) ?_
 ·refine dR [0,1,0,4,12,28,63,127,255] [1,5,7,8] 4 folM ?_
  replace a:=a.drew
  refine Dn [0,2,3,4] [] [1,5] (yR rfl (lbs_ [b.v] ST_26 e0 a R0) (yR rfl (yFb FL_26_0 e0) (yR rfl (lb_ b.v O_24 e0 a R0) (yR rfl (yLen SL_24 e0 a (rdI h)) (Rn QSn ?_)))))
  refine Lc rfl ?_ (Lc1 rfl ?_)
  ·refine Lk wn (yCall FN_126 (a1 e0)) (graph_Table_ok t h a) ?_
   rintro _ w ⟨c,D,rfl,a⟩
   refine ⟨_,rfl,?_⟩
   refine Dn [] [2,3,4] [5] (Rn (yS rfl (yFb FL_26_0 e0) (yS rfl (lb_ b.v O_24 e0 a R2) (yS rfl (yLen SL_24 e0 a (rdI h)) QSn))) ?_)
   refine Lc1 rfl ?_
   refine LH wn (rMk a SL_93 e0 u) fun d w a=>Dn [6] [] [7] (yR rfl (ybuild (us:=[c.v,d.v]) [(0,c.v),(1,d.v)] SO_138 (bp2 e0 e0) rfl) (Rn QSn ?_))
   refine Lc1 rfl ?_
   refine LB wn (r_box (vals:=[c.v,d.v]) a e0 rfl) fun m w a=>Dn [] [] [8] (Rn QSn ?_)
   refine Lc1 rfl ?_
   exact Ly wn (a_ (pB m) e0) (Dz [] [] (Rn QSn (x _ _ ⟨_,_,_,_,rfl,(a.pk 5 [2,2,1,0] rfl)⟩)))
  refine LH wn (rMk a SL_93 e0 u) fun d w a=>Dn [] [0] [1] (Rn (yS rfl (lbs_ [b.v] ST_26 e0 a R1) QSn) ?_)
  refine Lc1 rfl ?_
  refine Lk wn (yCall FN_126 (a1 e0)) (graph_Table_ok t h a) ?_
  rintro _ w ⟨c,D,rfl,a⟩
  refine ⟨_,rfl,?_⟩
  refine Dn [6] [] [7] (yR rfl (ybuild (us:=[c.v,d.v]) [(0,c.v),(1,d.v)] SO_138 (bp2 e0 e0) rfl) (Rn QSn ?_))
  refine Lc1 rfl ?_
  refine LB wn (r_box (vals:=[c.v,d.v]) a e0 rfl) fun m w a=>Dn [] [] [8] (Rn QSn ?_)
  refine Lc1 rfl ?_
  exact Ly wn (a_ (pB m) e0) (Dz [] [] (Rn QSn (x _ _ ⟨_,_,_,_,rfl,(a.pk 5 [1,1,1,0] rfl)⟩)))
 rintro f w ⟨i,j,k,l,E,a⟩
 refine A _ _ (wp_ret ?_)
 cases g
 exact y _ _ _ (fin1r Tryz.results108 ⟨rfl,E⟩ ⟨_,_,_,_,rfl,a⟩)
theorem graph_Sets_List_ok {y:List (List Bool)} {m:Int} {o:Hdr} {out:LI} (g:graph_Sets_List y m=some out) (z:imm SB o.v y∈ros) (b:St w0 ros rs w):
  Calls Tryz.prog 109 #[o.v,iV m] w (fun e w=>∃ (A:Hdr),e=.returned (A.v)∧St w0 ros (row 3 I1 A.v out::rs) w):=by
 refine enterQ Tryz.func109 rfl Tryz.ntmps109 rfl fun Q F=>sR fun _ G=>Ya hnil.v rfl (wK G (sR fun _ H=>Ya hnil.v rfl (wK H (sQ fun _ I=>sR fun _ J=>?_))))
 refine Ym o.v e0 (Ym (iV m) e0 (bE g fun j B g=>yY (yIa SL_136 e0 e0 b (rdI z) B) ?_))
 obtain ⟨k,b⟩:=iLs b z B
 refine yY (yCt O_93 e0 b F1 rfl) (yY (yLen SL_93 e0 b (rdI F0)) (Ym (iV 0) rfl (wK J (blockQ fun _ K=>bE g fun b1 L g=>?_))))
 replace b:=b.rowNh 3 I1
 refine loopQ (fun s a w=>∃ (p:LI) (d:Int) (f:FV) (h:Hdr),(p,d)=s∧a=fr 25 f∧f 5=h.v∧f 11=k.v∧f 12=iV (j.length:Int)∧f 13=iV d∧St w0 (imm rB k.v j::ros) (row 3 I1 h.v p::rs) w) L ⟨_,_,_,_,rfl,rfl,rfl,rfl,rfl,rfl,(b.facts (allC F0 (allT (allT allI))))⟩ ?_
 rintro _ _ w N ⟨p,d,f,h,rfl,rfl,q,r,t,i,b⟩ c O b2 R S
 refine sR fun _ T=>yY (ylss (eh i) (eh t)) (wK T (seqQ fun b3 U V=>?_))
 refine cIf e0 c (fun W c=>?_) fun W c=>?_
 ·refine wp_skip (U _ _ (sQ fun _ X=>blockQ fun Z a0=>sR fun _ a1=>Ym (iV d) (eh i) (bE c fun C D c=>yY (yIa SL_93 (eh r) (eh i) b (rdI F0) D) (yY (yB O_4 e0 b (rdI F0) D) (Ya (iV d) e0 (Ya (.bool C) e0 (wK a1 ?_)))))))
  refine sR fun _ a2=>Ym (.bool C) e0 (wK a2 ?_)
  have E:∀ (u:LI) (x:Hdr) (f:FV) w,f 5=x.v→f 11=k.v→f 12=iV (j.length:Int)→f 13=iV d→St w0 (imm rB k.v j::ros) (row 3 I1 x.v u::rs) w→graph_Sets_List_j4 d u=some N→Z .normal (fr 25 f) w:=by
   intro u x f w a3 a4 a5 a6 b g
   refine a0 _ _ _ (X _ _ (wR (yY (yadd (eh a6) rfl) (Ym (iV (wa .i64 d 1)) e0 (wN ?_)))))
   cases g
   exact R _ _ _ rfl ⟨_,_,_,_,rfl,rfl,a3,a4,a5,rfl,b⟩
  refine cB e0 c (fun a7 c=>?_) fun a7 c=>?_
  ·exact wR (Ym h.v (eh q) (Ym (iV d) e0 (yH (rLt (n:=1) (l:=[d]) b SL_22 [iV d] (bp1 e0) rfl rfl (mks1 (cs:=[iV d]) rfl mkI mks0)) fun b4 w b=>bE c fun b5 a8 c=>yH (rAp (b.pk 2 [1,0] rfl) SL_22 e0 e0 rO1 a8) fun a9 w b=>Ya a9.v e0 (wN (E _ _ _ _ rfl r t i (b.pk 2 [0] rfl) c)))))
  exact wp_skip (E _ _ _ _ q r t i b c)
 refine wp_exit (V _ _ _ rfl ?_)
 cases c
 refine S _ _ _ _ rfl rfl ?_
 obtain rfl:=O _ rfl
 refine K _ _ _ (I _ _ (sR fun _ b0=>Ym h.v (eh q) (Ya h.v e0 (wK b0 (wp_ret ?_)))))
 cases g
 exact F _ _ _ (fin1r Tryz.results109 ⟨rfl,rfl⟩ ⟨_,rfl,(b.facts (allT allI))⟩)
theorem mindeg_Elimination_Eliminate_ok {H:List (List Bool)} {x:List Bool} {l:Int} {g:Nat} {h:Hdr} {m:List Hdr} {j:Hdr} {out:(List (List Bool))×(List Bool)×LI} (n:mindeg_Elimination_Eliminate H x l=some out) (b:St w0 ros (box g 138 [h.v,j.v]::row 93 rH h.v m::fam 4 rB m H::row 4 rB j.v x::rs) w):
  Calls Tryz.prog 110 #[(pB g),iV l] w (fun e w=>∃ (I:Hdr),e=.returned (I.v)∧St w0 (imm I1 I.v out.2.2::ros) (row 93 rH h.v m::fam 4 rB m out.1::row 4 rB j.v out.2.1::box g 138 [h.v,j.v]::rs) w):=by
 refine enterQ Tryz.func110 rfl Tryz.ntmps110 rfl fun Q a9=>sR fun _ k1=>Ya hnil.v rfl (wK k1 (sR fun _ b0=>Ym (pB g) e0 (yY (yn e0) (yY (yFb FL_138_0 e0) (yY (lb_ h.v O_136 e0 b R0) (Ym (iV l) e0 (bE n fun y b2 n=>?_)))))))
 have J:=b
 replace b:=(b.pk 3 [1,1,0] rfl).ffz
 have p:=b.guest0
 replace b:=J
 clear J
 refine yC (yCall FN_109 (a2 e0 e0)) (graph_Sets_List_ok b2 F0 p) ?_
 clear p
 rintro _ w ⟨d,rfl,p⟩
 replace b:=b.back1 p
 clear p
 refine ⟨_,rfl,?_⟩
 refine Ya d.v e0 (wK b0 (sQ fun _ b3=>sR fun _ b4=>Ym d.v e0 (yY (yLen SL_22 e0 b rO0) (Ym (iV 0) rfl (wK b4 (blockQ fun _ b5=>bE n fun e8 b6 n=>?_))))))
 replace b:=b.fz
 refine loopQ (fun s a w=>∃ (C:List (List Bool)) (i:Int) (f:FV),(C,i)=s∧a=fr 65 f∧f 0=(pB g)∧f 1=iV l∧f 5=d.v∧f 16=d.v∧f 17=iV (y.length:Int)∧f 18=iV i∧St w0 (imm I1 d.v y::ros) (row 93 rH h.v m::fam 4 rB m C::row 4 rB j.v x::box g 138 [h.v,j.v]::rs) w) b6 ⟨_,_,_,rfl,rfl,rfl,rfl,rfl,rfl,rfl,rfl,(b.pk 4 [1,1,1,0] rfl)⟩ ?_
 rintro _ _ w e9 ⟨C,i,f,rfl,rfl,K,L,D,N,O,z,b⟩ c b7 f0 b8 b9
 refine sR fun _ c0=>yY (ylss (eh z) (eh O)) (wK c0 (seqQ fun f1 c1 c2=>?_))
 refine cIf e0 c (fun c3 c=>?_) fun c3 c=>?_
 ·refine wp_skip (c1 _ _ (sQ fun _ c4=>blockQ fun _ c5=>sR fun _ c6=>Ym (iV i) (eh z) (bE c fun o R c=>yY (yIa SL_22 (eh N) (eh z) b (rdI F0) R) (yY (yI O_3 e0 b (rdI F0) R) (Ya (iV i) e0 (Ya (iV o) e0 (wK c6 ?_)))))))
  refine sQ fun _ c7=>sR fun _ c8=>Ym d.v (eh D) (Ym (iV i) e0 (bE c fun S T c=>yY (ySl (k1:=.i64) SL_22 e0 b (rdI F0) (.inr ⟨rfl,rfl⟩) (.inl (congrArg some e0)) T) ?_))
  replace b:=b.sub F0 T
  refine yY (yLen SL_22 e0 b (rdI F0)) (Ym (iV 0) rfl (wK c8 (blockQ fun _ c9=>bE c fun f2 d0 c=>?_)))
  refine loopQ (fun s a w=>∃ (E:List (List Bool)) (A:Int) (f:FV),(E,A)=s∧a=fr 65 f∧f 0=(pB g)∧f 1=iV l∧f 5=d.v∧f 7=iV o∧f 16=d.v∧f 17=iV (y.length:Int)∧f 18=iV i∧f 25=(subH d 1 0 i).v∧f 26=iV (S.length:Int)∧f 27=iV A∧St w0 (imm I1 d.v y::imm I1 (subH d 1 0 i).v S::ros) (row 93 rH h.v m::fam 4 rB m E::row 4 rB j.v x::box g 138 [h.v,j.v]::rs) w) d0 ⟨_,_,_,rfl,rfl,K,L,D,rfl,N,O,z,rfl,rfl,rfl,(b.facts (allC F1 (allC F0 (allT (allT allI)))))⟩ ?_
  rintro _ _ w f3 ⟨E,A,f,rfl,rfl,q,B,U,r,V,W,X,Z,a0,F,b⟩ k d1 f4 d2 d3
  refine sR fun _ d4=>yY (ylss (eh F) (eh a0)) (wK d4 (seqQ fun f5 d5 d6=>?_))
  refine cIf e0 k (fun d7 k=>?_) fun d7 k=>?_
  ·refine wp_skip (d5 _ _ (sQ fun _ d8=>blockQ fun _ d9=>sR fun _ e1=>bE k fun a1 a4 k=>yY (yIa SL_22 (eh Z) (eh F) b (rdI F1) a4) (yY (yI O_3 e0 b (rdI F1) a4) (Ya (iV a1) e0 (wK e1 (wR (Ym (pB g) (eh q) ?_)))))))
   refine yY (yn e0) (yY (yFb FL_138_0 e0) (yY (lb_ h.v O_136 e0 b R3) (Ym (iV o) (eh r) (Ym (iV a1) e0 (bE k fun f6 e2 k=>yC (yCall FN_127 (a3 e0 e0 e0)) (graph_Sets_Join_ok e2 b) ?_)))))
   rintro _ w ⟨rfl,b⟩
   refine ⟨_,rfl,?_⟩
   refine wN (d9 _ _ _ (d8 _ _ (wR (yY (yadd (eh F) rfl) (Ym (iV (wa .i64 A 1)) e0 (wN ?_))))))
   cases k
   exact d2 _ _ _ rfl ⟨_,_,_,rfl,rfl,q,B,U,r,V,W,X,Z,a0,rfl,b⟩
  refine wp_exit (d6 _ _ _ rfl ?_)
  cases k
  refine d3 _ _ _ _ rfl rfl ?_
  obtain rfl:=d1 _ rfl
  refine c9 _ _ _ (c7 _ _ (bE c fun f7 G c=>bE c fun f8 e3 c=>bE c fun f9 a5 c=>bE c fun g0 e4 c=>bE c fun g1 a6 c=>bE c fun g2 a7 c=>bE c fun g3 e5 c=>dR [0,1,3,7,0,31,63,0,0,256,768,1792,0,7936,16128,0,32767,98303,262143,524287] [17,19] 2 folM ?_))
  replace b:=b.drew
  refine Dn [0,1,2,3,4,5,6,7,8,9,10,11,12,13,14,15,16] [] [17] (yR rfl (m_ (pB g) (eh q)) (yR rfl (yn e0) (yR rfl (yFb FL_138_0 e0) (yR rfl (lb_ h.v O_136 e0 b R3) (yR rfl (m_ (iV o) (eh r)) ?_)))))
  obtain ⟨g4,t⟩:=b.famI R1 G
  refine yR rfl (yIa SLH_136 e0 e0 b rO0 t) (yR rfl (yF1 O_93 e0 b rO0 t rfl) (yR rfl (m_ (iV l) (eh B)) (yR rfl (m_ (pB g) (eh q)) (yR rfl (yn e0) (yR rfl (yFb FL_138_0 e0) (yR rfl (lb_ h.v O_136 e0 b R3) (yR rfl (m_ (iV l) (eh B)) ?_)))))))
  obtain ⟨g5,u⟩:=b.famI R1 e3
  refine yR rfl (yIa SLH_136 e0 e0 b rO0 u) (yR rfl (yF1 O_93 e0 b rO0 u rfl) (yR rfl (m_ (iV o) (eh r)) (yR rfl (yIs SL_93 e0 e0 b (rdF R1 t G) a5) (Rn QSn ?_))))
  refine Lc1 rfl ?_
  replace b:=b.pk 2 [1,0] rfl
  refine LT wn (r_sti (cs:=[.bool false]) (b.foc t G) O_4 rfl e0 rfl rfl mkB a5) fun w b=>?_
  replace b:=b.unfoc' t e4
  refine Dn [18] [15] [19] (yR rfl (yIs SL_93 e0 e0 b (rdF R0 u a6) a7) (Rn (yS rfl (m_ (iV o) (eh r)) QSn) ?_))
  refine Lc1 rfl ?_
  refine LT wn (r_sti (cs:=[.bool false]) (b.foc u a6) O_4 rfl e0 rfl rfl mkB a7) fun w b=>?_
  replace b:=b.unfoc' u e5
  refine Dz [] [] (Rn QSn (c5 _ _ _ (c4 _ _ (wR (yY (yadd (eh X) rfl) (Ym (iV (wa .i64 i 1)) e0 (wN ?_)))))))
  cases c
  exact b8 _ _ _ rfl ⟨_,_,_,rfl,rfl,q,B,U,V,W,rfl,((b.pk 4 [1,0,0,0] rfl).facts (allC F0 (allT (allT allI))))⟩
 refine wp_exit (c2 _ _ _ rfl ?_)
 cases c
 refine b9 _ _ _ _ rfl rfl ?_
 obtain rfl:=b7 _ rfl
 refine b5 _ _ _ (b3 _ _ (sR fun _ e6=>Ym (pB g) (eh K) (yY (yn e0) (yY (yFb FL_138_1 e0) (yY (lb_ j.v O_93 e0 b R3) (Ym (iV l) (eh L) (bE n fun g6 a8 n=>yY (yIs SL_93 e0 e0 b rO2 a8) (yT (r_sti (cs:=[.bool true]) (b.pk 3 [2,0,0] rfl) O_4 rfl e0 rfl rfl mkB a8) fun w b=>wN ?_))))))))
 refine e6 _ _ (sR fun _ e7=>Ym d.v (eh D) (Ya d.v e0 (wK e7 (wp_ret ?_))))
 cases n
 exact a9 _ _ _ (fin1r Tryz.results110 ⟨rfl,rfl⟩ ⟨_,rfl,(b.pk 4 [1,1,0,0] rfl)⟩)
theorem mindeg_Exact_ok {o:L2} {m:Hdr} {out:LI×Int} (j:mindeg_Exact o=some out) (I:imm S1 m.v o∈ros) (b:St w0 ros rs w):
  Calls Tryz.prog 90 #[.agg #[m.v]] w (fun e w=>∃ (X:Hdr),e=.returned (.tuple #[X.v,iV out.2])∧St w0 ros (row 3 I1 X.v out.1::rs) w):=by
 refine enterQ Tryz.func90 rfl Tryz.ntmps90 rfl fun Q Z=>sR fun _ c0=>yBb (r_box (vals:=[m.v]) b e0 rfl) fun u w b=>Ya hnil.v rfl (Ya (iV 0) rfl (wK c0 (sR fun _ c1=>yY (lbs_ [m.v] ST_26 e0 b R0) (bE j fun J c2 j=>yC (yCall FN_51 (a1 e0)) (graph_Check_ok c2 I b) ?_))))
 rintro _ w ⟨rfl,b⟩
 refine ⟨_,rfl,?_⟩
 refine Ya (iV J) e0 (wK c1 (seqQ fun k9 c3 c4=>sR fun _ c6=>Ym (iV J) e0 (yY (yneq e0 rfl) (wK c6 ?_))))
 rcases iteS j with ⟨U,j⟩ | ⟨U,j⟩
 ·refine condF e0 (nF (dT U)) (wp_skip (c3 _ _ (sR fun _ c7=>yY (lbs_ [m.v] ST_26 e0 b R0) (bE j fun l0 c8 j=>yC (yCall FN_108 (a1 e0)) (mindeg_Start_ok c8 I b) ?_))))
  rintro _ w ⟨g,p,x,q,rfl,b⟩
  refine ⟨_,rfl,?_⟩
  refine Ya (pB g) e0 (wK c7 (sR fun _ c9=>Ya hnil.v rfl (wK c9 (sQ fun _ d0=>sR fun _ d1=>yY (yFb FL_26_0 e0) (yY (lb_ m.v O_24 e0 b R4) (yY (yLen SL_24 e0 b (rdI I)) ?_))))))
  refine Ym (iV 0) rfl (wK d1 (blockQ fun _ d2=>bE j fun l1 d3 j=>?_))
  replace b:=b.rowNh 3 I1
  refine loopQ (fun s a w=>∃ (B:List (List Bool)) (C:List Bool) (D:LI) (A:Int) (f:FV) (h:Hdr),(B,C,D,A)=s∧a=fr 65 f∧f 1=(pB u)∧f 5=(pB g)∧f 6=h.v∧f 20=iV (o.length:Int)∧f 21=iV A∧St w0 ros (box u 26 [m.v]::row 93 rH p.v x::fam 4 rB x B::row 4 rB q.v C::box g 138 [p.v,q.v]::row 3 I1 h.v D::rs) w) d3 ⟨_,_,_,_,_,_,rfl,rfl,rfl,rfl,rfl,rfl,rfl,(b.pk 6 [5,1,1,1,1,0] rfl)⟩ ?_
  rintro _ _ w l2 ⟨B,C,D,A,f,h,rfl,rfl,a0,d4,a3,a4,a5,b⟩ r d5 l3 d6 d7
  refine sR fun _ d8=>yY (ylss (eh a5) (eh a4)) (wK d8 (seqQ fun l4 d9 e1=>?_))
  refine cIf e0 r (fun e2 r=>?_) fun e2 r=>?_
  ·refine wp_skip (d9 _ _ (sQ fun _ e3=>blockQ fun _ e4=>sR fun _ e5=>Ya (iV (-1)) rfl (Ya (iV 0) rfl (wK e5 (sQ fun _ e6=>sR fun _ e7=>yY (yFb FL_26_0 (eh a0)) ?_)))))
   refine yY (lb_ m.v O_24 e0 b R0) (yY (yLen SL_24 e0 b (rdI I)) (Ym (iV 0) rfl (wK e7 (blockQ fun _ e8=>bE r fun l5 e9 r=>?_))))
   refine loopQ (fun s a w=>∃ (c y d:Int) (f:FV),(c,y,d)=s∧a=fr 65 f∧f 1=(pB u)∧f 5=(pB g)∧f 6=h.v∧f 7=iV c∧f 8=iV y∧f 20=iV (o.length:Int)∧f 21=iV A∧f 25=iV (o.length:Int)∧f 26=iV d∧St w0 ros (box u 26 [m.v]::row 93 rH p.v x::fam 4 rB x B::row 4 rB q.v C::box g 138 [p.v,q.v]::row 3 I1 h.v D::rs) w) e9 ⟨_,_,_,_,rfl,rfl,a0,d4,a3,rfl,rfl,a4,a5,rfl,rfl,b⟩ ?_
   rintro _ _ w f0 ⟨c,y,d,f,rfl,rfl,K,E,L,F,N,O,R,S,G,b⟩ k f1 l6 f2 f3
   refine sR fun _ f4=>yY (ylss (eh G) (eh S)) (wK f4 (seqQ fun l7 f5 f6=>?_))
   refine cIf e0 k (fun f7 k=>?_) fun f7 k=>?_
   ·refine wp_skip (f5 _ _ (sQ fun _ f8=>blockQ fun f9 g0=>sR fun _ g1=>Ym (iV d) (eh G) (Ya (iV d) e0 (wK g1 (sR fun _ g2=>Ym (pB g) (eh E) (yY (yn e0) ?_))))))
    refine yY (yFb FL_138_0 e0) (yY (lb_ p.v O_136 e0 b R4) (Ym (iV d) e0 (bE k fun z g3 k=>?_)))
    have a6:=b
    replace b:=(b.pk 3 [1,1,0] rfl).ffz
    have H:=b.guest0
    replace b:=a6
    clear a6
    refine yC (yCall FN_109 (a2 e0 e0)) (graph_Sets_List_ok g3 F0 H) ?_
    clear H
    rintro _ w ⟨l8,rfl,H⟩
    replace b:=b.back1 H
    clear H
    refine ⟨_,rfl,?_⟩
    refine yY (yLen SL_22 e0 b rO0) (Ya (iV (z.length:Int)) e0 (wK g2 (sR fun _ g4=>Ym (pB g) (eh E) (yY (yn e0) (yY (yFb FL_138_1 e0) (yY (lb_ q.v O_93 e0 b R5) (Ym (iV d) e0 (bE k fun T a7 k=>yY (yIa SL_93 e0 e0 b rO4 a7) (yY (yB O_4 e0 b rO4 a7) ?_)))))))))
    refine yY (ynot e0) (Ym (.bool (!T)) e0 ?_)
    refine joinW 8 (fun f w=>f 1=(pB u)∧f 5=(pB g)∧f 6=h.v∧f 7=iV c∧f 8=iV y∧f 9=iV d∧f 10=iV (z.length:Int)∧f 20=iV (o.length:Int)∧f 21=iV A∧f 25=iV (o.length:Int)∧f 26=iV d∧f 52=.bool ((!T) && ((decide (c < 0)) || (decide ((z.length:Int) < y))))∧St w0 ros (box u 26 [m.v]::row 93 rH p.v x::fam 4 rB x B::row 4 rB q.v C::box g 138 [p.v,q.v]::row 3 I1 h.v D::rs) w) (fun a8=>?_) ?_
    ·rcases Bool.eq_false_or_eq_true (!T) with i | i
     ·refine yG i (m_ (iV c) (eh F)) (yG i (ylss e0 rfl) (yG i (m_ (.bool (decide (c < 0))) e0) ?_))
      refine joinW 4 (fun f w=>f 1=(pB u)∧f 5=(pB g)∧f 6=h.v∧f 7=iV c∧f 8=iV y∧f 9=iV d∧f 10=iV (z.length:Int)∧f 20=iV (o.length:Int)∧f 21=iV A∧f 25=iV (o.length:Int)∧f 26=iV d∧f 44=.bool (!T)∧f 45=iV c∧f 46=.bool (decide (c < 0))∧f 47=.bool (decide (c < 0))∧f 51=.bool ((decide (c < 0)) || (decide ((z.length:Int) < y)))∧St w0 ros (box u 26 [m.v]::row 93 rH p.v x::fam 4 rB x B::row 4 rB q.v C::box g 138 [p.v,q.v]::row 3 I1 h.v D::rs) w) (fun a9=>?_) ?_
      ·rcases Bool.eq_false_or_eq_true (decide (c < 0)) with t | t
       ·exact gN t (gN t (gN t (yG i (pt_ (.bool true) e0 t rfl) (a9 _ _ ⟨K,E,L,F,N,rfl,rfl,O,R,S,G,rfl,rfl,rfl,rfl,(congrArg Value.bool (orT t)),(b.pk 7 [1,1,1,1,1,1] rfl)⟩))))
       exact yG t (m_ (iV (z.length:Int)) e0) (yG t (m_ (iV y) (eh N)) (yG t (ylss e0 e0) (yG i (pf_ (.bool (decide ((z.length:Int) < y))) e0 t e0) (a9 _ _ ⟨K,E,L,F,N,rfl,rfl,O,R,S,G,rfl,rfl,rfl,rfl,(congrArg Value.bool (orF t)),(b.pk 7 [1,1,1,1,1,1] rfl)⟩))))
      rintro f w ⟨g5,g6,g7,g8,g9,h0,h1,h3,h4,h5,h6,h7,l9,m0,m1,h9,b⟩
      exact yY (pt_ (.bool ((decide (c < 0)) || (decide ((z.length:Int) < y)))) (eh h7) i (eh h9)) (a8 _ _ ⟨g5,g6,g7,g8,g9,h0,h1,h3,h4,h5,h6,(congrArg Value.bool (andT i)),b⟩)
     exact gN i (gN i (gN i (Gn (wxu rfl rfl rfl) rfl (Gn (wxu rfl rfl rfl) rfl (Gn (wxu rfl rfl rfl) rfl (gN i (yY (pf_ (.bool false) e0 i rfl) (a8 _ _ ⟨K,E,L,F,N,rfl,rfl,O,R,S,G,(congrArg Value.bool (andF i)),(b.pk 7 [1,1,1,1,1,1] rfl)⟩))))))))
    rintro f w ⟨b0,b1,b2,i0,i1,i2,i3,b4,b5,b6,b8,i4,b⟩
    refine wK g4 ?_
    have b9:∀ (V W:Int) (f:FV) w,f 1=(pB u)→f 5=(pB g)→f 6=h.v→f 7=iV V→f 8=iV W→f 20=iV (o.length:Int)→f 21=iV A→f 25=iV (o.length:Int)→f 26=iV d→St w0 ros (box u 26 [m.v]::row 93 rH p.v x::fam 4 rB x B::row 4 rB q.v C::box g 138 [p.v,q.v]::row 3 I1 h.v D::rs) w→mindeg_Exact_j40 d V W=some f0→f9 .normal (fr 65 f) w:=by
     intro V W f w i5 i6 i7 i8 i9 j0 j1 j2 j3 b j
     refine g0 _ _ _ (f8 _ _ (wR (yY (yadd (eh j3) rfl) (Ym (iV (wa .i64 d 1)) e0 (wN ?_)))))
     cases j
     exact f2 _ _ _ rfl ⟨_,_,_,_,rfl,rfl,i5,i6,i7,i8,i9,j0,j1,j2,rfl,b⟩
    refine cB (eh i4) k (fun j4 k=>?_) fun j4 k=>?_
    ·exact wR (Ym (iV d) (eh i2) (Ym (iV (z.length:Int)) (eh i3) (Ya (iV d) e0 (Ya (iV (z.length:Int)) e0 (wN (b9 _ _ _ _ b0 b1 b2 rfl rfl b4 b5 b6 b8 b k))))))
    exact wp_skip (b9 _ _ _ _ b0 b1 b2 i0 i1 b4 b5 b6 b8 b k)
   refine wp_exit (f6 _ _ _ rfl ?_)
   cases k
   refine f3 _ _ _ _ rfl rfl ?_
   obtain rfl:=f1 _ rfl
   refine e8 _ _ _ (e6 _ _ (sR fun _ j5=>Ym (pB g) (eh E) (Ym (iV c) (eh F) (bE r fun m2 j6 r=>?_))))
   replace b:=b.pk 5 [4,1,1,1,0] rfl
   refine yC (yCall FN_110 (a2 e0 e0)) (mindeg_Elimination_Eliminate_ok j6 b) ?_
   rintro _ w ⟨m3,rfl,b⟩
   refine ⟨_,rfl,?_⟩
   refine wK j5 (wR (Ym h.v (eh L) (Ym (iV c) (eh F) (yH (rLt (n:=1) (l:=[c]) b SL_22 [iV c] (bp1 e0) rfl rfl (mks1 (cs:=[iV c]) rfl mkI mks0)) fun m4 w b=>bE r fun m5 j7 r=>yH (rAp (b.pk 7 [6,0,0,0,0,0,0] rfl) SL_22 e0 e0 rO1 j7) fun j8 w b=>Ya j8.v e0 (wN (e4 _ _ _ (e3 _ _ ?_)))))))
   refine wR (yY (yadd (eh R) rfl) (Ym (iV (wa .i64 A 1)) e0 (wN ?_)))
   cases r
   exact d6 _ _ _ rfl ⟨_,_,_,_,_,_,rfl,rfl,K,E,rfl,O,rfl,((b.pk 7 [6,2,2,2,2,0] rfl).facts (allT allI))⟩
  refine wp_exit (e1 _ _ _ rfl ?_)
  cases r
  refine d7 _ _ _ _ rfl rfl ?_
  obtain rfl:=d5 _ rfl
  refine d2 _ _ _ (d0 _ _ (sR fun _ j9=>Ym h.v (eh a3) (Ya h.v e0 (Ya (iV 0) rfl (wK j9 (wp_ret ?_))))))
  cases j
  exact Z _ _ _ (fin2r Tryz.results90 ⟨rfl,rfl⟩ ⟨rfl,rfl⟩ ⟨_,rfl,(b.pk 6 [5] rfl)⟩)
 refine condT e0 (nT (dF U)) (sR fun _ k0=>Ym (iV J) e0 (Ya hnil.v rfl (Ya (iV J) e0 (wK k0 (wp_ret (c4 _ _ _ rfl ?_))))))
 cases j
 replace b:=b.rowNh 3 I1
 exact Z _ _ _ (fin2r Tryz.results90 ⟨rfl,rfl⟩ ⟨rfl,rfl⟩ ⟨_,rfl,(b.pk 2 [0] rfl)⟩)
theorem graph_Induced_1_ok {c:Int} {g:L2} {d:Nat} {a:Hdr} {out:Bool} (f:graph_Induced_1 c g=some out) (h:imm S1 a.v g∈ros) (b:St w0 ros (box d 26 [a.v]::rs) w):
  Calls Tryz.prog 111 #[iV c,(pB d)] w (fun e w=>e=.returned (.bool out)∧St w0 ros (box d 26 [a.v]::rs) w):=by
 refine enterQ Tryz.func111 rfl Tryz.ntmps111 rfl fun Q i=>sR fun _ j=>Ya (.bool false) rfl (wK j (sR fun _ k=>yY (lbs_ [a.v] ST_26 e0 b R0) (Ym (iV c) e0 (bE f fun l m f=>yC (yCall FN_112 (a2 e0 e0)) (graph_vertex_ok m h b) ?_))))
 rintro _ w ⟨rfl,b⟩
 refine ⟨_,rfl,?_⟩
 refine yY (ynot e0) (Ya (.bool (!l)) e0 (wK k (wp_ret ?_)))
 cases f
 exact i _ _ _ (fin1r Tryz.results111 ⟨rfl,rfl⟩ ⟨rfl,b⟩)
theorem slices_IndexFunc_int_v3_ok {k:LI} {n:L2} {h:Hdr} {g:Nat} {i:Hdr} {out:Int} (j:slices_IndexFunc_int_v3 k n=some out) (l:imm I1 h.v k∈ros) (A:imm S1 i.v n∈ros) (c:St w0 ros (box g 26 [i.v]::rs) w):
  Calls Tryz.prog 80 #[h.v,.func (.func 111) #[] #[(pB g)]] w (fun e w=>e=.returned (iV out)∧St w0 ros (box g 26 [i.v]::rs) w):=by
 refine enterQ Tryz.func80 rfl Tryz.ntmps80 rfl fun Q o=>sR fun _ B=>Ya (iV 0) rfl (wK B (seqQ fun W C D=>sR fun _ E=>Ym h.v e0 (yY (yLen SL_22 e0 c (rdI l)) (Ym (iV 0) rfl (wK E ?_)))))
 refine blockQ fun _ p=>bE j fun X F j=>?_
 refine loopQ (fun s a w=>∃ (d:Int) (f:FV),d=s∧a=fr 19 f∧f 0=h.v∧f 1=.func (.func 111) #[] #[(pB g)]∧f 7=iV (k.length:Int)∧f 8=iV d∧St w0 ros (box g 26 [i.v]::rs) w) F ⟨_,_,rfl,rfl,rfl,rfl,rfl,rfl,c⟩ ?_
 rintro _ _ w Z ⟨d,f,rfl,rfl,q,r,t,m,c⟩ b u a0 G x
 refine sR fun _ H=>yY (ylss (eh m) (eh t)) (wK H (seqQ fun a2 I J=>?_))
 refine cIf e0 b (fun K b=>?_) fun K b=>?_
 ·refine wp_skip (I _ _ (seqQ fun a3 L N=>blockQ fun _ y=>sR fun _ O=>Ym (iV d) (eh m) (Ya (iV d) e0 (wK O (sR fun _ R=>Ym (.func (.func 111) #[] #[(pB g)]) (eh r) (Ym h.v (eh q) ?_))))))
  refine Ym (iV d) e0 (bE b fun a4 z b=>yY (yIa SL_22 e0 e0 c (rdI l) z) (yY (yI O_3 e0 c (rdI l) z) (bE b fun a5 S b=>yC (yCallw FN_111 e0 (a1 e0)) (graph_Induced_1_ok S A c) ?_)))
  rintro _ w ⟨rfl,c⟩
  refine ⟨_,rfl,?_⟩
  refine wK R (cB e0 b (fun T b=>?_) fun T b=>?_)
  ·refine sR fun _ U=>Ym (iV d) e0 (Ya (iV d) e0 (wK U (wp_ret (y _ _ _ (N _ _ _ rfl ?_)))))
   cases b
   refine x _ _ _ _ rfl rfl ?_
   obtain rfl:=u _ rfl
   refine p _ _ _ (D _ _ _ rfl ?_)
   cases j
   exact o _ _ _ (fin1r Tryz.results80 ⟨rfl,rfl⟩ ⟨rfl,c⟩)
  refine wp_skip (y _ _ _ (L _ _ (wR (yY (yadd (eh m) rfl) (Ym (iV (wa .i64 d 1)) e0 (wN ?_))))))
  cases b
  exact G _ _ _ rfl ⟨_,_,rfl,rfl,q,r,t,rfl,c⟩
 refine wp_exit (J _ _ _ rfl ?_)
 cases b
 refine x _ _ _ _ rfl rfl ?_
 obtain rfl:=u _ rfl
 refine p _ _ _ (C _ _ (sR fun _ V=>Ya (iV (-1)) rfl (wK V (wp_ret ?_))))
 cases j
 exact o _ _ _ (fin1r Tryz.results80 ⟨rfl,rfl⟩ ⟨rfl,c⟩)
theorem slices_ContainsFunc_int_v3_ok {g:LI} {h:L2} {b:Hdr} {a:Nat} {c:Hdr} {out:Bool} (d:slices_ContainsFunc_int_v3 g h=some out) (i:imm I1 b.v g∈ros) (j:imm S1 c.v h∈ros) (f:St w0 ros (box a 26 [c.v]::rs) w):
  Calls Tryz.prog 49 #[b.v,.func (.func 111) #[] #[(pB a)]] w (fun e w=>e=.returned (.bool out)∧St w0 ros (box a 26 [c.v]::rs) w):=by
 refine enterQ Tryz.func49 rfl Tryz.ntmps49 rfl fun Q k=>sR fun _ l=>Ya (.bool false) rfl (wK l (sR fun _ m=>Ym b.v e0 (Ym (.func (.func 111) #[] #[(pB a)]) e0 (bE d fun n o d=>yC (yCall FN_80 (a2 e0 e0)) (slices_IndexFunc_int_v3_ok o i j f) ?_))))
 rintro _ w ⟨rfl,f⟩
 refine ⟨_,rfl,?_⟩
 refine yY (ygeq e0 rfl) (Ya (.bool (decide ((0:Int)≤n))) e0 (wK m (wp_ret ?_)))
 cases d
 exact k _ _ _ (fin1r Tryz.results49 ⟨rfl,rfl⟩ ⟨rfl,f⟩)
end Go.Proofs.YthpeajepbffinaaGreat
