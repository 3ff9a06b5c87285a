/- Walks: each function computes its model, printed. -/
import Derived.Test.YthpeajepbffinaaGreatW5
namespace Go.Proofs.YthpeajepbffinaaGreat
open Go Sx M
set_option maxRecDepth 100000
set_option maxHeartbeats 40000000
set_option linter.unusedVariables false
attribute [local irreducible] wpList Code.wp Calls DR QR QS LA LS St
variable {w0:World} {ros:List Fact} {rs:List Res} {w:World}
theorem sparseref13_Reach_ok {o m:Int} {d3 d4 d5 u x:LI} {y:List Bool} {c:Nat} {p r z g h i:Hdr} {out:(List Bool)×(List Bool)} (A:sparseref13_Reach o m d3 d4 d5 u x y=some out) (T:imm I1 p.v d3∈ros) (d6:imm I1 r.v d4∈ros) (r3:imm (rI .u64) z.v d5∈ros) (b:St w0 ros (box c 133 [iV o,iV m,p.v,r.v,z.v,g.v,h.v,i.v]::row 3 I1 g.v u::row 3 I1 h.v x::row 4 rB i.v y::rs) w):
  Calls Tryz.prog 88 #[(pB c)] w (fun e w=>∃ (d7 d8:Hdr),e=.returned (.tuple #[d7.v,d8.v])∧St w0 ros (row 3 I1 g.v u::row 3 I1 h.v x::row 4 rB i.v y::box c 133 [iV o,iV m,p.v,r.v,z.v,g.v,h.v,i.v]::row 4 rB d7.v out.1::row 4 rB d8.v out.2::rs) w):=by
 refine enterQ Tryz.func88 rfl Tryz.ntmps88 rfl fun Q g4=>sR fun _ k1=>Ya hnil.v rfl (Ya hnil.v rfl (wK k1 (sQ fun _ g5=>bE A fun U d9 A=>bE A fun g6 a3 A=>?_)))
 refine joinN (n:=119) (fun f w=>∃ (j d:Hdr),f 0=(pB c)∧f 4=j.v∧f 5=d.v∧St w0 ros (row 3 I1 g.v u::row 3 I1 h.v x::row 4 rB i.v y::box c 133 [iV o,iV m,p.v,r.v,z.v,g.v,h.v,i.v]::row 4 rB j.v U::row 4 rB d.v g6::rs) w) (fun a4=>?_) ?_
 ·refine dR [0,1,3,7,15,31,0,64,192,448,960,1984,63,8191] [5,11,12,13] 4 folM ?_
  replace b:=b.drew
  refine Dn [0,1,2,3,4,6,7,8,9,10] [] [5,11] (yR rfl (m_ (pB c) e0) (yR rfl (yn e0) (yR rfl (yFb FL_133_0 e0) (yR rfl (yFb FL_91_0 e0) (yR rfl (lb_ (iV o) O_3 e0 b R0) (yR rfl (m_ (pB c) e0) (yR rfl (yn e0) (yR rfl (yFb FL_133_0 e0) (yR rfl (yFb FL_91_1 e0) (yR rfl (lb_ (iV m) O_3 e0 b R0) (Rn QSn ?_)))))))))))
  refine Lc rfl ?_ (Lc1 rfl ?_)
  ·refine LH wn (rMk b SL_93 e0 d9) fun V w b=>Dn [] [6,7,8,9,10] [11,12] (Rn (yS rfl (m_ (pB c) e0) (yS rfl (yn e0) (yS rfl (yFb FL_133_0 e0) (yS rfl (yFb FL_91_1 e0) (yS rfl (lb_ (iV m) O_3 e0 b R1) QSn))))) ?_)
   refine Lc rfl ?_ (Lc1 rfl ?_)
   ·refine LH wn (rMk b SL_93 e0 a3) fun O w b=>Dn [] [] [12] (Rn QSn ?_)
    refine Lc1 rfl ?_
    refine Ly wn (a_ V.v e0) (Dn [] [] [13] (Rn QSn ?_))
    refine Lc1 rfl ?_
    exact Ly wn (a_ O.v e0) (Dz [] [] (Rn QSn (a4 _ _ ⟨_,_,rfl,rfl,rfl,(b.pk 6 [3,3,3,2,1,0] rfl)⟩)))
   ·refine Ly wn (a_ V.v e0) (Dn [] [6,7,8,9,10] [11] (Rn (yS rfl (m_ (pB c) e0) (yS rfl (yn e0) (yS rfl (yFb FL_133_0 e0) (yS rfl (yFb FL_91_1 e0) (yS rfl (lb_ (iV m) O_3 e0 b R1) QSn))))) ?_))
    refine Lc1 rfl ?_
    refine LH wn (rMk b SL_93 e0 a3) fun O w b=>Dn [] [] [13] (Rn QSn ?_)
    refine Lc1 rfl ?_
    exact Ly wn (a_ O.v e0) (Dz [] [] (Rn QSn (a4 _ _ ⟨_,_,rfl,rfl,rfl,(b.pk 6 [3,3,3,2,1,0] rfl)⟩)))
  ·refine LH wn (rMk b SL_93 e0 a3) fun O w b=>Dn [] [0,1,2,3,4] [5] (Rn (yS rfl (m_ (pB c) e0) (yS rfl (yn e0) (yS rfl (yFb FL_133_0 e0) (yS rfl (yFb FL_91_0 e0) (yS rfl (lb_ (iV o) O_3 e0 b R1) QSn))))) ?_)
   refine Lc1 rfl ?_
   refine LH wn (rMk b SL_93 e0 d9) fun V w b=>Dn [] [] [12] (Rn QSn ?_)
   refine Lc1 rfl ?_
   refine Ly wn (a_ V.v e0) (Dn [] [] [13] (Rn QSn ?_))
   refine Lc1 rfl ?_
   exact Ly wn (a_ O.v e0) (Dz [] [] (Rn QSn (a4 _ _ ⟨_,_,rfl,rfl,rfl,(b.pk 6 [3,3,3,2,0,0] rfl)⟩)))
 rintro f w ⟨j,d,F,I,J,b⟩
 refine g5 _ _ (sR fun _ g7=>Ya hnil.v rfl (wK g7 (sQ fun _ g8=>sR fun _ g9=>Ya (iV 0) rfl (wK g9 (blockQ fun h0 h1=>bE A fun h2 h3 A=>?_)))))
 have h4:∀ (a5:List Bool) (a6:LI) (a7:Hdr) (f:FV) w,f 0=(pB c)→f 4=j.v→f 5=d.v→f 6=a7.v→St w0 ros (row 3 I1 g.v u::row 3 I1 h.v x::row 4 rB i.v y::box c 133 [iV o,iV m,p.v,r.v,z.v,g.v,h.v,i.v]::row 4 rB j.v U::row 4 rB d.v a5::row 3 I1 a7.v a6::rs) w→(a5,a6)=h2→h0 (.exit 0) (fr 119 f) w:=by
  intro a5 a6 a7 f w h6 h8 i0 i1 b ho
  subst ho
  refine h1 _ _ _ (g8 _ _ (sQ fun _ i2=>blockQ fun i3 i4=>bE A fun i5 i6 A=>?_))
  have i7:∀ (a8 a9:List Bool) (f:FV) w,f 4=j.v→f 5=d.v→St w0 ros (row 3 I1 g.v u::row 3 I1 h.v x::row 4 rB i.v y::box c 133 [iV o,iV m,p.v,r.v,z.v,g.v,h.v,i.v]::row 4 rB j.v a8::row 4 rB d.v a9::rs) w→(a8,a9)=i5→i3 (.exit 2) (fr 119 f) w:=by
   intro a8 a9 f w i8 i9 b ho
   subst ho
   refine i4 _ _ _ (i2 _ _ (sR fun _ j0=>Ym j.v (eh i8) (Ym d.v (eh i9) (Ya j.v e0 (Ya d.v e0 (wK j0 (wp_ret ?_)))))))
   cases A
   exact g4 _ _ _ (fin2r Tryz.results88 ⟨rfl,rfl⟩ ⟨rfl,rfl⟩ ⟨_,_,rfl,b⟩)
  refine loopQ (fun s a w=>∃ (b0 b2:List Bool) (W:LI) (f:FV) (G:Hdr),(b0,b2,W)=s∧a=fr 119 f∧f 0=(pB c)∧f 4=j.v∧f 5=d.v∧f 6=G.v∧St w0 ros (row 3 I1 g.v u::row 3 I1 h.v x::row 4 rB i.v y::box c 133 [iV o,iV m,p.v,r.v,z.v,g.v,h.v,i.v]::row 4 rB j.v b0::row 4 rB d.v b2::row 3 I1 G.v W::rs) w) i6 ⟨_,_,_,_,_,rfl,rfl,h6,h8,i0,i1,b⟩ ?_
  rintro _ _ w r4 ⟨b0,b2,W,f,G,rfl,rfl,e1,e2,e3,R,b⟩ B j2 r5 j3 j4
  refine seqQ fun r6 j5 j6=>sR fun _ j7=>Ym G.v (eh R) (yY (yLen SL_22 e0 b rO6) (yY (ygtr e0 rfl) (wK j7 ?_)))
  refine cIf e0 B (fun j8 B=>?_) fun j8 B=>?_
  ·refine wp_skip (j5 _ _ (blockQ fun _ j9=>sR fun _ k0=>Ym G.v (eh R) (Ym G.v (eh R) (yY (yLen SL_22 e0 b rO6) (yY (ysub e0 rfl) (bE B fun K e4 B=>yY (yIa SL_22 e0 e0 b rO6 e4) (yY (yI O_3 e0 b rO6 e4) (Ya (iV K) e0 (wN ?_)))))))))
   refine k0 _ _ (sR fun _ k6=>Ym G.v (eh R) (Ym G.v (eh R) (yY (yLen SL_22 e0 b rO6) (yY (ysub e0 rfl) (bE B fun r7 e5 B=>?_)))))
   replace b:=b.pk 7 [6,0,0,0,0,0,0] rfl
   refine yY (ySl (k1:=.i64) (hi:=(ws .i64 (W.length:Int) 1:Int)) SL_22 e0 b rO0 (.inr ⟨rfl,rfl⟩) (.inl (congrArg some e0)) e5) ?_
   obtain ⟨k7,eh247,b⟩:=b.resl e5
   rw [← eh247]
   refine Ya k7.v e0 (wK k6 (sR fun _ k8=>Ym (pB c) (eh e1) (yY (yn e0) (yY (yFb FL_133_0 e0) (yY (yFb FL_91_2 e0) (yY (lb_ p.v O_22 e0 b R4) (Ym (iV K) e0 (bE B fun k9 e6 B=>yY (yIa SL_22 e0 e0 b (rdI T) e6) (yY (yI O_3 e0 b (rdI T) e6) ?_)))))))))
   refine Ya (iV k9) e0 (wK k8 (blockQ fun l0 l1=>bE B fun l2 l3 B=>?_))
   have l4:∀ (b3 b4:List Bool) (b5:LI) (b6:Hdr) (f:FV) w,f 0=(pB c)→f 4=j.v→f 5=d.v→f 6=b6.v→St w0 ros (row 3 I1 g.v u::row 3 I1 h.v x::row 4 rB i.v y::box c 133 [iV o,iV m,p.v,r.v,z.v,g.v,h.v,i.v]::row 4 rB j.v b3::row 4 rB d.v b4::row 3 I1 b6.v b5::rs) w→(b3,b4,b5)=l2→l0 (.exit 4) (fr 119 f) w:=by
    intro b3 b4 b5 b6 f w l5 l6 l7 l8 b ho
    subst ho
    refine l1 _ _ _ (j9 _ _ _ ?_)
    cases B
    exact j3 _ _ _ rfl ⟨_,_,_,_,_,rfl,rfl,l5,l6,l7,l8,b⟩
   refine loopQ (fun s a w=>∃ (b7 X:List Bool) (Z:LI) (D:Int) (f:FV) (L:Hdr),(b7,X,Z,D)=s∧a=fr 119 f∧f 0=(pB c)∧f 4=j.v∧f 5=d.v∧f 6=L.v∧f 8=iV K∧f 9=iV D∧St w0 ros (row 3 I1 g.v u::row 3 I1 h.v x::row 4 rB i.v y::box c 133 [iV o,iV m,p.v,r.v,z.v,g.v,h.v,i.v]::row 4 rB j.v b7::row 4 rB d.v X::row 3 I1 L.v Z::rs) w) l3 ⟨_,_,_,_,_,_,rfl,rfl,e1,e2,e3,rfl,rfl,rfl,(b.pk 7 [1,1,1,1,1,1,0] rfl)⟩ ?_
   rintro _ _ w l9 ⟨b7,X,Z,D,f,L,rfl,rfl,F,I,J,b8,b9,a0,b⟩ k m0 r8 m1 m2
   refine seqQ fun r9 m3 m4=>sR fun _ m5=>Ym (iV D) (eh a0) (Ym (pB c) (eh F) (yY (yn e0) (yY (yFb FL_133_0 e0) (yY (yFb FL_91_2 e0) (yY (lb_ p.v O_22 e0 b R3) (Ym (iV K) (eh b9) (yY (yadd e0 rfl) (bE k fun s0 e7 k=>yY (yIa SL_22 e0 e0 b (rdI T) e7) (yY (yI O_3 e0 b (rdI T) e7) ?_)))))))))
   refine yY (ylss e0 e0) (wK m5 ?_)
   refine cIf e0 k (fun m6 k=>?_) fun m6 k=>?_
   ·refine wp_skip (m3 _ _ (sQ fun _ m7=>blockQ fun m8 m9=>sR fun _ n0=>Ym (pB c) (eh F) (yY (yn e0) (yY (yFb FL_133_0 e0) (yY (yFb FL_91_3 e0) (yY (lb_ r.v O_22 e0 b R3) (Ym (iV D) (eh a0) (bE k fun c0 e8 k=>yY (yIa SL_22 e0 e0 b (rdI d6) e8) ?_))))))))
    refine yY (yI O_3 e0 b (rdI d6) e8) (Ya (iV c0) e0 (wK n0 (sR fun _ n1=>Ym j.v (eh I) (Ym (iV c0) e0 (bE k fun c1 e9 k=>yY (yIs SL_93 e0 e0 b rO4 e9) (yT (r_sti (cs:=[.bool true]) (b.pk 5 [4,0,0,0,0] rfl) O_4 rfl e0 rfl rfl mkB e9) fun w b=>wK n1 ?_))))))
    refine sR fun _ n2=>Ym (pB c) (eh F) (yY (yn e0) (yY (yFb FL_133_1 e0) (yY (lb_ g.v O_22 e0 b R4) (Ym (iV c0) e0 (bE k fun E f0 k=>yY (yIa SL_22 e0 e0 b rO1 f0) (yY (yI O_3 e0 b rO1 f0) (Ya (iV E) e0 (wK n2 (sQ fun _ n3=>?_)))))))))
    refine wR (Ym (iV E) e0 (yY (ygeq e0 rfl) (Ym (.bool (decide ((0:Int)≤E))) e0 (bE k fun n5 H k=>?_))))
    refine joinW 6 (fun f w=>f 0=(pB c)∧f 4=j.v∧f 5=d.v∧f 6=L.v∧f 8=iV K∧f 9=iV D∧f 11=iV E∧f 109=.bool n5∧St w0 ros (row 3 I1 g.v u::row 3 I1 h.v x::row 4 rB i.v y::box c 133 [iV o,iV m,p.v,r.v,z.v,g.v,h.v,i.v]::row 4 rB j.v c1::row 4 rB d.v X::row 3 I1 L.v Z::rs) w) (fun f1=>?_) ?_
    ·rcases iteS H with ⟨C,H⟩ | ⟨C,H⟩
     ·refine yG (dT C) (m_ d.v (eh J)) (yG (dT C) (m_ (iV E) e0) (bE H fun n6 f2 H=>yG (dT C) (yIa SL_93 e0 e0 b rO5 f2) (yG (dT C) (yB O_4 e0 b rO5 f2) (yG (dT C) (ynot e0) (yY (pt_ (.bool (!n6)) e0 (dT C) e0) ?_)))))
      cases H
      exact f1 _ _ ⟨F,I,J,b8,b9,a0,rfl,rfl,(b.pk 7 [1,1,1,1,0,0,0] rfl)⟩
     ·refine gN (dF C) (gN (dF C) (gN (dF C) (gN (dF C) (gN (dF C) (yY (pf_ (.bool false) e0 (dF C) rfl) ?_)))))
      cases H
      exact f1 _ _ ⟨F,I,J,b8,b9,a0,rfl,rfl,(b.pk 7 [1,1,1,1,0,0,0] rfl)⟩
    rintro f w ⟨f3,f4,c2,f5,f6,f7,f8,n7,b⟩
    refine wK n3 ?_
    have f9:∀ (c3:List Bool) (c4:LI) (c5:Hdr) (f:FV) w,f 0=(pB c)→f 4=j.v→f 5=d.v→f 6=c5.v→f 8=iV K→f 9=iV D→St w0 ros (row 3 I1 g.v u::row 3 I1 h.v x::row 4 rB i.v y::box c 133 [iV o,iV m,p.v,r.v,z.v,g.v,h.v,i.v]::row 4 rB j.v c1::row 4 rB d.v c3::row 3 I1 c5.v c4::rs) w→sparseref13_Reach_j26 c1 D c3 c4=some l9→m8 .normal (fr 119 f) w:=by
     intro c3 c4 c5 f w n8 n9 o0 o1 o2 o3 b A
     refine m9 _ _ _ (m7 _ _ (wR (Ym (iV D) (eh o3) (yY (yadd e0 rfl) (Ya (iV (wa .i64 D 1)) e0 (wN ?_))))))
     cases A
     exact m1 _ _ _ rfl ⟨_,_,_,_,_,_,rfl,rfl,n8,n9,o0,o1,o2,rfl,b⟩
    refine cB (eh n7) k (fun o5 k=>?_) fun o5 k=>?_
    ·refine sR fun _ o6=>Ym d.v (eh c2) (Ym (iV E) (eh f8) (bE k fun s1 g0 k=>yY (yIs SL_93 e0 e0 b rO5 g0) (yT (r_sti (cs:=[.bool true]) (b.pk 6 [5,0,0,0,0,0] rfl) O_4 rfl e0 rfl rfl mkB g0) fun w b=>wK o6 (wR (Ym L.v (eh f5) (Ym (iV E) (eh f8) (yH (rLt (n:=1) (l:=[E]) b SL_22 [iV E] (bp1 e0) rfl rfl (mks1 (cs:=[iV E]) rfl mkI mks0)) ?_)))))))
     exact fun s2 w b=>bE k fun s3 o7 k=>yH (rAp (b.pk 8 [7,0,0,0,0,0,0,0] rfl) SL_22 e0 e0 rO1 o7) fun o8 w b=>Ya o8.v e0 (wN (f9 _ _ _ _ _ f3 f4 c2 rfl f6 f7 (b.pk 8 [3,3,3,3,3,2,0] rfl) k))
    ·exact wp_skip (f9 _ _ _ _ _ f3 f4 c2 f5 f6 f7 b k)
   ·refine wp_exit (m4 _ _ _ rfl ?_)
    cases k
    exact m2 _ _ _ _ rfl rfl (l4 _ _ _ _ _ _ F I J b8 b (m0 _ rfl))
  ·refine wp_exit (j6 _ _ _ rfl ?_)
   cases B
   exact j4 _ _ _ _ rfl rfl (i7 _ _ _ _ e2 e3 (b.pk 7 [0,0,0,0,0,0] rfl) (j2 _ rfl))
 replace b:=b.rowNh 3 I1
 refine loopQ (fun s a w=>∃ (c6:List Bool) (c7:LI) (t:Int) (f:FV) (a1:Hdr),(c6,c7,t)=s∧a=fr 119 f∧f 0=(pB c)∧f 4=j.v∧f 5=d.v∧f 6=a1.v∧f 7=iV t∧St w0 ros (row 3 I1 g.v u::row 3 I1 h.v x::row 4 rB i.v y::box c 133 [iV o,iV m,p.v,r.v,z.v,g.v,h.v,i.v]::row 4 rB j.v U::row 4 rB d.v c6::row 3 I1 a1.v c7::rs) w) h3 ⟨_,_,_,_,_,rfl,rfl,F,I,J,rfl,rfl,(b.pk 7 [1,1,1,1,1,1,0] rfl)⟩ ?_
 rintro _ _ w o9 ⟨c6,c7,t,f,a1,rfl,rfl,S,c8,a2,c9,N,b⟩ q p0 s4 p1 p2
 refine seqQ fun s5 p3 p4=>sR fun _ p5=>Ym (iV t) (eh N) (Ym (pB c) (eh S) (yY (yn e0) (yY (yFb FL_133_0 e0) (yY (yFb FL_91_1 e0) (yY (lb_ (iV m) O_3 e0 b R3) (yY (ylss e0 e0) (wK p5 ?_)))))))
 refine cIf e0 q (fun p6 q=>?_) fun p6 q=>?_
 ·refine wp_skip (p3 _ _ (sQ fun _ p7=>blockQ fun p8 p9=>sR fun _ q0=>Ym (pB c) (eh S) (yY (yn e0) (yY (yFb FL_133_2 e0) (yY (lb_ h.v O_22 e0 b R3) (Ym (iV t) (eh N) (bE q fun s6 g1 q=>yY (yIa SL_22 e0 e0 b rO1 g1) (yY (yI O_3 e0 b rO1 g1) ?_))))))))
  refine yY (ylss e0 rfl) (wK q0 ?_)
  have g2:∀ (d0:List Bool) (d1:LI) (d2:Hdr) (f:FV) w,f 0=(pB c)→f 4=j.v→f 5=d.v→f 6=d2.v→f 7=iV t→St w0 ros (row 3 I1 g.v u::row 3 I1 h.v x::row 4 rB i.v y::box c 133 [iV o,iV m,p.v,r.v,z.v,g.v,h.v,i.v]::row 4 rB j.v U::row 4 rB d.v d0::row 3 I1 d2.v d1::rs) w→sparseref13_Reach_j27 t d0 d1=some o9→p8 .normal (fr 119 f) w:=by
   intro d0 d1 d2 f w q4 q5 q6 q7 q8 b A
   refine p9 _ _ _ (p7 _ _ (wR (Ym (iV t) (eh q8) (yY (yadd e0 rfl) (Ya (iV (wa .i64 t 1)) e0 (wN ?_))))))
   cases A
   exact p1 _ _ _ rfl ⟨_,_,_,_,_,rfl,rfl,q4,q5,q6,q7,rfl,b⟩
  refine cIf e0 q (fun q9 q=>?_) fun q9 q=>?_
  ·refine sR fun _ r0=>Ym d.v (eh a2) (Ym (iV t) (eh N) (bE q fun s7 g3 q=>yY (yIs SL_93 e0 e0 b rO5 g3) (yT (r_sti (cs:=[.bool true]) (b.pk 6 [5,0,0,0,0,0] rfl) O_4 rfl e0 rfl rfl mkB g3) fun w b=>wK r0 (wR (Ym a1.v (eh c9) (Ym (iV t) (eh N) (yH (rLt (n:=1) (l:=[t]) b SL_22 [iV t] (bp1 e0) rfl rfl (mks1 (cs:=[iV t]) rfl mkI mks0)) ?_)))))))
   exact fun s8 w b=>bE q fun s9 r1 q=>yH (rAp (b.pk 8 [7,0,0,0,0,0,0,0] rfl) SL_22 e0 e0 rO1 r1) fun r2 w b=>Ya r2.v e0 (wN (g2 _ _ _ _ _ S c8 a2 rfl N (b.pk 8 [3,3,3,3,3,2,0] rfl) q))
  ·exact wp_skip (g2 _ _ _ _ _ S c8 a2 c9 N b q)
 ·refine wp_exit (p4 _ _ _ rfl ?_)
  cases q
  exact p2 _ _ _ _ rfl rfl (h4 _ _ _ _ _ S c8 a2 c9 b (p0 _ rfl))
theorem sparseref13_Chosen_ok {z:List Bool} {h:Bool} {g:Hdr} {out:LI} (i:sparseref13_Chosen z h=some out) (p:imm rB g.v z∈ros) (b:St w0 ros rs w):
  Calls Tryz.prog 61 #[g.v,.bool h] w (fun e w=>∃ (A:Hdr),e=.returned (A.v)∧St w0 ros (row 3 I1 A.v out::rs) w):=by
 refine enterQ Tryz.func61 rfl Tryz.ntmps61 rfl fun Q D=>sR fun _ E=>Ya hnil.v rfl (wK E (sR fun _ F=>Ya hnil.v rfl (wK F (sQ fun _ G=>sR fun _ H=>?_))))
 refine Ya (iV 0) rfl (wK H (blockQ fun I J=>bE i fun K L i=>?_))
 have N:∀ (q:LI) (j:Hdr) (f:FV) w,f 5=j.v→St w0 ros (row 3 I1 j.v q::rs) w→q=K→I (.exit 0) (fr 24 f) w:=by
  intro q j f w O b ho
  subst ho
  refine J _ _ _ (G _ _ (sR fun _ R=>Ym j.v (eh O) (Ya j.v e0 (wK R (wp_ret ?_)))))
  cases i
  exact D _ _ _ (fin1r Tryz.results61 ⟨rfl,rfl⟩ ⟨_,rfl,b⟩)
 replace b:=b.rowNh 3 I1
 refine loopQ (fun s a w=>∃ (r:LI) (c:Int) (f:FV) (m:Hdr),(r,c)=s∧a=fr 24 f∧f 0=g.v∧f 1=.bool h∧f 5=m.v∧f 6=iV c∧St w0 ros (row 3 I1 m.v r::rs) w) L ⟨_,_,_,_,rfl,rfl,rfl,rfl,rfl,rfl,b⟩ ?_
 rintro _ _ w S ⟨r,c,f,m,rfl,rfl,o,t,u,k,b⟩ d T b2 U V
 refine seqQ fun b3 W X=>sR fun _ Z=>Ym (iV c) (eh k) (Ym g.v (eh o) (yY (yLen SL_93 e0 b (rdI p)) (yY (ylss e0 e0) (wK Z ?_))))
 refine cIf e0 d (fun a0 d=>?_) fun a0 d=>?_
 ·refine wp_skip (W _ _ (sQ fun _ a1=>blockQ fun a2 a3=>sR fun _ a4=>Ym g.v (eh o) (Ym (iV c) (eh k) (bE d fun b4 B d=>yY (yIa SL_93 e0 e0 b (rdI p) B) (yY (yB O_4 e0 b (rdI p) B) (Ym (.bool h) (eh t) (yY (yeqb (by kernel_rfl) e0 e0) (wN ?_))))))))
  refine a4 _ _ ?_
  have C:∀ (x:LI) (y:Hdr) (f:FV) w,f 0=g.v→f 1=.bool h→f 5=y.v→f 6=iV c→St w0 ros (row 3 I1 y.v x::rs) w→sparseref13_Chosen_j4 c x=some S→a2 .normal (fr 24 f) w:=by
   intro x y f w a5 a6 a7 a8 b i
   refine a3 _ _ _ (a1 _ _ (wR (Ym (iV c) (eh a8) (yY (yadd e0 rfl) (Ya (iV (wa .i64 c 1)) e0 (wN ?_))))))
   cases i
   exact U _ _ _ rfl ⟨_,_,_,_,rfl,rfl,a5,a6,a7,rfl,b⟩
  refine cB e0 d (fun a9 d=>?_) fun a9 d=>?_
  ·exact wR (Ym m.v (eh u) (Ym (iV c) (eh k) (yH (rLt (n:=1) (l:=[c]) b SL_22 [iV c] (bp1 e0) rfl rfl (mks1 (cs:=[iV c]) rfl mkI mks0)) fun b5 w b=>bE d fun b6 b0 d=>yH (rAp (b.pk 2 [1,0] rfl) SL_22 e0 e0 rO1 b0) fun b1 w b=>Ya b1.v e0 (wN (C _ _ _ _ o t rfl k (b.pk 2 [0] rfl) d)))))
  ·exact wp_skip (C _ _ _ _ o t u k b d)
 ·refine wp_exit (X _ _ _ rfl ?_)
  cases d
  exact V _ _ _ _ rfl rfl (N _ _ _ _ u b (T _ rfl))
theorem sparseref13_Cover_ok {c d:Int} {r s t:LI} {f g h:Hdr} {out:LI×LI×Int} (b:sparseref13_Cover c d r s t=some out) (n:imm I1 f.v r∈ros) (o:imm I1 g.v s∈ros) (p:imm (rI .u64) h.v t∈ros) (a:St w0 ros rs w):
  Calls Tryz.prog 59 #[.agg #[iV c,iV d,f.v,g.v,h.v]] w (fun e w=>∃ (u x:Hdr),e=.returned (.tuple #[.agg #[u.v,x.v],iV out.2.2])∧St w0 ros (row 3 I1 u.v out.1::row 3 I1 x.v out.2.1::rs) w):=by
 refine enterQ Tryz.func59 rfl Tryz.ntmps59 rfl fun Q y=>sR fun _ z=>yBb (r_box (vals:=[iV c,iV d,f.v,g.v,h.v]) a e0 rfl) fun N w a=>yBb (rAl a ZT_86) fun O w a=>Ya (iV 0) rfl (wK z (seqQ fun R A B=>sR fun _ C=>yY (lbs_ [iV c,iV d,f.v,g.v,h.v] ST_91 e0 a R1) ?_))
 refine bE b fun i D b=>yC (yCall FN_87 (a1 e0)) (sparseref09_Check_ok D n o p a) ?_
 rintro _ w ⟨rfl,a⟩
 refine ⟨_,rfl,?_⟩
 refine Ya (iV i) e0 (wK C (sR fun _ E=>Ym (iV i) e0 (yY (yneq e0 rfl) (wK E ?_))))
 rcases iteS b with ⟨q,b⟩ | ⟨q,b⟩
 ·refine condF e0 (nF (dT q)) (wp_skip (A _ _ (sR fun _ F=>yY (lbs_ [iV c,iV d,f.v,g.v,h.v] ST_91 e0 a R1) (bE b fun S G b=>yC (yCall FN_89 (a1 e0)) (sparseref13_Find_ok G n o p a) ?_))))
  rintro _ w ⟨T,U,V,W,rfl,a⟩
  refine ⟨_,rfl,?_⟩
  refine bE b fun X H b=>?_
  replace a:=a.pk 4 [3,0,0,0] rfl
  refine yC (yCall FN_88 (a1 e0)) (sparseref13_Reach_ok H n o p a) ?_
  rintro _ w ⟨j,k,rfl,a⟩
  refine ⟨_,rfl,?_⟩
  refine Ym (.tuple #[j.v,k.v]) e0 (yY (x_ j.v e0) (yY (x_ k.v e0) (Ya j.v e0 (Ya k.v e0 (wK F (sR fun _ I=>Ym j.v e0 (bE b fun Z J b=>?_)))))))
  replace a:=(a.pk 5 [4,0,0,0,0] rfl).fz
  refine yC (yCall FN_61 (a2 e0 rfl)) (sparseref13_Chosen_ok J F0 a) ?_
  rintro _ w ⟨l,rfl,a⟩
  refine ⟨_,rfl,?_⟩
  refine Ym k.v e0 (bE b fun a0 K b=>?_)
  replace a:=(a.pk 6 [5,0,0,0,0,0] rfl).fz
  refine yC (yCall FN_61 (a2 e0 rfl)) (sparseref13_Chosen_ok K F0 a) ?_
  rintro _ w ⟨m,rfl,a⟩
  refine ⟨_,rfl,?_⟩
  refine yY (ybuild (us:=[l.v,m.v]) [(0,l.v),(1,m.v)] SO_86 (bp2 e0 e0) rfl) (yT (r_stbn (vals':=[l.v,m.v]) (us:=[l.v,m.v]) (a.pk 7 [6,0,0,0,0,0,0] rfl) ST_86 e0 e0 rfl rfl (one_of rfl) rfl) fun w a=>Ya (iV 0) rfl (wK I (wp_ret ?_)))
  cases b
  exact y _ _ _ (fin2r Tryz.results59 (rcs2 rfl rfl a R0 ST_86 rfl) ⟨rfl,rfl⟩ ⟨_,_,rfl,((a.pk 8 [2,1] rfl).facts (allT (allT allI)))⟩)
 ·refine condT e0 (nT (dF q)) (sR fun _ L=>yY (ybuild (us:=[hnil.v,hnil.v]) [] SO_86 bp0 rfl) (Ym (iV i) e0 (yT (r_stbn (vals':=[hnil.v,hnil.v]) (us:=[hnil.v,hnil.v]) a ST_86 e0 e0 rfl rfl (one_of rfl) rfl) fun w a=>Ya (iV i) e0 (wK L (wp_ret (B _ _ _ rfl ?_))))))
  cases b
  replace a:=(a.rowNh 3 I1).rowNh 3 I1
  exact y _ _ _ (fin2r Tryz.results59 (rcs2 rfl rfl a R2 ST_86 rfl) ⟨rfl,rfl⟩ ⟨_,_,rfl,(a.pk 4 [1,0] rfl)⟩)
theorem sparseref18_Separate_ok {e9:L2} {u:Hdr} {out:LI×LI×LI×Int} (c:sparseref18_Separate e9=some out) (K:imm S1 u.v e9∈ros) (b:St w0 ros rs w):
  Calls Tryz.prog 28 #[.agg #[u.v]] w (fun e w=>∃ (f0 f1 f2:Hdr),e=.returned (.tuple #[.agg #[f0.v,f1.v,f2.v],iV out.2.2.2])∧St w0 ros (row 3 I1 f0.v out.1::row 3 I1 f1.v out.2.1::row 3 I1 f2.v out.2.2.1::rs) w):=by
 refine enterQ Tryz.func28 rfl Tryz.ntmps28 rfl fun Q f3=>sR fun _ j0=>yBb (r_box (vals:=[u.v]) b e0 rfl) fun C w b=>yBb (rAl b ZT_46) fun g w b=>Ya (iV 0) rfl (wK j0 (seqQ fun A2 j1 j2=>sR fun _ j3=>yY (lbs_ [u.v] ST_26 e0 b R1) ?_))
 refine bE c fun a0 j4 c=>yC (yCall FN_54 (a1 e0)) (sparseref12_Check_ok j4 K b) ?_
 rintro _ w ⟨rfl,b⟩
 refine ⟨_,rfl,?_⟩
 refine Ya (iV a0) e0 (wK j3 (sR fun _ j5=>Ym (iV a0) e0 (yY (yneq e0 rfl) (wK j5 ?_))))
 rcases iteS c with ⟨b2,c⟩ | ⟨b2,c⟩
 ·refine condF e0 (nF (dT b2)) (wp_skip (j1 _ _ (sR fun _ j6=>yY (lbs_ [u.v] ST_26 e0 b R1) (bE c fun A3 j7 c=>yC (yCall FN_57 (a1 e0)) (sparseref18_Ones_ok j7 K b) ?_))))
  rintro _ w ⟨A4,A5,A6,rfl,b⟩
  refine ⟨_,rfl,?_⟩
  refine bE c fun r j8 c=>?_
  replace b:=b.fz.fz
  refine yC (yCall FN_17 (a1 e0)) (sparseref18_Bisect_ok j8 F2 F1 F0 b) ?_
  rintro _ w ⟨d,rfl,b⟩
  refine ⟨_,rfl,?_⟩
  refine Ym (.tuple #[d.v,iV r.2]) e0 (yY (x_ d.v e0) (yY (x_ (iV r.2) e0) (Ya d.v e0 (Ya (iV r.2) e0 (wK j6 (sQ fun _ j9=>bE c fun L k0 c=>bE c fun D l0 c=>dR [0,0,3,0,0,31,63,127] [2,5,6,7] 4 folM ?_))))))
  replace b:=b.drew
  refine Dn [0,1,3,4] [] [2] (yR rfl (lbs_ [u.v] ST_26 e0 b R2) (yR rfl (m_ d.v e0) (yR rfl (lbs_ [u.v] ST_26 e0 b R2) (yR rfl (m_ d.v e0) (Rn QSn ?_)))))
  refine Lc1 rfl ?_
  replace b:=b.fz
  refine Lk wn (yCall FN_58 (a3 e0 e0 rfl)) (sparseref18_border_ok k0 (F_4 K) F0 b) ?_
  rintro _ w ⟨o,rfl,b⟩
  refine ⟨_,rfl,?_⟩
  refine Dn [] [3,4] [5] (Rn (yS rfl (lbs_ [u.v] ST_26 e0 b R2) (yS rfl (m_ d.v e0) QSn)) ?_)
  refine Lc1 rfl ?_
  refine Lk wn (yCall FN_58 (a3 e0 e0 rfl)) (sparseref18_border_ok l0 (F_4 K) F0 b) ?_
  rintro _ w ⟨h,rfl,b⟩
  refine ⟨_,rfl,?_⟩
  refine Dn [] [] [6] (Rn QSn ?_)
  refine Lc1 rfl ?_
  refine Ly wn (a_ o.v e0) (Dn [] [] [7] (Rn QSn ?_))
  refine Lc1 rfl ?_
  refine Ly wn (a_ h.v e0) (Dz [] [] (Rn QSn (j9 _ _ (sR fun _ l1=>Ya hnil.v rfl (wK l1 (sQ fun _ l2=>sR fun _ l3=>Ya (iV 0) rfl (wN ?_)))))))
  refine l3 _ _ (blockQ fun l4 l5=>bE c fun l6 l7 c=>?_)
  have l8:∀ (b5:List (Int×Int×Int)) (a4:Hdr) (f:FV) w,f 2=(pB g)→f 5=d.v→f 7=o.v→f 8=h.v→f 9=a4.v→St w0 (imm I1 d.v r.1::ros) (box g 46 [hnil.v,hnil.v,hnil.v]::row 3 I1 o.v L::row 3 I1 h.v D::row 84 rTi64i64u64 a4.v b5::rs) w→b5=l6→l4 (.exit 0) (fr 148 f) w:=by
   intro b5 a4 f w l9 f4 f5 f6 m0 b ho
   subst ho
   refine l5 _ _ _ (l2 _ _ (sR fun _ m1=>Ym o.v (eh f5) (yY (yLen SL_22 e0 b rO1) (Ym h.v (eh f6) (yY (yLen SL_22 e0 b rO2) (Ym a4.v (eh m0) (bE c fun A7 m2 c=>?_)))))))
   replace b:=(b.pk 4 [3,0,0,0] rfl).fz
   refine yC (yCall FN_60 (a3 e0 e0 e0)) (sparseref09_Pack_ok m2 F0 b) ?_
   rintro _ w ⟨A8,A9,B0,rfl,b⟩
   refine ⟨_,rfl,?_⟩
   refine bE c fun B m3 c=>?_
   replace b:=(b.fz.fz).fz
   refine yC (yCall FN_59 (a1 e0)) (sparseref13_Cover_ok m3 F2 F1 F0 b) ?_
   rintro _ w ⟨x,y,rfl,b⟩
   refine ⟨_,rfl,?_⟩
   refine Ym (.tuple #[.agg #[x.v,y.v],iV B.2.2]) e0 (yY (x_ (.agg #[x.v,y.v]) e0) (yY (x_ (iV B.2.2) e0) (yBb (rAl b ZT_86) fun N w b=>yT (r_stbn (vals':=[x.v,y.v]) (us:=[x.v,y.v]) b ST_86 e0 e0 rfl rfl (one_of rfl) rfl) fun w b=>Ya (iV B.2.2) e0 (wK m1 (sR fun _ m4=>Ym d.v (eh f4) (yY (yLen SL_22 e0 b (rdI F4)) ?_))))))
   refine bE c fun B1 m5 c=>yH (rMk b SL_93 e0 m5) fun k w b=>Ya k.v e0 (wK m4 (sQ fun _ m6=>sR fun _ m7=>Ya (iV 0) rfl (wK m7 (blockQ fun m8 m9=>bE c fun n0 n1 c=>?_))))
   have n2:∀ (b6:List Bool) (f:FV) w,f 2=(pB g)→f 5=d.v→f 8=h.v→f 12=(pB N)→f 14=k.v→St w0 (imm I1 d.v r.1::ros) (box g 46 [hnil.v,hnil.v,hnil.v]::row 3 I1 h.v D::row 3 I1 x.v B.1::row 3 I1 y.v B.2.1::box N 86 [x.v,y.v]::row 4 rB k.v b6::rs) w→b6=n0→m8 (.exit 4) (fr 148 f) w:=by
    intro b6 f w n3 n4 n5 n6 n7 b ho
    subst ho
    refine m9 _ _ _ (m6 _ _ (sQ fun _ n8=>sR fun _ o0=>Ya (iV 0) rfl (wK o0 (blockQ fun o1 o2=>bE c fun o3 o4 c=>?_))))
    have o5:∀ (O:List Bool) (f:FV) w,f 2=(pB g)→f 5=d.v→f 14=k.v→St w0 (imm I1 d.v r.1::ros) (box g 46 [hnil.v,hnil.v,hnil.v]::row 4 rB k.v O::rs) w→O=o3→o1 (.exit 6) (fr 148 f) w:=by
     intro O f w o6 o7 f7 b ho
     subst ho
     refine o2 _ _ _ (n8 _ _ (sR fun _ o8=>Ym k.v (eh f7) (bE c fun a5 p0 c=>?_)))
     replace b:=(b.pk 2 [1,0] rfl).fz
     refine yC (yCall FN_61 (a2 e0 rfl)) (sparseref13_Chosen_ok p0 F0 b) ?_
     rintro _ w ⟨p,rfl,b⟩
     refine ⟨_,rfl,?_⟩
     refine yY (ybuild (us:=[hnil.v,hnil.v,p.v]) [(2,p.v)] SO_46 (bp1 e0) rfl) (yBb (rAl b ZT_46) fun E w b=>yT (r_stbn (vals':=[hnil.v,hnil.v,p.v]) (us:=[hnil.v,hnil.v,p.v]) b ST_46 e0 e0 rfl rfl (one_of rfl) rfl) fun w b=>wK o8 (sQ fun _ p1=>sR fun _ p2=>Ya (iV 0) rfl (wK p2 (blockQ fun p3 p4=>?_))))
     refine bE c fun p5 p6 c=>?_
     have p7:∀ (b7 b8:LI) (R S:Hdr) (f:FV) w,f 2=(pB g)→f 17=(pB E)→St w0 ros (box g 46 [hnil.v,hnil.v,hnil.v]::row 3 I1 R.v b7::row 3 I1 S.v b8::row 3 I1 p.v a5::box E 46 [R.v,S.v,p.v]::rs) w→(b7,b8)=p5→p3 (.exit 8) (fr 148 f) w:=by
      intro b7 b8 R S f w f8 p8 b ho
      subst ho
      refine p4 _ _ _ (p1 _ _ (sR fun _ p9=>yY (lbs_ [R.v,S.v,p.v] ST_46 (eh p8) b R4) (yT (r_stbn (vals':=[R.v,S.v,p.v]) (us:=[R.v,S.v,p.v]) b ST_46 (eh f8) e0 rfl rfl (one_of rfl) rfl) fun w b=>Ya (iV 0) rfl (wK p9 (wp_ret ?_)))))
      cases c
      exact f3 _ _ _ (fin2r Tryz.results28 (rcs2 rfl f8 b R0 ST_46 rfl) ⟨rfl,rfl⟩ ⟨_,_,_,rfl,(b.pk 5 [1,1,1] rfl)⟩)
     replace b:=(b.rowNh 3 I1).rowNh 3 I1
     refine loopQ (fun s a w=>∃ (b9 c0:LI) (j:Int) (f:FV) (T U:Hdr),(b9,c0,j)=s∧a=fr 148 f∧f 2=(pB g)∧f 5=d.v∧f 14=k.v∧f 17=(pB E)∧f 18=iV j∧St w0 (imm I1 d.v r.1::imm rB k.v O::ros) (box g 46 [hnil.v,hnil.v,hnil.v]::row 3 I1 T.v b9::row 3 I1 U.v c0::row 3 I1 p.v a5::box E 46 [T.v,U.v,p.v]::rs) w) p6 ⟨_,_,_,_,_,_,rfl,rfl,o6,o7,f7,rfl,rfl,((b.pk 5 [4,1,0,1,0] rfl).facts (allC F1 (allC F0 (allT (allT allI)))))⟩ ?_
     rintro _ _ w f9 ⟨b9,c0,j,f,T,U,rfl,rfl,a6,V,a7,F,G,b⟩ i q0 B2 q2 q3
     refine seqQ fun B3 q4 q5=>sR fun _ q6=>Ym (iV j) (eh G) (Ym d.v (eh V) (yY (yLen SL_22 e0 b (rdI F0)) (yY (ylss e0 e0) (wK q6 ?_))))
     refine cIf e0 i (fun q7 i=>?_) fun q7 i=>?_
     ·refine wp_skip (q4 _ _ (sQ fun _ q8=>blockQ fun _ q9=>blockQ fun g0 r0=>sR fun _ r1=>Ym k.v (eh a7) (Ym (iV j) (eh G) (bE i fun r2 g1 i=>yY (yIa SL_93 e0 e0 b (rdI F1) g1) (yY (yB O_4 e0 b (rdI F1) g1) (Ya (.bool r2) e0 (wN ?_)))))))
      refine r1 _ _ ?_
      have g2:∀ (c1 c2:LI) (c3 c4:Hdr) (f:FV) w,f 2=(pB g)→f 5=d.v→f 14=k.v→f 17=(pB E)→f 18=iV j→St w0 (imm I1 d.v r.1::imm rB k.v O::ros) (box g 46 [hnil.v,hnil.v,hnil.v]::row 3 I1 c3.v c1::row 3 I1 c4.v c2::row 3 I1 p.v a5::box E 46 [c3.v,c4.v,p.v]::rs) w→sparseref18_Separate_j20 j c1 c2=some f9→g0 .normal (fr 148 f) w:=by
       intro c1 c2 c3 c4 f w r3 r4 r6 r8 r9 b c
       refine r0 _ _ _ (q9 _ _ _ (q8 _ _ (wR (Ym (iV j) (eh r9) (yY (yadd e0 rfl) (Ya (iV (wa .i64 j 1)) e0 (wN ?_)))))))
       cases c
       exact q2 _ _ _ rfl ⟨_,_,_,_,_,_,rfl,rfl,r3,r4,r6,r8,rfl,b⟩
      refine cB e0 i (fun s0 i=>?_) fun s0 i=>?_
      ·exact wp_skip (g2 _ _ _ _ _ _ a6 V a7 F G b i)
      ·refine sR fun _ s1=>Ym d.v (eh V) (Ym (iV j) (eh G) (bE i fun s2 g3 i=>yY (yIa SL_22 e0 e0 b (rdI F0) g3) (yY (yI O_3 e0 b (rdI F0) g3) (yY (yeql e0 rfl) (Ya (.bool (decide (s2=0))) e0 (wK s1 ?_))))))
       have g4:∀ (c5 c7:LI) (c8 c9:Hdr) (f:FV) w,f 2=(pB g)→f 5=d.v→f 14=k.v→f 17=(pB E)→f 18=iV j→St w0 (imm I1 d.v r.1::imm rB k.v O::ros) (box g 46 [hnil.v,hnil.v,hnil.v]::row 3 I1 c8.v c5::row 3 I1 c9.v c7::row 3 I1 p.v a5::box E 46 [c8.v,c9.v,p.v]::rs) w→sparseref18_Separate_j21 j c5 c7=some f9→g0 .normal (fr 148 f) w:=by
        intro c5 c7 c8 c9 f w s3 s4 s5 s6 s7 b c
        exact g2 _ _ _ _ _ _ s3 s4 s5 s6 s7 b c
       refine cIf e0 i (fun s8 i=>?_) fun s8 i=>?_
       ·exact wR (yY (yFb FL_46_0 (eh F)) (yY (lb_ T.v O_22 e0 b R4) (Ym (iV j) (eh G) (yH (rLt (n:=1) (l:=[j]) b SL_22 [iV j] (bp1 e0) rfl rfl (mks1 (cs:=[iV j]) rfl mkI mks0)) fun B4 w b=>bE i fun B5 s9 i=>yH (rAp (b.pk 3 [2,0,0] rfl) SL_22 e0 e0 rO1 s9) fun t0 w b=>yY (yFb FL_46_0 (eh F)) (yT (r_stb1 (vals':=[t0.v,U.v,p.v]) (b.pk 6 [5,0,0,0,0,0] rfl) O_22 e0 e0 rfl rfl rfl rfl) fun w b=>wN (g4 _ _ _ _ _ _ a6 V a7 F G (b.pk 6 [3,1,2,2,0] rfl) i))))))
       ·exact wR (yY (yFb FL_46_1 (eh F)) (yY (lb_ U.v O_22 e0 b R4) (Ym (iV j) (eh G) (yH (rLt (n:=1) (l:=[j]) b SL_22 [iV j] (bp1 e0) rfl rfl (mks1 (cs:=[iV j]) rfl mkI mks0)) fun B6 w b=>bE i fun B7 t1 i=>yH (rAp (b.pk 4 [3,0,0,0] rfl) SL_22 e0 e0 rO1 t1) fun t2 w b=>yY (yFb FL_46_1 (eh F)) (yT (r_stb1 (vals':=[T.v,t2.v,p.v]) (b.pk 6 [5,0,0,0,0,0] rfl) O_22 e0 e0 rfl rfl rfl rfl) fun w b=>wN (g4 _ _ _ _ _ _ a6 V a7 F G (b.pk 6 [3,3,1,2,0] rfl) i))))))
     ·refine wp_exit (q5 _ _ _ rfl ?_)
      cases i
      exact q3 _ _ _ _ rfl rfl (p7 _ _ _ _ _ _ a6 F (b.facts (allT (allT allI))) (q0 _ rfl))
    refine loopQ (fun s a w=>∃ (d0:List Bool) (H:Int) (f:FV),(d0,H)=s∧a=fr 148 f∧f 2=(pB g)∧f 5=d.v∧f 8=h.v∧f 12=(pB N)∧f 14=k.v∧f 16=iV H∧St w0 (imm I1 d.v r.1::ros) (box g 46 [hnil.v,hnil.v,hnil.v]::row 3 I1 h.v D::row 3 I1 x.v B.1::row 3 I1 y.v B.2.1::box N 86 [x.v,y.v]::row 4 rB k.v d0::rs) w) o4 ⟨_,_,_,rfl,rfl,n3,n4,n5,n6,n7,rfl,b⟩ ?_
    rintro _ _ w B8 ⟨d0,H,f,rfl,rfl,g5,g6,g7,d1,d2,d3,b⟩ z t3 B9 t4 t5
    refine seqQ fun C0 t6 t7=>sR fun _ t8=>Ym (iV H) (eh d3) (yY (yFb FL_86_1 (eh d1)) (yY (lb_ y.v O_22 e0 b R4) (yY (yLen SL_22 e0 b rO3) (yY (ylss e0 e0) (wK t8 ?_)))))
    refine cIf e0 z (fun t9 z=>?_) fun t9 z=>?_
    ·refine wp_skip (t6 _ _ (sQ fun _ u0=>blockQ fun _ u1=>wR (Ym k.v (eh d2) (Ym h.v (eh g7) (yY (yFb FL_86_1 (eh d1)) (yY (lb_ y.v O_22 e0 b R4) (Ym (iV H) (eh d3) (bE z fun C1 g8 z=>yY (yIa SL_22 e0 e0 b rO3 g8) (yY (yI O_3 e0 b rO3 g8) (bE z fun C2 g9 z=>?_))))))))))
     refine yY (yIa SL_22 e0 e0 b rO1 g9) (yY (yI O_3 e0 b rO1 g9) (bE z fun C3 h0 z=>yY (yIs SL_93 e0 e0 b rO5 h0) (yT (r_sti (cs:=[.bool true]) (b.pk 6 [5,0,0,0,0,0] rfl) O_4 rfl e0 rfl rfl mkB h0) fun w b=>wN (u1 _ _ _ (u0 _ _ (wR (Ym (iV H) (eh d3) (yY (yadd e0 rfl) (Ya (iV (wa .i64 H 1)) e0 (wN ?_))))))))))
     cases z
     exact t4 _ _ _ rfl ⟨_,_,_,rfl,rfl,g5,g6,g7,d1,d2,rfl,(b.pk 6 [1,1,1,1,1,0] rfl)⟩
    ·refine wp_exit (t7 _ _ _ rfl ?_)
     cases z
     exact t5 _ _ _ _ rfl rfl (o5 _ _ _ g5 g6 d2 (b.pk 6 [0,4] rfl) (t3 _ rfl))
   refine loopQ (fun s a w=>∃ (d4:List Bool) (I:Int) (f:FV),(d4,I)=s∧a=fr 148 f∧f 2=(pB g)∧f 5=d.v∧f 7=o.v∧f 8=h.v∧f 12=(pB N)∧f 14=k.v∧f 15=iV I∧St w0 (imm I1 d.v r.1::ros) (box g 46 [hnil.v,hnil.v,hnil.v]::row 3 I1 o.v L::row 3 I1 h.v D::row 3 I1 x.v B.1::row 3 I1 y.v B.2.1::box N 86 [x.v,y.v]::row 4 rB k.v d4::rs) w) n1 ⟨_,_,_,rfl,rfl,l9,f4,f5,f6,rfl,rfl,rfl,((b.pk 7 [4,4,4,2,2,1,0] rfl).facts (allC F4 (allT (allT (allT (allT (allT allI)))))))⟩ ?_
   rintro _ _ w C4 ⟨d4,I,f,rfl,rfl,h1,h3,h4,h5,a8,d5,d6,b⟩ A u2 C5 u3 u4
   refine seqQ fun C6 u5 u6=>sR fun _ u7=>Ym (iV I) (eh d6) (yY (yFb FL_86_0 (eh a8)) (yY (lb_ x.v O_22 e0 b R5) (yY (yLen SL_22 e0 b rO3) (yY (ylss e0 e0) (wK u7 ?_)))))
   refine cIf e0 A (fun u8 A=>?_) fun u8 A=>?_
   ·refine wp_skip (u5 _ _ (sQ fun _ u9=>blockQ fun _ v0=>wR (Ym k.v (eh d5) (Ym o.v (eh h4) (yY (yFb FL_86_0 (eh a8)) (yY (lb_ x.v O_22 e0 b R5) (Ym (iV I) (eh d6) (bE A fun C7 h6 A=>yY (yIa SL_22 e0 e0 b rO3 h6) (yY (yI O_3 e0 b rO3 h6) (bE A fun C8 h7 A=>?_))))))))))
    refine yY (yIa SL_22 e0 e0 b rO1 h7) (yY (yI O_3 e0 b rO1 h7) (bE A fun C9 i0 A=>yY (yIs SL_93 e0 e0 b rO6 i0) (yT (r_sti (cs:=[.bool true]) (b.pk 7 [6,0,0,0,0,0,0] rfl) O_4 rfl e0 rfl rfl mkB i0) fun w b=>wN (v0 _ _ _ (u9 _ _ (wR (Ym (iV I) (eh d6) (yY (yadd e0 rfl) (Ya (iV (wa .i64 I 1)) e0 (wN ?_))))))))))
    cases A
    exact u3 _ _ _ rfl ⟨_,_,_,rfl,rfl,h1,h3,h4,h5,a8,d5,rfl,(b.pk 7 [1,1,1,1,1,1,0] rfl)⟩
   ·refine wp_exit (u6 _ _ _ rfl ?_)
    cases A
    exact u4 _ _ _ _ rfl rfl (n2 _ _ _ h1 h3 h5 a8 d5 (b.pk 7 [0,1,1,1,1,1] rfl) (u2 _ rfl))
  replace b:=b.rowNh 84 rTi64i64u64
  refine loopQ (fun s a w=>∃ (d7:List (Int×Int×Int)) (q:Int) (f:FV) (d8:Hdr),(d7,q)=s∧a=fr 148 f∧f 1=(pB C)∧f 2=(pB g)∧f 5=d.v∧f 7=o.v∧f 8=h.v∧f 9=d8.v∧f 10=iV q∧St w0 (imm I1 d.v r.1::ros) (box C 26 [u.v]::box g 46 [hnil.v,hnil.v,hnil.v]::row 3 I1 o.v L::row 3 I1 h.v D::row 84 rTi64i64u64 d8.v d7::rs) w) l7 ⟨_,_,_,_,rfl,rfl,rfl,rfl,rfl,rfl,rfl,rfl,rfl,((b.pk 5 [4,3,2,1,0] rfl).facts (allC F0 (allT (allT (allT (allT allI))))))⟩ ?_
  rintro _ _ w D0 ⟨d7,q,f,d8,rfl,rfl,v1,i1,i2,d9,i3,i4,i5,b⟩ J v2 D1 v3 v4
  refine seqQ fun D2 v5 v6=>sR fun _ v7=>Ym (iV q) (eh i5) (Ym o.v (eh d9) (yY (yLen SL_22 e0 b rO2) (yY (ylss e0 e0) (wK v7 ?_))))
  refine cIf e0 J (fun v8 J=>?_) fun v8 J=>?_
  ·refine wp_skip (v5 _ _ (sQ fun _ v9=>blockQ fun _ w1=>sR fun _ w2=>Ya (iV 0) rfl (wK w2 (blockQ fun w3 w4=>bE J fun w5 w6 J=>?_))))
   have w7:∀ (e1:List (Int×Int×Int)) (e2:Hdr) (f:FV) w,f 1=(pB C)→f 2=(pB g)→f 5=d.v→f 7=o.v→f 8=h.v→f 9=e2.v→f 10=iV q→St w0 (imm I1 d.v r.1::ros) (box C 26 [u.v]::box g 46 [hnil.v,hnil.v,hnil.v]::row 3 I1 o.v L::row 3 I1 h.v D::row 84 rTi64i64u64 e2.v e1::rs) w→e1=w5→w3 (.exit 2) (fr 148 f) w:=by
    intro e1 e2 f w w8 w9 x0 x2 x3 x4 x5 b ho
    subst ho
    refine w4 _ _ _ (w1 _ _ _ (v9 _ _ (wR (Ym (iV q) (eh x5) (yY (yadd e0 rfl) (Ya (iV (wa .i64 q 1)) e0 (wN ?_)))))))
    cases J
    exact v3 _ _ _ rfl ⟨_,_,_,_,rfl,rfl,w8,w9,x0,x2,x3,x4,rfl,b⟩
   refine loopQ (fun s a w=>∃ (e3:List (Int×Int×Int)) (t:Int) (f:FV) (a9:Hdr),(e3,t)=s∧a=fr 148 f∧f 1=(pB C)∧f 2=(pB g)∧f 5=d.v∧f 7=o.v∧f 8=h.v∧f 9=a9.v∧f 10=iV q∧f 11=iV t∧St w0 (imm I1 d.v r.1::ros) (box C 26 [u.v]::box g 46 [hnil.v,hnil.v,hnil.v]::row 3 I1 o.v L::row 3 I1 h.v D::row 84 rTi64i64u64 a9.v e3::rs) w) w6 ⟨_,_,_,_,rfl,rfl,v1,i1,i2,d9,i3,i4,i5,rfl,b⟩ ?_
   rintro _ _ w x6 ⟨e3,t,f,a9,rfl,rfl,b0,e4,e5,b1,W,e6,X,Z,b⟩ m x7 D3 x8 x9
   refine seqQ fun D4 y0 y1=>sR fun _ y2=>Ym (iV t) (eh Z) (Ym h.v (eh W) (yY (yLen SL_22 e0 b rO3) (yY (ylss e0 e0) (wK y2 ?_))))
   refine cIf e0 m (fun y3 m=>?_) fun y3 m=>?_
   ·refine wp_skip (y0 _ _ (sQ fun _ y4=>blockQ fun y5 y6=>sQ fun _ y7=>bE m fun D5 i6 m=>bE m fun D6 i7 m=>bE m fun D7 i8 m=>bE m fun D8 y8 m=>dR [0,1,0,0,12,28,63,127,0,0,768,1792,4095] [12] 1 folM ?_))
    replace b:=b.drew
    refine Dn [0,1,2,3,4,5,6,7,8,9,10,11] [] [12] (yR rfl (yFb FL_26_0 (eh b0)) (yR rfl (lb_ u.v O_24 e0 b R0) (yR rfl (m_ o.v (eh b1)) (yR rfl (m_ (iV q) (eh X)) (yR rfl (yIa SL_22 e0 e0 b rO2 i6) (yR rfl (yI O_3 e0 b rO2 i6) (yR rfl (yIa SL_24 e0 e0 b (rdI (mtF K)) i7) ?_)))))))
    obtain ⟨D9,b⟩:=iLs b (mtF K) i7
    refine yR rfl (yCt O_22 e0 b F1 rfl) (yR rfl (m_ h.v (eh W)) (yR rfl (m_ (iV t) (eh Z)) (yR rfl (yIa SL_22 e0 e0 b rO3 i8) (yR rfl (yI O_3 e0 b rO3 i8) (Rn QSn ?_)))))
    refine Lc1 rfl ?_
    refine Lk wn (yCall FN_37 (a2 e0 e0)) (sparsekit_In_ok y8 F0 b) ?_
    rintro _ w ⟨rfl,b⟩
    refine ⟨_,rfl,?_⟩
    refine Dz [] [] (Rn QSn (y7 _ _ ?_))
    have i9:∀ (e7:List (Int×Int×Int)) (e8:Hdr) (f:FV) w,f 1=(pB C)→f 2=(pB g)→f 5=d.v→f 7=o.v→f 8=h.v→f 9=e8.v→f 10=iV q→f 11=iV t→St w0 (imm I1 d.v r.1::ros) (box C 26 [u.v]::box g 46 [hnil.v,hnil.v,hnil.v]::row 3 I1 o.v L::row 3 I1 h.v D::row 84 rTi64i64u64 e8.v e7::rs) w→sparseref18_Separate_j25 t e7=some x6→y5 .normal (fr 148 f) w:=by
     intro e7 e8 f w y9 z0 z1 z3 z4 z5 z6 z7 b c
     refine y6 _ _ _ (y4 _ _ (wR (Ym (iV t) (eh z7) (yY (yadd e0 rfl) (Ya (iV (wa .i64 t 1)) e0 (wN ?_))))))
     cases c
     exact x8 _ _ _ rfl ⟨_,_,_,_,rfl,rfl,y9,z0,z1,z3,z4,z5,z6,rfl,b⟩
    refine cB e0 m (fun z8 m=>?_) fun z8 m=>?_
    ·exact wR (Ym a9.v (eh e6) (Ym (iV q) (eh X) (Ym (iV t) (eh Z) (yY (ybuild (us:=[iV q,iV t,.int .u64 0]) [(0,iV q),(1,iV t)] SO_84 (bp2 e0 e0) rfl) (yH (rLt (n:=1) (l:=[(q,t,0)]) b SL_80 [.agg #[iV q,iV t,.int .u64 0]] (bp1 e0) rfl rfl (mks1 (cs:=[iV q,iV t,.int .u64 0]) rfl (mkF rfl) mks0)) fun E0 w b=>bE m fun E1 z9 m=>yH (rAp (b.pk 6 [5,0,0,0,0,0] rfl) SL_80 e0 e0 rO1 z9) fun A0 w b=>Ya A0.v e0 (wN (i9 _ _ _ _ b0 e4 e5 b1 W rfl X Z ((b.pk 6 [2,2,2,2,0] rfl).facts (allC F2 (allT (allT (allT allI))))) m)))))))
    ·exact wp_skip (i9 _ _ _ _ b0 e4 e5 b1 W e6 X Z (b.facts (allC F2 (allT (allT (allT allI))))) m)
   ·refine wp_exit (y1 _ _ _ rfl ?_)
    cases m
    exact x9 _ _ _ _ rfl rfl (w7 _ _ _ _ b0 e4 e5 b1 W e6 X b (x7 _ rfl))
  ·refine wp_exit (v6 _ _ _ rfl ?_)
   cases J
   exact v4 _ _ _ _ rfl rfl (l8 _ _ _ _ i1 i2 d9 i3 i4 (b.pk 5 [1,1,1,1] rfl) (v2 _ rfl))
 ·refine condT e0 (nT (dF b2)) (sR fun _ A1=>yY (ybuild (us:=[hnil.v,hnil.v,hnil.v]) [] SO_46 bp0 rfl) (Ym (iV a0) e0 (yT (r_stbn (vals':=[hnil.v,hnil.v,hnil.v]) (us:=[hnil.v,hnil.v,hnil.v]) b ST_46 e0 e0 rfl rfl (one_of rfl) rfl) fun w b=>Ya (iV a0) e0 (wK A1 (wp_ret (j2 _ _ _ rfl ?_))))))
  cases c
  replace b:=((b.rowNh 3 I1).rowNh 3 I1).rowNh 3 I1
  exact f3 _ _ _ (fin2r Tryz.results28 (rcs2 rfl rfl b R3 ST_46 rfl) ⟨rfl,rfl⟩ ⟨_,_,_,rfl,(b.pk 5 [2,1,0] rfl)⟩)
theorem graph_NewSets_ok {h:Int} {out:(List (List Bool))} (i:graph_NewSets h=some out) (b:St w0 ros rs w):
  Calls Tryz.prog 131 #[iV h] w (fun e w=>∃ (q:Hdr) (r:List Hdr),e=.returned (q.v)∧St w0 ros (row 93 rH q.v r::fam 4 rB r out::rs) w):=by
 refine enterQ Tryz.func131 rfl Tryz.ntmps131 rfl fun Q A=>sR fun _ B=>Ya hnil.v rfl (wK B (sR fun _ C=>Ym (iV h) e0 (bE i fun D E i=>?_)))
 obtain ⟨F,em3,G⟩:=mkL_rep E hnil
 refine yH (rMk b SLH_136 e0 G) fun c w b=>?_
 replace b:=(b.fReps 4 rB F).pk 2 [1,0] rfl
 rw [← em3] at b
 refine Ya c.v e0 (wK C (sQ fun _ H=>sR fun _ I=>Ym c.v e0 (yY (yLenF SLH_136 e0 b rO0 R1) (Ym (iV 0) rfl (wK I (blockQ fun J K=>bE i fun L N i=>?_))))))
 have O:∀ (j:List (List Bool)) (k:List Hdr) (f:FV) w,f 3=c.v→St w0 ros (row 93 rH c.v k::fam 4 rB k j::rs) w→j=L→J (.exit 0) (fr 19 f) w:=by
  intro j k f w R b ho
  subst ho
  refine K _ _ _ (H _ _ (sR fun _ S=>Ym c.v (eh R) (Ya c.v e0 (wK S (wp_ret ?_)))))
  cases i
  exact A _ _ _ (fin1r Tryz.results131 ⟨rfl,rfl⟩ ⟨_,_,rfl,b⟩)
 refine loopQ (fun s a w=>∃ (l:List (List Bool)) (g:Int) (f:FV) (m:List Hdr),(l,g)=s∧a=fr 19 f∧f 0=iV h∧f 3=c.v∧f 8=iV (D.length:Int)∧f 9=iV g∧St w0 ros (row 93 rH c.v m::fam 4 rB m l::rs) w) N ⟨_,_,_,_,rfl,rfl,rfl,rfl,rfl,rfl,b⟩ ?_
 rintro _ _ w a5 ⟨l,g,f,m,rfl,rfl,t,n,x,o,b⟩ d T a6 U V
 refine sR fun _ W=>yY (ylss (eh o) (eh x)) (wK W (seqQ fun a7 X Z=>?_))
 refine cIf e0 d (fun a0 d=>?_) fun a0 d=>?_
 ·refine wp_skip (X _ _ (sQ fun _ a1=>blockQ fun _ a2=>sR fun _ a3=>Ym (iV g) (eh o) (Ya (iV g) e0 (wK a3 (wR (Ym c.v (eh n) (Ym (iV g) e0 (Ym (iV h) (eh t) ?_))))))))
  refine bE d fun a8 a4 d=>yH (rMk b SL_93 e0 a4) fun y w b=>bE d fun a9 z d=>?_
  obtain ⟨b0,p⟩:=setI_len (u:=y) z (b.famL (mtR (mtR mhR)))
  refine yY (yIs SLH_136 e0 e0 b rO1 p) (yT (r_sti (cs:=[y.v]) (b.pk 2 [1,0] rfl) O_93 rfl e0 e0 rfl (mkF rfl) p) fun w b=>?_)
  replace b:=(b.pk 3 [1,1,0] rfl).fput p z
  refine wN (a2 _ _ _ (a1 _ _ (wR (yY (yadd (eh o) rfl) (Ym (iV (wa .i64 g 1)) e0 (wN ?_))))))
  cases d
  exact U _ _ _ rfl ⟨_,_,_,_,rfl,rfl,t,n,x,rfl,(b.pk 2 [1,0] rfl)⟩
 ·refine wp_exit (Z _ _ _ rfl ?_)
  cases d
  exact V _ _ _ _ rfl rfl (O _ _ _ _ n b (T _ rfl))
theorem graph_Sets_Join_ok {n:List (List Bool)} {c h:Int} {d:Hdr} {g:List Hdr} {out:(List (List Bool))} (b:graph_Sets_Join n c h=some out) (a:St w0 ros (row 93 rH d.v g::fam 4 rB g n::rs) w):
  Calls Tryz.prog 127 #[d.v,iV c,iV h] w (fun e w=>e=.returned (.tuple #[])∧St w0 ros (row 93 rH d.v g::fam 4 rB g out::rs) w):=by
 refine enterQ Tryz.func127 rfl Tryz.ntmps127 rfl fun Q s=>sR fun _ t=>Ym (iV c) e0 (Ym (iV h) e0 (yY (yneq e0 e0) (wK t ?_)))
 have o:∀ (k:List (List Bool)) (f:FV) w,St w0 ros (row 93 rH d.v g::fam 4 rB g k::rs) w→graph_Sets_Join_j1 k=some out→Q .normal (fr 21 f) w:=by
  intro k f w a b
  cases b
  exact s _ _ _ (fin0n Tryz.results127 ⟨rfl,a⟩)
 rcases iteS b with ⟨l,b⟩ | ⟨l,b⟩
 ·exact condF e0 (nF (dT l)) (wp_skip (o _ _ _ a b))
 ·refine condT e0 (nT (dF l)) (bE b fun z m b=>bE b fun A u b=>bE b fun B p b=>bE b fun C x b=>bE b fun D q b=>bE b fun E r b=>bE b fun F y b=>dR [0,0,3,7,0,0,0,96,224,0,511,1535,4095,8191] [11,13] 2 folM ?_)
  replace a:=a.drew
  refine Dn [0,1,2,3,4,5,6,7,8,9,10] [] [11] (yR rfl (m_ d.v e0) (yR rfl (m_ (iV c) e0) ?_))
  obtain ⟨G,i⟩:=a.famI R1 m
  refine yR rfl (yIa SLH_136 e0 e0 a rO0 i) (yR rfl (yF1 O_93 e0 a rO0 i rfl) (yR rfl (m_ (iV h) e0) (yR rfl (m_ d.v e0) (yR rfl (m_ (iV h) e0) ?_))))
  obtain ⟨H,j⟩:=a.famI R1 u
  refine yR rfl (yIa SLH_136 e0 e0 a rO0 j) (yR rfl (yF1 O_93 e0 a rO0 j rfl) (yR rfl (m_ (iV c) e0) (yR rfl (yIs SL_93 e0 e0 a (rdF R1 i m) p) (Rn QSn ?_))))
  refine Lc1 rfl ?_
  replace a:=a.pk 2 [1,0] rfl
  refine LT wn (r_sti (cs:=[.bool true]) (a.foc i m) O_4 rfl e0 rfl rfl mkB p) fun w a=>?_
  replace a:=a.unfoc' i x
  refine Dn [12] [9] [13] (yR rfl (yIs SL_93 e0 e0 a (rdF R0 j q) r) (Rn (yS rfl (m_ (iV c) e0) QSn) ?_))
  refine Lc1 rfl ?_
  refine LT wn (r_sti (cs:=[.bool true]) (a.foc j q) O_4 rfl e0 rfl rfl mkB r) fun w a=>?_
  replace a:=a.unfoc' j y
  exact Dz [] [] (Rn QSn (o _ _ _ (a.pk 2 [1,0] rfl) b))
theorem graph_Table_ok {k:L2} {i:Hdr} {out:(List (List Bool))} (l:graph_Table k=some out) (m:imm S1 i.v k∈ros) (b:St w0 ros rs w):
  Calls Tryz.prog 126 #[.agg #[i.v]] w (fun e w=>∃ (z:Hdr) (A:List Hdr),e=.returned (z.v)∧St w0 ros (row 93 rH z.v A::fam 4 rB A out::rs) w):=by
 refine enterQ Tryz.func126 rfl Tryz.ntmps126 rfl fun Q R=>sR fun _ S=>yBb (r_box (vals:=[i.v]) b e0 rfl) fun d9 w b=>Ya hnil.v rfl (wK S (sR fun _ T=>yY (yFb FL_26_0 e0) (yY (lb_ i.v O_24 e0 b R0) (yY (yLen SL_24 e0 b (rdI m)) (bE l fun e1 U l=>?_)))))
 refine yC (yCall FN_131 (a1 e0)) (graph_NewSets_ok U b) ?_
 rintro _ w ⟨c,j,rfl,b⟩
 refine ⟨_,rfl,?_⟩
 refine Ya c.v e0 (wK T (sQ fun _ V=>sR fun _ W=>yY (yFb FL_26_0 e0) (yY (lb_ i.v O_24 e0 b R2) (yY (yLen SL_24 e0 b (rdI m)) (Ym (iV 0) rfl (wK W (blockQ fun X Z=>bE l fun a0 a2 l=>?_)))))))
 have a4:∀ (q:List (List Bool)) (f:FV) w,f 3=c.v→St w0 ros (row 93 rH c.v j::fam 4 rB j q::rs) w→q=a0→X (.exit 0) (fr 33 f) w:=by
  intro q f w a5 b ho
  subst ho
  refine Z _ _ _ (V _ _ (sR fun _ a6=>Ym c.v (eh a5) (Ya c.v e0 (wK a6 (wp_ret ?_)))))
  cases l
  exact R _ _ _ (fin1r Tryz.results126 ⟨rfl,rfl⟩ ⟨_,_,rfl,b⟩)
 refine loopQ (fun s a w=>∃ (r:List (List Bool)) (d:Int) (f:FV),(r,d)=s∧a=fr 33 f∧f 3=c.v∧f 13=i.v∧f 14=iV (k.length:Int)∧f 15=iV d∧St w0 ros (row 93 rH c.v j::fam 4 rB j r::rs) w) a2 ⟨_,_,_,rfl,rfl,rfl,rfl,rfl,rfl,(b.pk 3 [0,0] rfl)⟩ ?_
 rintro _ _ w e2 ⟨r,d,f,rfl,rfl,B,C,D,n,b⟩ g a7 e3 a8 a9
 refine sR fun _ b0=>yY (ylss (eh n) (eh D)) (wK b0 (seqQ fun e4 b1 b2=>?_))
 refine cIf e0 g (fun b4 g=>?_) fun b4 g=>?_
 ·refine wp_skip (b1 _ _ (sQ fun _ b5=>blockQ fun _ b6=>sR fun _ b7=>Ym (iV d) (eh n) (bE g fun E F g=>yY (yIa SL_24 (eh C) (eh n) b (rdI m) F) ?_)))
  obtain ⟨o,b⟩:=iLs b m F
  refine yY (yCt O_22 e0 b F1 rfl) (Ya (iV d) e0 (Ya o.v e0 (wK b7 (sR fun _ b8=>Ym o.v e0 (yY (yLen SL_22 e0 b (rdI F0)) (Ym (iV 0) rfl (wK b8 (blockQ fun b9 c0=>bE g fun c1 c2 g=>?_))))))))
  have c3:∀ (t:List (List Bool)) (f:FV) w,f 3=c.v→f 13=i.v→f 14=iV (k.length:Int)→f 15=iV d→St w0 ros (row 93 rH c.v j::fam 4 rB j t::rs) w→t=c1→b9 (.exit 2) (fr 33 f) w:=by
   intro t f w c4 c5 c6 c7 b ho
   subst ho
   refine c0 _ _ _ (b6 _ _ _ (b5 _ _ (wR (yY (yadd (eh c7) rfl) (Ym (iV (wa .i64 d 1)) e0 (wN ?_))))))
   cases g
   exact a8 _ _ _ rfl ⟨_,_,_,rfl,rfl,c4,c5,c6,rfl,b⟩
  refine loopQ (fun s a w=>∃ (u:List (List Bool)) (p:Int) (f:FV),(u,p)=s∧a=fr 33 f∧f 3=c.v∧f 4=iV d∧f 13=i.v∧f 14=iV (k.length:Int)∧f 15=iV d∧f 20=o.v∧f 21=iV (E.length:Int)∧f 22=iV p∧St w0 (imm I1 o.v E::ros) (row 93 rH c.v j::fam 4 rB j u::rs) w) c2 ⟨_,_,_,rfl,rfl,B,rfl,C,D,n,rfl,rfl,rfl,(b.facts (allC F0 (allT (allT allI))))⟩ ?_
  rintro _ _ w e5 ⟨u,p,f,rfl,rfl,x,G,H,I,J,K,L,y,b⟩ h c8 e6 c9 d0
  refine sR fun _ d1=>yY (ylss (eh y) (eh L)) (wK d1 (seqQ fun e7 d2 d3=>?_))
  refine cIf e0 h (fun d4 h=>?_) fun d4 h=>?_
  ·refine wp_skip (d2 _ _ (sQ fun _ d5=>blockQ fun _ d6=>sR fun _ d7=>bE h fun N O h=>yY (yIa SL_22 (eh K) (eh y) b (rdI F0) O) (yY (yI O_3 e0 b (rdI F0) O) (Ya (iV N) e0 (wK d7 (wR (Ym c.v (eh x) ?_)))))))
   refine Ym (iV d) (eh G) (Ym (iV N) e0 (bE h fun e8 d8 h=>yC (yCall FN_127 (a3 e0 e0 e0)) (graph_Sets_Join_ok d8 b) ?_))
   rintro _ w ⟨rfl,b⟩
   refine ⟨_,rfl,?_⟩
   refine wN (d6 _ _ _ (d5 _ _ (wR (yY (yadd (eh y) rfl) (Ym (iV (wa .i64 p 1)) e0 (wN ?_))))))
   cases h
   exact c9 _ _ _ rfl ⟨_,_,_,rfl,rfl,x,G,H,I,J,K,L,rfl,b⟩
  ·refine wp_exit (d3 _ _ _ rfl ?_)
   cases h
   exact d0 _ _ _ _ rfl rfl (c3 _ _ _ x H I J (b.facts (allT allI)) (c8 _ rfl))
 ·refine wp_exit (b2 _ _ _ rfl ?_)
  cases g
  exact a9 _ _ _ _ rfl rfl (a4 _ _ _ B b (a7 _ rfl))
theorem mindeg_Start_ok {o:L2} {b:Hdr} {out:(List (List Bool))×(List Bool)} (g:mindeg_Start o=some out) (h:imm S1 b.v o∈ros) (a:St w0 ros rs w):
  Calls Tryz.prog 108 #[.agg #[b.v]] w (fun e w=>∃ (p:Nat) (q:Hdr) (r:List Hdr) (s:Hdr),e=.returned (pB p)∧St w0 ros (row 93 rH q.v r::fam 4 rB r out.1::row 4 rB s.v out.2::box p 138 [q.v,s.v]::rs) w):=by
 refine enterQ Tryz.func108 rfl Tryz.ntmps108 rfl fun Q y=>sR fun _ z=>yBb (r_box (vals:=[b.v]) a e0 rfl) fun F w a=>Ya (.pointer none) rfl (wK z (sQ fun _ A=>bE g fun B t g=>bE g fun C u g=>?_))
 refine joinN (n:=11) (fun f w=>∃ (i:Nat) (j:Hdr) (k:List Hdr) (l:Hdr),f 2=(pB i)∧St w0 ros (row 93 rH j.v k::fam 4 rB k B::row 4 rB l.v C::box i 138 [j.v,l.v]::rs) w) (fun x=>?_) ?_
 ·refine dR [0,1,0,4,12,28,63,127,255] [1,5,7,8] 4 folM ?_
  replace a:=a.drew
  refine Dn [0,2,3,4] [] [1,5] (yR rfl (lbs_ [b.v] ST_26 e0 a R0) (yR rfl (yFb FL_26_0 e0) (yR rfl (lb_ b.v O_24 e0 a R0) (yR rfl (yLen SL_24 e0 a (rdI h)) (Rn QSn ?_)))))
  refine Lc rfl ?_ (Lc1 rfl ?_)
  ·refine Lk wn (yCall FN_126 (a1 e0)) (graph_Table_ok t h a) ?_
   rintro _ w ⟨c,D,rfl,a⟩
   refine ⟨_,rfl,?_⟩
   refine Dn [] [2,3,4] [5] (Rn (yS rfl (yFb FL_26_0 e0) (yS rfl (lb_ b.v O_24 e0 a R2) (yS rfl (yLen SL_24 e0 a (rdI h)) QSn))) ?_)
   refine Lc1 rfl ?_
   refine LH wn (rMk a SL_93 e0 u) fun d w a=>Dn [6] [] [7] (yR rfl (ybuild (us:=[c.v,d.v]) [(0,c.v),(1,d.v)] SO_138 (bp2 e0 e0) rfl) (Rn QSn ?_))
   refine Lc1 rfl ?_
   refine LB wn (r_box (vals:=[c.v,d.v]) a e0 rfl) fun m w a=>Dn [] [] [8] (Rn QSn ?_)
   refine Lc1 rfl ?_
   exact Ly wn (a_ (pB m) e0) (Dz [] [] (Rn QSn (x _ _ ⟨_,_,_,_,rfl,(a.pk 5 [2,2,1,0] rfl)⟩)))
  ·refine LH wn (rMk a SL_93 e0 u) fun d w a=>Dn [] [0] [1] (Rn (yS rfl (lbs_ [b.v] ST_26 e0 a R1) QSn) ?_)
   refine Lc1 rfl ?_
   refine Lk wn (yCall FN_126 (a1 e0)) (graph_Table_ok t h a) ?_
   rintro _ w ⟨c,D,rfl,a⟩
   refine ⟨_,rfl,?_⟩
   refine Dn [6] [] [7] (yR rfl (ybuild (us:=[c.v,d.v]) [(0,c.v),(1,d.v)] SO_138 (bp2 e0 e0) rfl) (Rn QSn ?_))
   refine Lc1 rfl ?_
   refine LB wn (r_box (vals:=[c.v,d.v]) a e0 rfl) fun m w a=>Dn [] [] [8] (Rn QSn ?_)
   refine Lc1 rfl ?_
   exact Ly wn (a_ (pB m) e0) (Dz [] [] (Rn QSn (x _ _ ⟨_,_,_,_,rfl,(a.pk 5 [1,1,1,0] rfl)⟩)))
 rintro f w ⟨i,j,k,l,E,a⟩
 refine A _ _ (wp_ret ?_)
 cases g
 exact y _ _ _ (fin1r Tryz.results108 ⟨rfl,E⟩ ⟨_,_,_,_,rfl,a⟩)
theorem graph_Sets_List_ok {A:List (List Bool)} {o:Int} {p:Hdr} {out:LI} (g:graph_Sets_List A o=some out) (B:imm SB p.v A∈ros) (b:St w0 ros rs w):
  Calls Tryz.prog 109 #[p.v,iV o] w (fun e w=>∃ (C:Hdr),e=.returned (C.v)∧St w0 ros (row 3 I1 C.v out::rs) w):=by
 refine enterQ Tryz.func109 rfl Tryz.ntmps109 rfl fun Q H=>sR fun _ I=>Ya hnil.v rfl (wK I (sR fun _ J=>Ya hnil.v rfl (wK J (sQ fun _ K=>sR fun _ L=>?_))))
 refine Ym p.v e0 (Ym (iV o) e0 (bE g fun j D g=>yY (yIa SL_136 e0 e0 b (rdI B) D) ?_))
 obtain ⟨k,b⟩:=iLs b B D
 refine yY (yCt O_93 e0 b F1 rfl) (yY (yLen SL_93 e0 b (rdI F0)) (Ym (iV 0) rfl (wK L (blockQ fun N O=>bE g fun R S g=>?_))))
 have T:∀ (q:LI) (h:Hdr) (f:FV) w,f 5=h.v→St w0 ros (row 3 I1 h.v q::rs) w→q=R→N (.exit 0) (fr 25 f) w:=by
  intro q h f w U b ho
  subst ho
  refine O _ _ _ (K _ _ (sR fun _ V=>Ym h.v (eh U) (Ya h.v e0 (wK V (wp_ret ?_)))))
  cases g
  exact H _ _ _ (fin1r Tryz.results109 ⟨rfl,rfl⟩ ⟨_,rfl,b⟩)
 replace b:=b.rowNh 3 I1
 refine loopQ (fun s a w=>∃ (r:LI) (d:Int) (f:FV) (m:Hdr),(r,d)=s∧a=fr 25 f∧f 5=m.v∧f 11=k.v∧f 12=iV (j.length:Int)∧f 13=iV d∧St w0 (imm rB k.v j::ros) (row 3 I1 m.v r::rs) w) S ⟨_,_,_,_,rfl,rfl,rfl,rfl,rfl,rfl,(b.facts (allC F0 (allT (allT allI))))⟩ ?_
 rintro _ _ w W ⟨r,d,f,m,rfl,rfl,t,u,x,i,b⟩ c X b7 Z a0
 refine sR fun _ a1=>yY (ylss (eh i) (eh x)) (wK a1 (seqQ fun b8 a2 a3=>?_))
 refine cIf e0 c (fun a4 c=>?_) fun a4 c=>?_
 ·refine wp_skip (a2 _ _ (sQ fun _ a5=>blockQ fun a6 a7=>sR fun _ a8=>Ym (iV d) (eh i) (bE c fun E F c=>yY (yIa SL_93 (eh u) (eh i) b (rdI F0) F) (yY (yB O_4 e0 b (rdI F0) F) (Ya (iV d) e0 (Ya (.bool E) e0 (wK a8 ?_)))))))
  refine sR fun _ a9=>Ym (.bool E) e0 (wK a9 ?_)
  have G:∀ (y:LI) (z:Hdr) (f:FV) w,f 5=z.v→f 11=k.v→f 12=iV (j.length:Int)→f 13=iV d→St w0 (imm rB k.v j::ros) (row 3 I1 z.v y::rs) w→graph_Sets_List_j4 d y=some W→a6 .normal (fr 25 f) w:=by
   intro y z f w b0 b1 b2 b3 b g
   refine a7 _ _ _ (a5 _ _ (wR (yY (yadd (eh b3) rfl) (Ym (iV (wa .i64 d 1)) e0 (wN ?_)))))
   cases g
   exact Z _ _ _ rfl ⟨_,_,_,_,rfl,rfl,b0,b1,b2,rfl,b⟩
  refine cB e0 c (fun b4 c=>?_) fun b4 c=>?_
  ·exact wR (Ym m.v (eh t) (Ym (iV d) e0 (yH (rLt (n:=1) (l:=[d]) b SL_22 [iV d] (bp1 e0) rfl rfl (mks1 (cs:=[iV d]) rfl mkI mks0)) fun b9 w b=>bE c fun c0 b5 c=>yH (rAp (b.pk 2 [1,0] rfl) SL_22 e0 e0 rO1 b5) fun b6 w b=>Ya b6.v e0 (wN (G _ _ _ _ rfl u x i (b.pk 2 [0] rfl) c)))))
  ·exact wp_skip (G _ _ _ _ t u x i b c)
 ·refine wp_exit (a3 _ _ _ rfl ?_)
  cases c
  exact a0 _ _ _ _ rfl rfl (T _ _ _ _ t (b.facts (allT allI)) (X _ rfl))
theorem mindeg_Elimination_Eliminate_ok {L:List (List Bool)} {q:List Bool} {l:Int} {g:Nat} {h:Hdr} {j:List Hdr} {i:Hdr} {out:(List (List Bool))×(List Bool)×LI} (n:mindeg_Elimination_Eliminate L q l=some out) (b:St w0 ros (box g 138 [h.v,i.v]::row 93 rH h.v j::fam 4 rB j L::row 4 rB i.v q::rs) w):
  Calls Tryz.prog 110 #[(pB g),iV l] w (fun e w=>∃ (N:Hdr),e=.returned (N.v)∧St w0 (imm I1 N.v out.2.2::ros) (row 93 rH h.v j::fam 4 rB j out.1::row 4 rB i.v out.2.1::box g 138 [h.v,i.v]::rs) w):=by
 refine enterQ Tryz.func110 rfl Tryz.ntmps110 rfl fun Q b5=>sR fun _ k1=>Ya hnil.v rfl (wK k1 (sR fun _ b6=>Ym (pB g) e0 (yY (yn e0) (yY (yFb FL_138_0 e0) (yY (lb_ h.v O_136 e0 b R0) (Ym (iV l) e0 (bE n fun o b7 n=>?_)))))))
 have O:=b
 replace b:=(b.pk 3 [1,1,0] rfl).ffz
 have r:=b.guest0
 replace b:=O
 clear O
 refine yC (yCall FN_109 (a2 e0 e0)) (graph_Sets_List_ok b7 F0 r) ?_
 clear r
 rintro _ w ⟨d,rfl,r⟩
 replace b:=b.back1 r
 clear r
 refine ⟨_,rfl,?_⟩
 refine Ya d.v e0 (wK b6 (sQ fun _ b8=>sR fun _ b9=>Ym d.v e0 (yY (yLen SL_22 e0 b rO0) (Ym (iV 0) rfl (wK b9 (blockQ fun c0 c1=>bE n fun c2 c3 n=>?_))))))
 have c4:∀ (z:List (List Bool)) (f:FV) w,f 0=(pB g)→f 1=iV l→f 5=d.v→St w0 (imm I1 d.v o::ros) (row 93 rH h.v j::fam 4 rB j z::row 4 rB i.v q::box g 138 [h.v,i.v]::rs) w→z=c2→c0 (.exit 0) (fr 65 f) w:=by
  intro z f w c5 c6 c7 b ho
  subst ho
  refine c1 _ _ _ (b8 _ _ (sR fun _ c8=>Ym (pB g) (eh c5) (yY (yn e0) (yY (yFb FL_138_1 e0) (yY (lb_ i.v O_93 e0 b R3) (Ym (iV l) (eh c6) (bE n fun g6 R n=>yY (yIs SL_93 e0 e0 b rO2 R) (yT (r_sti (cs:=[.bool true]) (b.pk 3 [2,0,0] rfl) O_4 rfl e0 rfl rfl mkB R) fun w b=>wN ?_))))))))
  refine c8 _ _ (sR fun _ c9=>Ym d.v (eh c7) (Ya d.v e0 (wK c9 (wp_ret ?_))))
  cases n
  exact b5 _ _ _ (fin1r Tryz.results110 ⟨rfl,rfl⟩ ⟨_,rfl,(b.pk 4 [1,1,0,0] rfl)⟩)
 replace b:=b.fz
 refine loopQ (fun s a w=>∃ (A:List (List Bool)) (k:Int) (f:FV),(A,k)=s∧a=fr 65 f∧f 0=(pB g)∧f 1=iV l∧f 5=d.v∧f 16=d.v∧f 17=iV (o.length:Int)∧f 18=iV k∧St w0 (imm I1 d.v o::ros) (row 93 rH h.v j::fam 4 rB j A::row 4 rB i.v q::box g 138 [h.v,i.v]::rs) w) c3 ⟨_,_,_,rfl,rfl,rfl,rfl,rfl,rfl,rfl,rfl,(b.pk 4 [1,1,1,0] rfl)⟩ ?_
 rintro _ _ w g7 ⟨A,k,f,rfl,rfl,S,T,B,U,V,x,b⟩ c d0 g8 d1 d2
 refine sR fun _ d3=>yY (ylss (eh x) (eh V)) (wK d3 (seqQ fun g9 d4 d5=>?_))
 refine cIf e0 c (fun d6 c=>?_) fun d6 c=>?_
 ·refine wp_skip (d4 _ _ (sQ fun _ d7=>blockQ fun _ d8=>sR fun _ d9=>Ym (iV k) (eh x) (bE c fun p W c=>yY (yIa SL_22 (eh U) (eh x) b (rdI F0) W) (yY (yI O_3 e0 b (rdI F0) W) (Ya (iV k) e0 (Ya (iV p) e0 (wK d9 ?_)))))))
  refine sQ fun _ e1=>sR fun _ e2=>Ym d.v (eh B) (Ym (iV k) e0 (bE c fun X Z c=>yY (ySl (k1:=.i64) SL_22 e0 b (rdI F0) (.inr ⟨rfl,rfl⟩) (.inl (congrArg some e0)) Z) ?_))
  replace b:=b.sub F0 Z
  refine yY (yLen SL_22 e0 b (rdI F0)) (Ym (iV 0) rfl (wK e2 (blockQ fun e3 e4=>bE c fun e5 e6 c=>?_)))
  have e7:∀ (C:List (List Bool)) (f:FV) w,f 0=(pB g)→f 1=iV l→f 5=d.v→f 7=iV p→f 16=d.v→f 17=iV (o.length:Int)→f 18=iV k→St w0 (imm I1 d.v o::ros) (row 93 rH h.v j::fam 4 rB j C::row 4 rB i.v q::box g 138 [h.v,i.v]::rs) w→C=e5→e3 (.exit 2) (fr 65 f) w:=by
   intro C f w D E e8 F e9 f0 f1 b ho
   subst ho
   refine e4 _ _ _ (e1 _ _ (bE c fun h0 G c=>bE c fun h1 f2 c=>bE c fun h2 a0 c=>bE c fun h4 f3 c=>bE c fun h5 a1 c=>bE c fun h7 a4 c=>bE c fun h8 f4 c=>dR [0,1,3,7,0,31,63,0,0,256,768,1792,0,7936,16128,0,32767,98303,262143,524287] [17,19] 2 folM ?_))
   replace b:=b.drew
   refine Dn [0,1,2,3,4,5,6,7,8,9,10,11,12,13,14,15,16] [] [17] (yR rfl (m_ (pB g) (eh D)) (yR rfl (yn e0) (yR rfl (yFb FL_138_0 e0) (yR rfl (lb_ h.v O_136 e0 b R3) (yR rfl (m_ (iV p) (eh F)) ?_)))))
   obtain ⟨i0,t⟩:=b.famI R1 G
   refine yR rfl (yIa SLH_136 e0 e0 b rO0 t) (yR rfl (yF1 O_93 e0 b rO0 t rfl) (yR rfl (m_ (iV l) (eh E)) (yR rfl (m_ (pB g) (eh D)) (yR rfl (yn e0) (yR rfl (yFb FL_138_0 e0) (yR rfl (lb_ h.v O_136 e0 b R3) (yR rfl (m_ (iV l) (eh E)) ?_)))))))
   obtain ⟨i1,u⟩:=b.famI R1 f2
   refine yR rfl (yIa SLH_136 e0 e0 b rO0 u) (yR rfl (yF1 O_93 e0 b rO0 u rfl) (yR rfl (m_ (iV p) (eh F)) (yR rfl (yIs SL_93 e0 e0 b (rdF R1 t G) a0) (Rn QSn ?_))))
   refine Lc1 rfl ?_
   replace b:=b.pk 2 [1,0] rfl
   refine LT wn (r_sti (cs:=[.bool false]) (b.foc t G) O_4 rfl e0 rfl rfl mkB a0) fun w b=>?_
   replace b:=b.unfoc' t f3
   refine Dn [18] [15] [19] (yR rfl (yIs SL_93 e0 e0 b (rdF R0 u a1) a4) (Rn (yS rfl (m_ (iV p) (eh F)) QSn) ?_))
   refine Lc1 rfl ?_
   refine LT wn (r_sti (cs:=[.bool false]) (b.foc u a1) O_4 rfl e0 rfl rfl mkB a4) fun w b=>?_
   replace b:=b.unfoc' u f4
   refine Dz [] [] (Rn QSn (d8 _ _ _ (d7 _ _ (wR (yY (yadd (eh f1) rfl) (Ym (iV (wa .i64 k 1)) e0 (wN ?_)))))))
   cases c
   exact d1 _ _ _ rfl ⟨_,_,_,rfl,rfl,D,E,e8,e9,f0,rfl,(b.pk 4 [1,0,0,0] rfl)⟩
  refine loopQ (fun s a w=>∃ (H:List (List Bool)) (y:Int) (f:FV),(H,y)=s∧a=fr 65 f∧f 0=(pB g)∧f 1=iV l∧f 5=d.v∧f 7=iV p∧f 16=d.v∧f 17=iV (o.length:Int)∧f 18=iV k∧f 25=(subH d 1 0 k).v∧f 26=iV (X.length:Int)∧f 27=iV y∧St w0 (imm I1 d.v o::imm I1 (subH d 1 0 k).v X::ros) (row 93 rH h.v j::fam 4 rB j H::row 4 rB i.v q::box g 138 [h.v,i.v]::rs) w) e6 ⟨_,_,_,rfl,rfl,S,T,B,rfl,U,V,x,rfl,rfl,rfl,(b.facts (allC F1 (allC F0 (allT (allT allI)))))⟩ ?_
  rintro _ _ w i2 ⟨H,y,f,rfl,rfl,I,a5,a6,J,a7,a8,a9,b0,b2,K,b⟩ m f5 i3 f6 f7
  refine sR fun _ f8=>yY (ylss (eh K) (eh b2)) (wK f8 (seqQ fun i4 f9 g0=>?_))
  refine cIf e0 m (fun g1 m=>?_) fun g1 m=>?_
  ·refine wp_skip (f9 _ _ (sQ fun _ g2=>blockQ fun _ g3=>sR fun _ g4=>bE m fun b3 b4 m=>yY (yIa SL_22 (eh b0) (eh K) b (rdI F1) b4) (yY (yI O_3 e0 b (rdI F1) b4) (Ya (iV b3) e0 (wK g4 (wR (Ym (pB g) (eh I) ?_)))))))
   refine yY (yn e0) (yY (yFb FL_138_0 e0) (yY (lb_ h.v O_136 e0 b R3) (Ym (iV p) (eh J) (Ym (iV b3) e0 (bE m fun i5 g5 m=>yC (yCall FN_127 (a3 e0 e0 e0)) (graph_Sets_Join_ok g5 b) ?_)))))
   rintro _ w ⟨rfl,b⟩
   refine ⟨_,rfl,?_⟩
   refine wN (g3 _ _ _ (g2 _ _ (wR (yY (yadd (eh K) rfl) (Ym (iV (wa .i64 y 1)) e0 (wN ?_))))))
   cases m
   exact f6 _ _ _ rfl ⟨_,_,_,rfl,rfl,I,a5,a6,J,a7,a8,a9,b0,b2,rfl,b⟩
  ·refine wp_exit (g0 _ _ _ rfl ?_)
   cases m
   exact f7 _ _ _ _ rfl rfl (e7 _ _ _ I a5 a6 J a7 a8 a9 (b.facts (allC F0 (allT (allT allI)))) (f5 _ rfl))
 ·refine wp_exit (d5 _ _ _ rfl ?_)
  cases c
  exact d2 _ _ _ _ rfl rfl (c4 _ _ _ S T B b (d0 _ rfl))
theorem mindeg_Exact_ok {q:L2} {j:Hdr} {out:LI×Int} (k:mindeg_Exact q=some out) (K:imm S1 j.v q∈ros) (b:St w0 ros rs w):
  Calls Tryz.prog 90 #[.agg #[j.v]] w (fun e w=>∃ (a3:Hdr),e=.returned (.tuple #[a3.v,iV out.2])∧St w0 ros (row 3 I1 a3.v out.1::rs) w):=by
 refine enterQ Tryz.func90 rfl Tryz.ntmps90 rfl fun Q a4=>sR fun _ c6=>yBb (r_box (vals:=[j.v]) b e0 rfl) fun r w b=>Ya hnil.v rfl (Ya (iV 0) rfl (wK c6 (sR fun _ c7=>yY (lbs_ [j.v] ST_26 e0 b R0) (bE k fun L c8 k=>yC (yCall FN_51 (a1 e0)) (graph_Check_ok c8 K b) ?_))))
 rintro _ w ⟨rfl,b⟩
 refine ⟨_,rfl,?_⟩
 refine Ya (iV L) e0 (wK c7 (seqQ fun m5 c9 d0=>sR fun _ d1=>Ym (iV L) e0 (yY (yneq e0 rfl) (wK d1 ?_))))
 rcases iteS k with ⟨W,k⟩ | ⟨W,k⟩
 ·refine condF e0 (nF (dT W)) (wp_skip (c9 _ _ (sR fun _ d2=>yY (lbs_ [j.v] ST_26 e0 b R0) (bE k fun m6 d3 k=>yC (yCall FN_108 (a1 e0)) (mindeg_Start_ok d3 K b) ?_))))
  rintro _ w ⟨c,m,t,o,rfl,b⟩
  refine ⟨_,rfl,?_⟩
  refine Ya (pB c) e0 (wK d2 (sR fun _ d4=>Ya hnil.v rfl (wK d4 (sQ fun _ d5=>sR fun _ d6=>yY (yFb FL_26_0 e0) (yY (lb_ j.v O_24 e0 b R4) (yY (yLen SL_24 e0 b (rdI K)) ?_))))))
  refine Ym (iV 0) rfl (wK d6 (blockQ fun d7 d8=>bE k fun d9 e1 k=>?_))
  have e2:∀ (X:LI) (G:Hdr) (f:FV) w,f 6=G.v→St w0 ros (row 3 I1 G.v X::rs) w→X=d9→d7 (.exit 0) (fr 65 f) w:=by
   intro X G f w e3 b ho
   subst ho
   refine d8 _ _ _ (d5 _ _ (sR fun _ e4=>Ym G.v (eh e3) (Ya G.v e0 (Ya (iV 0) rfl (wK e4 (wp_ret ?_))))))
   cases k
   exact a4 _ _ _ (fin2r Tryz.results90 ⟨rfl,rfl⟩ ⟨rfl,rfl⟩ ⟨_,rfl,b⟩)
  replace b:=b.rowNh 3 I1
  refine loopQ (fun s a w=>∃ (B:List (List Bool)) (C:List Bool) (D:LI) (A:Int) (f:FV) (g:Hdr),(B,C,D,A)=s∧a=fr 65 f∧f 1=(pB r)∧f 5=(pB c)∧f 6=g.v∧f 20=iV (q.length:Int)∧f 21=iV A∧St w0 ros (box r 26 [j.v]::row 93 rH m.v t::fam 4 rB t B::row 4 rB o.v C::box c 138 [m.v,o.v]::row 3 I1 g.v D::rs) w) e1 ⟨_,_,_,_,_,_,rfl,rfl,rfl,rfl,rfl,rfl,rfl,(b.pk 6 [5,1,1,1,1,0] rfl)⟩ ?_
  rintro _ _ w m7 ⟨B,C,D,A,f,g,rfl,rfl,a5,e5,a6,a7,a8,b⟩ u e6 m8 e7 e8
  refine sR fun _ e9=>yY (ylss (eh a8) (eh a7)) (wK e9 (seqQ fun m9 f0 f1=>?_))
  refine cIf e0 u (fun f2 u=>?_) fun f2 u=>?_
  ·refine wp_skip (f0 _ _ (sQ fun _ f3=>blockQ fun _ f4=>sR fun _ f5=>Ya (iV (-1)) rfl (Ya (iV 0) rfl (wK f5 (sQ fun _ f6=>sR fun _ f7=>yY (yFb FL_26_0 (eh a5)) ?_)))))
   refine yY (lb_ j.v O_24 e0 b R0) (yY (yLen SL_24 e0 b (rdI K)) (Ym (iV 0) rfl (wK f7 (blockQ fun f8 f9=>bE u fun g0 g1 u=>?_))))
   have g2:∀ (E:Int) (f:FV) w,f 1=(pB r)→f 5=(pB c)→f 6=g.v→f 7=iV E→f 20=iV (q.length:Int)→f 21=iV A→St w0 ros (box r 26 [j.v]::row 93 rH m.v t::fam 4 rB t B::row 4 rB o.v C::box c 138 [m.v,o.v]::row 3 I1 g.v D::rs) w→E=g0→f8 (.exit 2) (fr 65 f) w:=by
    intro E f w g3 a9 g4 b0 g5 g6 b ho
    subst ho
    refine f9 _ _ _ (f6 _ _ (sR fun _ g7=>Ym (pB c) (eh a9) (Ym (iV E) (eh b0) (bE u fun n0 g8 u=>?_))))
    replace b:=b.pk 5 [4,1,1,1,0] rfl
    refine yC (yCall FN_110 (a2 e0 e0)) (mindeg_Elimination_Eliminate_ok g8 b) ?_
    rintro _ w ⟨n1,rfl,b⟩
    refine ⟨_,rfl,?_⟩
    refine wK g7 (wR (Ym g.v (eh g4) (Ym (iV E) (eh b0) (yH (rLt (n:=1) (l:=[E]) b SL_22 [iV E] (bp1 e0) rfl rfl (mks1 (cs:=[iV E]) rfl mkI mks0)) fun n2 w b=>bE u fun n3 g9 u=>yH (rAp (b.pk 7 [6,0,0,0,0,0,0] rfl) SL_22 e0 e0 rO1 g9) fun h0 w b=>Ya h0.v e0 (wN (f4 _ _ _ (f3 _ _ ?_)))))))
    refine wR (yY (yadd (eh g6) rfl) (Ym (iV (wa .i64 A 1)) e0 (wN ?_)))
    cases u
    exact e7 _ _ _ rfl ⟨_,_,_,_,_,_,rfl,rfl,g3,a9,rfl,g5,rfl,((b.pk 7 [6,2,2,2,2,0] rfl).facts (allT allI))⟩
   refine loopQ (fun s a w=>∃ (h y d:Int) (f:FV),(h,y,d)=s∧a=fr 65 f∧f 1=(pB r)∧f 5=(pB c)∧f 6=g.v∧f 7=iV h∧f 8=iV y∧f 20=iV (q.length:Int)∧f 21=iV A∧f 25=iV (q.length:Int)∧f 26=iV d∧St w0 ros (box r 26 [j.v]::row 93 rH m.v t::fam 4 rB t B::row 4 rB o.v C::box c 138 [m.v,o.v]::row 3 I1 g.v D::rs) w) g1 ⟨_,_,_,_,rfl,rfl,a5,e5,a6,rfl,rfl,a7,a8,rfl,rfl,b⟩ ?_
   rintro _ _ w h1 ⟨h,y,d,f,rfl,rfl,N,F,O,H,R,S,T,U,I,b⟩ p h3 n4 h4 h5
   refine sR fun _ h6=>yY (ylss (eh I) (eh U)) (wK h6 (seqQ fun n5 h7 h9=>?_))
   refine cIf e0 p (fun i0 p=>?_) fun i0 p=>?_
   ·refine wp_skip (h7 _ _ (sQ fun _ i1=>blockQ fun i2 i3=>sR fun _ i4=>Ym (iV d) (eh I) (Ya (iV d) e0 (wK i4 (sR fun _ i5=>Ym (pB c) (eh F) (yY (yn e0) ?_))))))
    refine yY (yFb FL_138_0 e0) (yY (lb_ m.v O_136 e0 b R4) (Ym (iV d) e0 (bE p fun z i6 p=>?_)))
    have b1:=b
    replace b:=(b.pk 3 [1,1,0] rfl).ffz
    have J:=b.guest0
    replace b:=b1
    clear b1
    refine yC (yCall FN_109 (a2 e0 e0)) (graph_Sets_List_ok i6 F0 J) ?_
    clear J
    rintro _ w ⟨n6,rfl,J⟩
    replace b:=b.back1 J
    clear J
    refine ⟨_,rfl,?_⟩
    refine yY (yLen SL_22 e0 b rO0) (Ya (iV (z.length:Int)) e0 (wK i5 (sR fun _ i7=>Ym (pB c) (eh F) (yY (yn e0) (yY (yFb FL_138_1 e0) (yY (lb_ o.v O_93 e0 b R5) (Ym (iV d) e0 (bE p fun V b2 p=>yY (yIa SL_93 e0 e0 b rO4 b2) (yY (yB O_4 e0 b rO4 b2) ?_)))))))))
    refine yY (ynot e0) (Ym (.bool (!V)) e0 ?_)
    refine joinW 8 (fun f w=>f 1=(pB r)∧f 5=(pB c)∧f 6=g.v∧f 7=iV h∧f 8=iV y∧f 9=iV d∧f 10=iV (z.length:Int)∧f 20=iV (q.length:Int)∧f 21=iV A∧f 25=iV (q.length:Int)∧f 26=iV d∧f 52=.bool ((!V) && ((decide (h < 0)) || (decide ((z.length:Int) < y))))∧St w0 ros (box r 26 [j.v]::row 93 rH m.v t::fam 4 rB t B::row 4 rB o.v C::box c 138 [m.v,o.v]::row 3 I1 g.v D::rs) w) (fun b4=>?_) ?_
    ·rcases Bool.eq_false_or_eq_true (!V) with i | i
     ·refine yG i (m_ (iV h) (eh H)) (yG i (ylss e0 rfl) (yG i (m_ (.bool (decide (h < 0))) e0) ?_))
      refine joinW 4 (fun f w=>f 1=(pB r)∧f 5=(pB c)∧f 6=g.v∧f 7=iV h∧f 8=iV y∧f 9=iV d∧f 10=iV (z.length:Int)∧f 20=iV (q.length:Int)∧f 21=iV A∧f 25=iV (q.length:Int)∧f 26=iV d∧f 44=.bool (!V)∧f 45=iV h∧f 46=.bool (decide (h < 0))∧f 47=.bool (decide (h < 0))∧f 51=.bool ((decide (h < 0)) || (decide ((z.length:Int) < y)))∧St w0 ros (box r 26 [j.v]::row 93 rH m.v t::fam 4 rB t B::row 4 rB o.v C::box c 138 [m.v,o.v]::row 3 I1 g.v D::rs) w) (fun b5=>?_) ?_
      ·rcases Bool.eq_false_or_eq_true (decide (h < 0)) with x | x
       ·exact gN x (gN x (gN x (yG i (pt_ (.bool true) e0 x rfl) (b5 _ _ ⟨N,F,O,H,R,rfl,rfl,S,T,U,I,rfl,rfl,rfl,rfl,(congrArg Value.bool (orT x)),(b.pk 7 [1,1,1,1,1,1] rfl)⟩))))
       ·exact yG x (m_ (iV (z.length:Int)) e0) (yG x (m_ (iV y) (eh R)) (yG x (ylss e0 e0) (yG i (pf_ (.bool (decide ((z.length:Int) < y))) e0 x e0) (b5 _ _ ⟨N,F,O,H,R,rfl,rfl,S,T,U,I,rfl,rfl,rfl,rfl,(congrArg Value.bool (orF x)),(b.pk 7 [1,1,1,1,1,1] rfl)⟩))))
      rintro f w ⟨i8,i9,j0,j1,j2,j3,j4,j5,j6,j7,j8,j9,n7,n8,n9,k0,b⟩
      exact yY (pt_ (.bool ((decide (h < 0)) || (decide ((z.length:Int) < y)))) (eh j9) i (eh k0)) (b4 _ _ ⟨i8,i9,j0,j1,j2,j3,j4,j5,j6,j7,j8,(congrArg Value.bool (andT i)),b⟩)
     ·exact gN i (gN i (gN i (Gn (wxu rfl rfl rfl) rfl (Gn (wxu rfl rfl rfl) rfl (Gn (wxu rfl rfl rfl) rfl (gN i (yY (pf_ (.bool false) e0 i rfl) (b4 _ _ ⟨N,F,O,H,R,rfl,rfl,S,T,U,I,(congrArg Value.bool (andF i)),(b.pk 7 [1,1,1,1,1,1] rfl)⟩))))))))
    rintro f w ⟨b6,b8,b9,k9,l0,l1,l2,c0,c1,c2,c3,l3,b⟩
    refine wK i7 ?_
    have c4:∀ (Z a0:Int) (f:FV) w,f 1=(pB r)→f 5=(pB c)→f 6=g.v→f 7=iV Z→f 8=iV a0→f 20=iV (q.length:Int)→f 21=iV A→f 25=iV (q.length:Int)→f 26=iV d→St w0 ros (box r 26 [j.v]::row 93 rH m.v t::fam 4 rB t B::row 4 rB o.v C::box c 138 [m.v,o.v]::row 3 I1 g.v D::rs) w→mindeg_Exact_j40 d Z a0=some h1→i2 .normal (fr 65 f) w:=by
     intro Z a0 f w l4 l5 l6 l7 l8 l9 m0 m1 m2 b k
     refine i3 _ _ _ (i1 _ _ (wR (yY (yadd (eh m2) rfl) (Ym (iV (wa .i64 d 1)) e0 (wN ?_)))))
     cases k
     exact h4 _ _ _ rfl ⟨_,_,_,_,rfl,rfl,l4,l5,l6,l7,l8,l9,m0,m1,rfl,b⟩
    refine cB (eh l3) p (fun m3 p=>?_) fun m3 p=>?_
    ·exact wR (Ym (iV d) (eh l1) (Ym (iV (z.length:Int)) (eh l2) (Ya (iV d) e0 (Ya (iV (z.length:Int)) e0 (wN (c4 _ _ _ _ b6 b8 b9 rfl rfl c0 c1 c2 c3 b p))))))
    ·exact wp_skip (c4 _ _ _ _ b6 b8 b9 k9 l0 c0 c1 c2 c3 b p)
   ·refine wp_exit (h9 _ _ _ rfl ?_)
    cases p
    exact h5 _ _ _ _ rfl rfl (g2 _ _ _ N F O H S T b (h3 _ rfl))
  ·refine wp_exit (f1 _ _ _ rfl ?_)
   cases u
   exact e8 _ _ _ _ rfl rfl (e2 _ _ _ _ a6 (b.pk 6 [5] rfl) (e6 _ rfl))
 ·refine condT e0 (nT (dF W)) (sR fun _ m4=>Ym (iV L) e0 (Ya hnil.v rfl (Ya (iV L) e0 (wK m4 (wp_ret (d0 _ _ _ rfl ?_))))))
  cases k
  replace b:=b.rowNh 3 I1
  exact a4 _ _ _ (fin2r Tryz.results90 ⟨rfl,rfl⟩ ⟨rfl,rfl⟩ ⟨_,rfl,(b.pk 2 [0] rfl)⟩)
theorem graph_Induced_1_ok {c:Int} {g:L2} {d:Nat} {a:Hdr} {out:Bool} (f:graph_Induced_1 c g=some out) (h:imm S1 a.v g∈ros) (b:St w0 ros (box d 26 [a.v]::rs) w):
  Calls Tryz.prog 111 #[iV c,(pB d)] w (fun e w=>e=.returned (.bool out)∧St w0 ros (box d 26 [a.v]::rs) w):=by
 refine enterQ Tryz.func111 rfl Tryz.ntmps111 rfl fun Q i=>sR fun _ j=>Ya (.bool false) rfl (wK j (sR fun _ k=>yY (lbs_ [a.v] ST_26 e0 b R0) (Ym (iV c) e0 (bE f fun l m f=>yC (yCall FN_112 (a2 e0 e0)) (graph_vertex_ok m h b) ?_))))
 rintro _ w ⟨rfl,b⟩
 refine ⟨_,rfl,?_⟩
 refine yY (ynot e0) (Ya (.bool (!l)) e0 (wK k (wp_ret ?_)))
 cases f
 exact i _ _ _ (fin1r Tryz.results111 ⟨rfl,rfl⟩ ⟨rfl,b⟩)
theorem slices_IndexFunc_int_v3_ok {k:LI} {o:L2} {i:Hdr} {g:Nat} {h:Hdr} {out:Int} (j:slices_IndexFunc_int_v3 k o=some out) (l:imm I1 i.v k∈ros) (D:imm S1 h.v o∈ros) (b:St w0 ros (box g 26 [h.v]::rs) w):
  Calls Tryz.prog 80 #[i.v,.func (.func 111) #[] #[(pB g)]] w (fun e w=>e=.returned (iV out)∧St w0 ros (box g 26 [h.v]::rs) w):=by
 refine enterQ Tryz.func80 rfl Tryz.ntmps80 rfl fun Q p=>sR fun _ E=>Ya (iV 0) rfl (wK E (seqQ fun a4 F G=>sR fun _ H=>Ym i.v e0 (yY (yLen SL_22 e0 b (rdI l)) (Ym (iV 0) rfl (wK H ?_)))))
 refine blockQ fun q r=>bE j fun t I j=>?_
 have J:∀ (f:FV) w,St w0 ros (box g 26 [h.v]::rs) w→.inl ()=t→q (.exit 0) (fr 19 f) w:=by
  intro f w b ho
  subst ho
  refine r _ _ _ (F _ _ (sR fun _ K=>Ya (iV (-1)) rfl (wK K (wp_ret ?_))))
  cases j
  exact p _ _ _ (fin1r Tryz.results80 ⟨rfl,rfl⟩ ⟨rfl,b⟩)
 have L:∀ (m:Int) (f:FV) w,f 4=iV m→St w0 ros (box g 26 [h.v]::rs) w→.inr m=t→q .ret (fr 19 f) w:=by
  intro m f w N b ho
  subst ho
  refine r _ _ _ (G _ _ _ rfl ?_)
  cases j
  exact p _ _ _ (fin1r Tryz.results80 ⟨rfl,N⟩ ⟨rfl,b⟩)
 refine loopQ (fun s a w=>∃ (d:Int) (f:FV),d=s∧a=fr 19 f∧f 0=i.v∧f 1=.func (.func 111) #[] #[(pB g)]∧f 7=iV (k.length:Int)∧f 8=iV d∧St w0 ros (box g 26 [h.v]::rs) w) I ⟨_,_,rfl,rfl,rfl,rfl,rfl,rfl,b⟩ ?_
 rintro _ _ w a5 ⟨d,f,rfl,rfl,u,x,y,n,b⟩ c z a6 O A
 refine sR fun _ R=>yY (ylss (eh n) (eh y)) (wK R (seqQ fun a7 S T=>?_))
 refine cIf e0 c (fun U c=>?_) fun U c=>?_
 ·refine wp_skip (S _ _ (seqQ fun a8 V W=>blockQ fun _ B=>sR fun _ X=>Ym (iV d) (eh n) (Ya (iV d) e0 (wK X (sR fun _ Z=>Ym (.func (.func 111) #[] #[(pB g)]) (eh x) (Ym i.v (eh u) ?_))))))
  refine Ym (iV d) e0 (bE c fun a9 C c=>yY (yIa SL_22 e0 e0 b (rdI l) C) (yY (yI O_3 e0 b (rdI l) C) (bE c fun b0 a0 c=>yC (yCallw FN_111 e0 (a1 e0)) (graph_Induced_1_ok a0 D b) ?_)))
  rintro _ w ⟨rfl,b⟩
  refine ⟨_,rfl,?_⟩
  refine wK Z (cB e0 c (fun a2 c=>?_) fun a2 c=>?_)
  ·refine sR fun _ a3=>Ym (iV d) e0 (Ya (iV d) e0 (wK a3 (wp_ret (B _ _ _ (W _ _ _ rfl ?_)))))
   cases c
   exact A _ _ _ _ rfl rfl (L _ _ _ rfl b (z _ rfl))
  ·refine wp_skip (B _ _ _ (V _ _ (wR (yY (yadd (eh n) rfl) (Ym (iV (wa .i64 d 1)) e0 (wN ?_))))))
   cases c
   exact O _ _ _ rfl ⟨_,_,rfl,rfl,u,x,y,rfl,b⟩
 ·refine wp_exit (T _ _ _ rfl ?_)
  cases c
  exact A _ _ _ _ rfl rfl (J _ _ b (z _ rfl))
theorem slices_ContainsFunc_int_v3_ok {g:LI} {h:L2} {b:Hdr} {a:Nat} {c:Hdr} {out:Bool} (d:slices_ContainsFunc_int_v3 g h=some out) (i:imm I1 b.v g∈ros) (j:imm S1 c.v h∈ros) (f:St w0 ros (box a 26 [c.v]::rs) w):
  Calls Tryz.prog 49 #[b.v,.func (.func 111) #[] #[(pB a)]] w (fun e w=>e=.returned (.bool out)∧St w0 ros (box a 26 [c.v]::rs) w):=by
 refine enterQ Tryz.func49 rfl Tryz.ntmps49 rfl fun Q k=>sR fun _ l=>Ya (.bool false) rfl (wK l (sR fun _ m=>Ym b.v e0 (Ym (.func (.func 111) #[] #[(pB a)]) e0 (bE d fun n o d=>yC (yCall FN_80 (a2 e0 e0)) (slices_IndexFunc_int_v3_ok o i j f) ?_))))
 rintro _ w ⟨rfl,f⟩
 refine ⟨_,rfl,?_⟩
 refine yY (ygeq e0 rfl) (Ya (.bool (decide ((0:Int)≤n))) e0 (wK m (wp_ret ?_)))
 cases d
 exact k _ _ _ (fin1r Tryz.results49 ⟨rfl,rfl⟩ ⟨rfl,f⟩)
end Go.Proofs.YthpeajepbffinaaGreat
