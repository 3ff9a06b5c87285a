/- Walks: each function computes its model, printed. -/
import Derived.Test.YthpeajepbffinaaGreatW4
namespace Go.Proofs.YthpeajepbffinaaGreat
open Go Sx M
set_option maxRecDepth 100000
set_option maxHeartbeats 40000000
set_option linter.unusedVariables false
attribute [local irreducible] wpList Code.wp Calls DR QR QS LA LS St
variable {w0:World} {ros:List Fact} {rs:List Res} {w:World}
theorem sparseref12_Peripheral_ok {z:L2} {i:Int} {h:Hdr} {out:Int} (j:sparseref12_Peripheral z i=some out) (o:imm S1 h.v z∈ros) (b:St w0 ros rs w):
  Calls Tryz.prog 79 #[.agg #[h.v],iV i] w (fun e w=>e=.returned (iV out)∧St w0 ros rs w):=by
 refine enterQ Tryz.func79 rfl Tryz.ntmps79 rfl fun Q G=>sR fun _ Z=>yBb (r_box (vals:=[h.v]) b e0 rfl) fun k w b=>Ya (iV 0) rfl (wK Z (seqQ fun f7 a0 a3=>sR fun _ a4=>yY (lbs_ [h.v] ST_26 e0 b R0) (bE j fun t a5 j=>yC (yCall FN_54 (a1 e0)) (sparseref12_Check_ok a5 o b) ?_)))
 rintro _ w ⟨rfl,b⟩
 refine ⟨_,rfl,?_⟩
 refine yY (yneq e0 rfl) (Ym (.bool (!(decide (t=0)))) e0 ?_)
 refine joinW 3 (fun f w=>f 1=iV i∧f 2=(pB k)∧f 15=.bool ((!(decide (t=0))) || (decide (i < 0)))∧St w0 ros (box k 26 [h.v]::rs) w) (fun H=>?_) ?_
 ·rcases Bool.eq_false_or_eq_true (!(decide (t=0))) with m | m
  ·exact gN m (gN m (yY (pt_ (.bool true) e0 m rfl) (H _ _ ⟨rfl,rfl,(congrArg Value.bool (orT m)),b⟩)))
  exact yG m (m_ (iV i) e0) (yG m (ylss e0 rfl) (yY (pf_ (.bool (decide (i < 0))) e0 m e0) (H _ _ ⟨rfl,rfl,(congrArg Value.bool (orF m)),b⟩)))
 rintro f w ⟨B,C,a6,b⟩
 refine Ym (.bool ((!(decide (t=0))) || (decide (i < 0)))) (eh a6) ?_
 refine joinW 6 (fun f w=>f 1=iV i∧f 2=(pB k)∧f 22=.bool (((!(decide (t=0))) || (decide (i < 0))) || (decide ((z.length:Int)≤i)))∧St w0 ros (box k 26 [h.v]::rs) w) (fun I=>?_) ?_
 ·rcases Bool.eq_false_or_eq_true ((!(decide (t=0))) || (decide (i < 0))) with d | d
  ·exact gN d (gN d (gN d (gN d (gN d (yY (pt_ (.bool true) e0 d rfl) (I _ _ ⟨B,C,(congrArg Value.bool (orT d)),b⟩))))))
  exact yG d (m_ (iV i) (eh B)) (yG d (yFb FL_26_0 (eh C)) (yG d (lb_ h.v O_24 e0 b R0) (yG d (yLen SL_24 e0 b (rdI o)) (yG d (ygeq e0 e0) (yY (pf_ (.bool (decide ((z.length:Int)≤i))) e0 d e0) (I _ _ ⟨B,C,(congrArg Value.bool (orF d)),b⟩))))))
 rintro f w ⟨a7,a8,a9,b⟩
 refine wK a4 (cB (eh a9) j (fun b0 j=>?_) fun b0 j=>?_)
 ·refine sR fun _ b1=>Ya (iV (-1)) rfl (wK b1 (wp_ret (a3 _ _ _ rfl ?_)))
  cases j
  exact G _ _ _ (fin1r Tryz.results79 ⟨rfl,rfl⟩ ⟨rfl,(b.pk 1 [] rfl)⟩)
 refine wp_skip (a0 _ _ (blockQ fun _ b2=>bE j fun f8 b3 j=>?_))
 refine loopQ (fun s a w=>∃ (p:Int) (f:FV),p=s∧a=fr 70 f∧f 1=iV p∧f 2=(pB k)∧St w0 ros (box k 26 [h.v]::rs) w) b3 ⟨_,_,rfl,rfl,a7,a8,b⟩ ?_
 rintro _ _ w f9 ⟨p,f,rfl,rfl,J,K,b⟩ g b5 g0 b6 b7
 refine blockQ fun _ L=>sR fun _ b8=>yY (lbs_ [h.v] ST_26 (eh K) b R0) (Ym (iV p) (eh J) (bE g fun N b9 g=>yC (yCall FN_78 (a2 e0 e0)) (sparseref12_Levels_ok b9 o b) ?_))
 rintro _ w ⟨q,rfl,b⟩
 refine ⟨_,rfl,?_⟩
 refine Ya q.v e0 (wK b8 (sR fun _ c0=>Ym q.v e0 (Ym q.v e0 (yY (yLen SL_24 e0 b rO0) (yY (ysub e0 rfl) (bE g fun O R g=>yY (yIa SL_24 e0 e0 b rO0 R) ?_))))))
 obtain ⟨n,c1,b⟩:=rLs b rO0 R
 refine yY (yCe O_22 e0 c1 rfl) (Ya n.v e0 (wK c0 (sR fun _ c2=>Ym n.v e0 (bE g fun c3 S g=>yY (yIa SL_22 e0 rfl b (rdI F0) S) (yY (yI O_3 e0 b (rdI F0) S) (Ya (iV c3) e0 (wK c2 (sQ fun _ c4=>?_))))))))
 refine sR fun _ c5=>Ya (iV 1) rfl (wK c5 (blockQ fun _ c6=>bE g fun g1 c8 g=>?_))
 refine loopQ (fun s a w=>∃ (r l:Int) (f:FV),(r,l)=s∧a=fr 70 f∧f 1=iV p∧f 2=(pB k)∧f 5=q.v∧f 6=n.v∧f 7=iV r∧f 8=iV l∧St w0 (imm I1 n.v O::ros) (box k 26 [h.v]::row 22 S1 q.v N::rs) w) c8 ⟨_,_,_,rfl,rfl,J,K,rfl,rfl,rfl,rfl,(b.pk 2 [1,0] rfl)⟩ ?_
 rintro _ _ w d0 ⟨r,l,f,rfl,rfl,D,u,E,x,A,y,b⟩ c d1 g2 d2 d3
 refine seqQ fun g3 d4 d5=>sR fun _ d6=>Ym (iV l) (eh y) (Ym n.v (eh x) (yY (yLen SL_22 e0 b (rdI F0)) (yY (ylss e0 e0) (wK d6 ?_))))
 refine cIf e0 c (fun d7 c=>?_) fun d7 c=>?_
 ·refine wp_skip (d4 _ _ (sQ fun _ d8=>blockQ fun d9 e1=>sQ fun _ e2=>bE c fun g4 T c=>bE c fun g5 U c=>bE c fun g6 V c=>dR [0,1,0,0,12,28,63,127,255,0,512,0,3584,7680,15872,32767] [] 0 folM ?_))
  replace b:=b.drew
  refine Dz [0,1,2,3,4,5,6,7,8,9,10,11,12,13,14,15] [] (yR rfl (yFb FL_26_0 (eh u)) (yR rfl (lb_ h.v O_24 e0 b R0) (yR rfl (m_ n.v (eh x)) (yR rfl (m_ (iV l) (eh y)) (yR rfl (yIa SL_22 e0 e0 b (rdI F0) T) (yR rfl (yI O_3 e0 b (rdI F0) T) (yR rfl (yIa SL_24 e0 e0 b (rdI (mtF o)) U) ?_)))))))
  obtain ⟨g7,b⟩:=iLs b (mtF o) U
  refine yR rfl (yCt O_22 e0 b F1 rfl) (yR rfl (yLen SL_22 e0 b (rdI F0)) (yR rfl (yFb FL_26_0 (eh u)) (yR rfl (lb_ h.v O_24 e0 b R0) (yR rfl (m_ (iV r) (eh A)) (yR rfl (yIa SL_24 e0 e0 b (rdI (F_3 o)) V) ?_)))))
  obtain ⟨g8,b⟩:=iLs b (F_3 o) V
  refine yR rfl (yCt O_22 e0 b F1 rfl) (yR rfl (yLen SL_22 e0 b (rdI F0)) (yR rfl (ylss e0 e0) (Rn QSn (e2 _ _ ?_))))
  have W:∀ (F:Int) (f:FV) w,f 1=iV p→f 2=(pB k)→f 5=q.v→f 6=n.v→f 7=iV F→f 8=iV l→St w0 (imm I1 n.v O::ros) (box k 26 [h.v]::row 22 S1 q.v N::rs) w→sparseref12_Peripheral_j15 l F=some d0→d9 .normal (fr 70 f) w:=by
   intro F f w e3 e4 e5 e6 e7 e8 b j
   refine e1 _ _ _ (d8 _ _ (wR (Ym (iV l) (eh e8) (yY (yadd e0 rfl) (Ya (iV (wa .i64 l 1)) e0 (wN ?_))))))
   cases j
   exact d2 _ _ _ rfl ⟨_,_,_,rfl,rfl,e3,e4,e5,e6,e7,rfl,b⟩
  refine cIf e0 c (fun e9 c=>?_) fun e9 c=>?_
  ·exact wR (Ym n.v (eh x) (Ym (iV l) (eh y) (bE c fun f0 X c=>yY (yIa SL_22 e0 e0 b (rdI F4) X) (yY (yI O_3 e0 b (rdI F4) X) (Ya (iV f0) e0 (wN (W _ _ _ D u E x rfl y (b.facts (allC F4 (allT (allT (allT (allT (allT allI))))))) c)))))))
  exact wp_skip (W _ _ _ D u E x A y (b.facts (allC F4 (allT (allT (allT (allT (allT allI))))))) c)
 refine wp_exit (d5 _ _ _ rfl ?_)
 cases c
 refine d3 _ _ _ _ rfl rfl ?_
 obtain rfl:=d1 _ rfl
 refine c6 _ _ _ (c4 _ _ (seqQ fun g9 f1 f2=>sR fun _ f3=>yY (lbs_ [h.v] ST_26 (eh u) b R0) (Ym (iV r) (eh A) (bE g fun h0 f4 g=>yC (yCall FN_78 (a2 e0 e0)) (sparseref12_Levels_ok f4 (mtF o) b) ?_))))
 rintro _ w ⟨h1,rfl,b⟩
 refine ⟨_,rfl,?_⟩
 refine yY (yLen SL_24 e0 b rO0) (Ym q.v (eh E) (yY (yLen SL_24 e0 b rO2) (yY (yleq e0 e0) (wK f3 ?_))))
 refine cIf e0 g (fun f5 g=>?_) fun f5 g=>?_
 ·refine sR fun _ f6=>Ym (iV p) (eh D) (Ya (iV p) e0 (wK f6 (wp_ret (f2 _ _ _ rfl (L _ _ _ ?_)))))
  cases g
  refine b7 _ _ _ _ rfl rfl ?_
  obtain rfl:=b5 _ rfl
  refine b2 _ _ _ ?_
  cases j
  exact G _ _ _ (fin1r Tryz.results79 ⟨rfl,rfl⟩ ⟨rfl,((b.pk 3 [] rfl).facts (allT allI))⟩)
 refine wp_skip (f1 _ _ (wR (Ym (iV r) (eh A) (Ya (iV r) e0 (wN (L _ _ _ ?_))))))
 cases g
 exact b6 _ _ _ rfl ⟨_,_,rfl,rfl,rfl,u,((b.pk 3 [1] rfl).facts (allT allI))⟩
theorem sparseref18_Grow_ok {Z:L2} {a0:LI} {a3:L2} {h j o:Hdr} {out:LI} (i:sparseref18_Grow Z a0 a3=some out) (B:imm S1 h.v Z∈ros) (C:imm I1 j.v a0∈ros) (e2:imm S1 o.v a3∈ros) (b:St w0 ros rs w):
  Calls Tryz.prog 45 #[.agg #[h.v,j.v,o.v]] w (fun e w=>∃ (a4:Hdr),e=.returned (a4.v)∧St w0 ros (row 3 I1 a4.v out::rs) w):=by
 refine enterQ Tryz.func45 rfl Tryz.ntmps45 rfl fun Q a5=>sR fun _ e3=>yBb (r_box (vals:=[h.v,j.v,o.v]) b e0 rfl) fun p w b=>Ya hnil.v rfl (wK e3 (sR fun _ e4=>yY (yFb FL_28_1 e0) (yY (lb_ j.v O_22 e0 b R0) (yY (yLen SL_22 e0 b (rdI C)) (bE i fun l7 e5 i=>?_)))))
 refine yH (rMk b SL_22 e0 e5) fun d w b=>Ya d.v e0 (wK e4 (sQ fun _ e6=>sR fun _ e7=>Ya (iV 0) rfl (wK e7 (blockQ fun _ e8=>bE i fun l8 e9 i=>?_))))
 refine loopQ (fun s a w=>∃ (I:LI) (t:Int) (f:FV),(I,t)=s∧a=fr 91 f∧f 1=(pB p)∧f 3=d.v∧f 4=iV t∧St w0 ros (box p 28 [h.v,j.v,o.v]::row 3 I1 d.v I::rs) w) e9 ⟨_,_,_,rfl,rfl,rfl,rfl,rfl,(b.pk 2 [1,0] rfl)⟩ ?_
 rintro _ _ w l9 ⟨I,t,f,rfl,rfl,D,E,J,b⟩ u f0 m0 f1 f2
 refine seqQ fun m1 f3 f4=>sR fun _ f5=>Ym (iV t) (eh J) (Ym d.v (eh E) (yY (yLen SL_22 e0 b rO1) (yY (ylss e0 e0) (wK f5 ?_))))
 refine cIf e0 u (fun f6 u=>?_) fun f6 u=>?_
 ·refine wp_skip (f3 _ _ (sQ fun _ f7=>blockQ fun _ f8=>wR (Ym d.v (eh E) (Ym (iV t) (eh J) (bE u fun m2 a6 u=>yY (yIs SL_22 e0 e0 b rO1 a6) (yT (r_sti (cs:=[iV 1]) (b.pk 2 [1,0] rfl) O_3 rfl e0 rfl rfl mkI a6) fun w b=>wN (f8 _ _ _ (f7 _ _ ?_))))))))
  refine wR (Ym (iV t) (eh J) (yY (yadd e0 rfl) (Ya (iV (wa .i64 t 1)) e0 (wN ?_))))
  cases u
  exact f1 _ _ _ rfl ⟨_,_,_,rfl,rfl,D,E,rfl,(b.pk 2 [1,0] rfl)⟩
 refine wp_exit (f4 _ _ _ rfl ?_)
 cases u
 refine f2 _ _ _ _ rfl rfl ?_
 obtain rfl:=f0 _ rfl
 refine e8 _ _ _ (e6 _ _ (sR fun _ f9=>yY (lbs_ [h.v,j.v,o.v] ST_28 (eh D) b R0) (bE i fun y g0 i=>yC (yCall FN_75 (a1 e0)) (sparseref18_Total_ok g0 B C e2 b) ?_)))
 rintro _ w ⟨rfl,b⟩
 refine ⟨_,rfl,?_⟩
 refine Ya (iV y) e0 (Ya (iV 0) rfl (wK f9 (sR fun _ g1=>yY (yFb FL_28_0 (eh D)) (yY (lbs_ [h.v] ST_26 e0 b R0) (bE i fun K g2 i=>yC (yCall FN_77 (a1 e0)) (sparseref12_Components_ok g2 B b) ?_)))))
 rintro _ w ⟨l,rfl,b⟩
 refine ⟨_,rfl,?_⟩
 refine Ya l.v e0 (wK g1 (seqQ fun m3 g3 g4=>sR fun _ g5=>Ya (iV 0) rfl (wK g5 (blockQ fun _ a7=>bE i fun m4 g6 i=>?_))))
 refine loopQ (fun s a w=>∃ (L:LI) (N m:Int) (f:FV),(L,N,m)=s∧a=fr 91 f∧f 1=(pB p)∧f 3=d.v∧f 5=iV y∧f 6=iV N∧f 7=l.v∧f 8=iV m∧St w0 ros (box p 28 [h.v,j.v,o.v]::row 3 I1 d.v L::row 22 S1 l.v K::rs) w) g6 ⟨_,_,_,_,rfl,rfl,D,E,rfl,rfl,rfl,rfl,(b.pk 3 [1,1,0] rfl)⟩ ?_
 rintro _ _ w m5 ⟨L,N,m,f,rfl,rfl,F,a8,g7,g8,O,R,b⟩ g a9 m6 g9 b0
 refine seqQ fun m7 h0 h1=>sR fun _ h3=>Ym (iV m) (eh R) (Ym l.v (eh O) (yY (yLen SL_24 e0 b rO2) (yY (ylss e0 e0) (wK h3 ?_))))
 refine cIf e0 g (fun h5 g=>?_) fun h5 g=>?_
 ·refine wp_skip (h0 _ _ (seqQ fun m8 h7 h9=>blockQ fun _ b1=>sQ fun _ i0=>bE g fun m9 b2 g=>bE g fun n0 b3 g=>bE g fun n2 i1 g=>bE g fun b4 i2 g=>dR [0,1,0,4,0,0,48,112,240,496,1020,2047,4095] [10,11,12] 3 folM ?_))
  replace b:=b.drew
  refine Dn [0,1,2,3,4,5,6,7,8,9] [] [10] (yR rfl (yFb FL_28_0 (eh F)) (yR rfl (lbs_ [h.v] ST_26 e0 b R0) (yR rfl (yFb FL_28_0 (eh F)) (yR rfl (lbs_ [h.v] ST_26 e0 b R0) (yR rfl (m_ l.v (eh O)) (yR rfl (m_ (iV m) (eh R)) (yR rfl (yIa SL_24 e0 e0 b rO2 b2) ?_)))))))
  obtain ⟨n3,i3,b⟩:=rLs b rO2 b2
  refine yR rfl (yCe O_22 e0 i3 rfl) (yR rfl (yIa SL_22 e0 rfl b (rdI F0) b3) (yR rfl (yI O_3 e0 b (rdI F0) b3) (Rn QSn ?_)))
  refine Lc1 rfl ?_
  refine Lk wn (yCall FN_79 (a2 e0 e0)) (sparseref12_Peripheral_ok i1 (mtF B) b) ?_
  rintro _ w ⟨rfl,b⟩
  refine ⟨_,rfl,?_⟩
  refine Dn [] [0,1] [11] (Rn (yS rfl (yFb FL_28_0 (eh F)) (yS rfl (lbs_ [h.v] ST_26 e0 b R0) QSn)) ?_)
  refine Lc1 rfl ?_
  refine Lk wn (yCall FN_78 (a2 e0 e0)) (sparseref12_Levels_ok i2 (mtF B) b) ?_
  rintro _ w ⟨n,rfl,b⟩
  refine ⟨_,rfl,?_⟩
  refine Dn [] [] [12] (Rn QSn ?_)
  refine Lc1 rfl ?_
  refine Ly wn (a_ n.v e0) (Dz [] [] (Rn QSn (i0 _ _ (sR fun _ i4=>Ya (iV 0) rfl (wK i4 (blockQ fun _ b5=>bE g fun n4 i5 g=>?_))))))
  refine loopQ (fun s a w=>∃ (S:LI) (T k:Int) (f:FV),(S,T,k)=s∧a=fr 91 f∧f 1=(pB p)∧f 3=d.v∧f 5=iV y∧f 6=iV T∧f 7=l.v∧f 8=iV m∧f 9=n.v∧f 10=iV k∧St w0 ros (box p 28 [h.v,j.v,o.v]::row 3 I1 d.v S::row 22 S1 l.v K::row 22 S1 n.v b4::rs) w) i5 ⟨_,_,_,_,rfl,rfl,F,a8,g7,g8,O,R,rfl,rfl,((b.pk 4 [1,1,1,0] rfl).facts (allT allI))⟩ ?_
  rintro _ _ w n5 ⟨S,T,k,f,rfl,rfl,b6,b8,b9,c0,c1,c2,c3,c4,b⟩ q c5 n6 i6 c6
  refine seqQ fun n7 i7 i8=>sR fun _ i9=>Ym (iV k) (eh c4) (Ym n.v (eh c3) (yY (yLen SL_24 e0 b rO3) (yY (ylss e0 e0) (wK i9 ?_))))
  refine cIf e0 q (fun j0 q=>?_) fun j0 q=>?_
  ·refine wp_skip (i7 _ _ (seqQ fun n8 j1 j2=>blockQ fun _ c7=>sR fun _ j3=>Ya (iV 0) rfl (wK j3 (blockQ fun _ c8=>bE q fun n9 j4 q=>?_))))
   refine loopQ (fun s a w=>∃ (U:LI) (x r:Int) (f:FV),(U,x,r)=s∧a=fr 91 f∧f 1=(pB p)∧f 3=d.v∧f 5=iV y∧f 6=iV x∧f 7=l.v∧f 8=iV m∧f 9=n.v∧f 10=iV k∧f 11=iV r∧St w0 ros (box p 28 [h.v,j.v,o.v]::row 3 I1 d.v U::row 22 S1 l.v K::row 22 S1 n.v b4::rs) w) j4 ⟨_,_,_,_,rfl,rfl,b6,b8,b9,c0,c1,c2,c3,c4,rfl,b⟩ ?_
   rintro _ _ w o0 ⟨U,x,r,f,rfl,rfl,V,G,W,X,c9,d0,z,A,H,b⟩ c d1 o2 j5 d2
   refine seqQ fun o3 j6 j7=>sR fun _ j8=>Ym (iV r) (eh H) (Ym n.v (eh z) (Ym (iV k) (eh A) (bE c fun o4 d3 c=>yY (yIa SL_24 e0 e0 b rO3 d3) ?_)))
   obtain ⟨o5,j9,b⟩:=rLs b rO3 d3
   refine yY (yCe O_22 e0 j9 rfl) (yY (yLen SL_22 e0 b (rdI F0)) (yY (ylss e0 e0) (wK j8 ?_)))
   refine cIf e0 c (fun k0 c=>?_) fun k0 c=>?_
   ·refine wp_skip (j6 _ _ (seqQ fun o6 k5 k6=>blockQ fun _ d4=>seqQ fun o7 k7 k8=>sR fun _ k9=>Ym (iV x) (eh X) (yY (ymul rfl e0) (Ym (iV y) (eh W) (yY (ygeq e0 e0) (wK k9 ?_))))))
    refine cIf e0 c (fun l0 c=>?_) fun l0 c=>?_
    ·refine sR fun _ l1=>Ym d.v (eh G) (Ya d.v e0 (wK l1 (wp_ret (k8 _ _ _ rfl (d4 _ _ _ (k6 _ _ _ rfl ?_))))))
     cases c
     refine d2 _ _ _ _ rfl rfl ?_
     obtain rfl:=d1 _ rfl
     refine c8 _ _ _ (c7 _ _ _ (j2 _ _ _ rfl ?_))
     cases q
     refine c6 _ _ _ _ rfl rfl ?_
     obtain rfl:=c5 _ rfl
     refine b5 _ _ _ (b1 _ _ _ (h9 _ _ _ rfl ?_))
     cases g
     refine b0 _ _ _ _ rfl rfl ?_
     obtain rfl:=a9 _ rfl
     refine a7 _ _ _ (g4 _ _ _ rfl ?_)
     cases i
     exact a5 _ _ _ (fin1r Tryz.results45 ⟨rfl,rfl⟩ ⟨_,rfl,((b.pk 4 [1] rfl).facts (allT allI))⟩)
    refine wp_skip (k7 _ _ (sR fun _ l2=>Ym d.v (eh G) (Ym n.v (eh z) (Ym (iV k) (eh A) (bE c fun o8 d5 c=>yY (yIa SL_24 e0 e0 b rO3 d5) ?_)))))
    obtain ⟨o9,l3,b⟩:=rLs b rO3 d5
    refine yY (yCe O_22 e0 l3 rfl) (Ym (iV r) (eh H) (bE c fun p0 d6 c=>yY (yIa SL_22 e0 e0 b (rdI F0) d6) (yY (yI O_3 e0 b (rdI F0) d6) (bE c fun p1 d7 c=>yY (yIs SL_22 e0 e0 b rO1 d7) (yT (r_sti (cs:=[iV 0]) (b.pk 2 [1,0] rfl) O_3 rfl e0 rfl rfl mkI d7) fun w b=>wK l2 (bE c fun p2 d8 c=>bE c fun p3 d9 c=>bE c fun l4 e1 c=>?_))))))
    refine dR [0,0,2,0,0,24,56,0,248,504,1022,2046,4095,8191] [13] 1 folM ?_
    replace b:=b.drew
    refine Dn [0,1,2,3,4,5,6,7,8,9,10,11,12] [] [13] (yR rfl (m_ (iV x) (eh X)) (yR rfl (yFb FL_28_1 (eh V)) (yR rfl (lb_ j.v O_22 e0 b R1) (yR rfl (m_ n.v (eh z)) (yR rfl (m_ (iV k) (eh A)) (yR rfl (yIa SL_24 e0 e0 b rO3 d8) ?_))))))
    obtain ⟨p4,l5,b⟩:=rLs b rO3 d8
    refine yR rfl (yCe O_22 e0 l5 rfl) (yR rfl (m_ (iV r) (eh H)) (yR rfl (yIa SL_22 e0 e0 b (rdI F0) d9) (yR rfl (yI O_3 e0 b (rdI F0) d9) (yR rfl (yIa SL_22 e0 e0 b (rdI (F_3 C)) e1) (yR rfl (yI O_3 e0 b (rdI (F_3 C)) e1) (yR rfl (yadd e0 e0) (Rn QSn ?_)))))))
    refine Lc1 rfl ?_
    refine Ly wn (a_ (iV (wa .i64 x l4)) e0) (Dz [] [] (Rn QSn (d4 _ _ _ (k5 _ _ (wR (Ym (iV r) (eh H) (yY (yadd e0 rfl) (Ya (iV (wa .i64 r 1)) e0 (wN ?_)))))))))
    cases c
    exact j5 _ _ _ rfl ⟨_,_,_,_,rfl,rfl,V,G,W,rfl,c9,d0,z,A,rfl,((b.pk 4 [1,0,0,0] rfl).facts (allT (allT (allT allI))))⟩
   refine wp_exit (j7 _ _ _ rfl ?_)
   cases c
   refine d2 _ _ _ _ rfl rfl ?_
   obtain rfl:=d1 _ rfl
   refine c8 _ _ _ (c7 _ _ _ (j1 _ _ (wR (Ym (iV k) (eh A) (yY (yadd e0 rfl) (Ya (iV (wa .i64 k 1)) e0 (wN ?_)))))))
   cases q
   exact i6 _ _ _ rfl ⟨_,_,_,_,rfl,rfl,V,G,W,X,c9,d0,z,rfl,(b.facts (allT allI))⟩
  refine wp_exit (i8 _ _ _ rfl ?_)
  cases q
  refine c6 _ _ _ _ rfl rfl ?_
  obtain rfl:=c5 _ rfl
  refine b5 _ _ _ (b1 _ _ _ (h7 _ _ (wR (Ym (iV m) (eh c2) (yY (yadd e0 rfl) (Ya (iV (wa .i64 m 1)) e0 (wN ?_)))))))
  cases g
  exact g9 _ _ _ rfl ⟨_,_,_,_,rfl,rfl,b6,b8,b9,c0,c1,rfl,(b.pk 4 [0,0,0] rfl)⟩
 refine wp_exit (h1 _ _ _ rfl ?_)
 cases g
 refine b0 _ _ _ _ rfl rfl ?_
 obtain rfl:=a9 _ rfl
 refine a7 _ _ _ (g3 _ _ (sR fun _ l6=>Ym d.v (eh a8) (Ya d.v e0 (wK l6 (wp_ret ?_)))))
 cases i
 exact a5 _ _ _ (fin1r Tryz.results45 ⟨rfl,rfl⟩ ⟨_,rfl,(b.pk 3 [1] rfl)⟩)
theorem sparseref18_weightOf_ok {y:L2} {z:LI} {A:L2} {B:LI} {j:Int} {k h l i:Hdr} {out:Int} (m:sparseref18_weightOf y z A B j=some out) (b1:imm S1 k.v y∈ros) (C:imm I1 h.v z∈ros) (b2:imm S1 l.v A∈ros) (q:imm I1 i.v B∈ros) (b:St w0 ros rs w):
  Calls Tryz.prog 76 #[.agg #[k.v,h.v,l.v],i.v,iV j] w (fun e w=>e=.returned (iV out)∧St w0 ros rs w):=by
 refine enterQ Tryz.func76 rfl Tryz.ntmps76 rfl fun Q G=>sR fun _ H=>yBb (r_box (vals:=[k.v,h.v,l.v]) b e0 rfl) fun o w b=>Ya (iV 0) rfl (wK H (sR fun _ I=>Ya (iV 0) rfl (wK I (sQ fun _ J=>?_))))
 refine sR fun _ K=>Ya (iV 0) rfl (wK K (blockQ fun _ L=>bE m fun b3 N m=>?_))
 refine loopQ (fun s a w=>∃ (g d:Int) (f:FV),(g,d)=s∧a=fr 29 f∧f 1=i.v∧f 2=iV j∧f 3=(pB o)∧f 7=iV g∧f 8=iV d∧St w0 ros (box o 28 [k.v,h.v,l.v]::rs) w) N ⟨_,_,_,rfl,rfl,rfl,rfl,rfl,rfl,rfl,b⟩ ?_
 rintro _ _ w O ⟨g,d,f,rfl,rfl,p,r,t,u,n,b⟩ c R b4 S T
 refine seqQ fun b5 U V=>sR fun _ W=>Ym (iV d) (eh n) (Ym i.v (eh p) (yY (yLen SL_22 e0 b (rdI q)) (yY (ylss e0 e0) (wK W ?_))))
 refine cIf e0 c (fun X c=>?_) fun X c=>?_
 ·refine wp_skip (U _ _ (sQ fun _ Z=>blockQ fun a0 a1=>sR fun _ a2=>Ym i.v (eh p) (Ym (iV d) (eh n) (bE c fun b6 D c=>yY (yIa SL_22 e0 e0 b (rdI q) D) (yY (yI O_3 e0 b (rdI q) D) (Ym (iV j) (eh r) (yY (yeql e0 e0) (wN ?_))))))))
  refine a2 _ _ ?_
  have E:∀ (x:Int) (f:FV) w,f 1=i.v→f 2=iV j→f 3=(pB o)→f 7=iV x→f 8=iV d→St w0 ros (box o 28 [k.v,h.v,l.v]::rs) w→sparseref18_weightOf_j4 d x=some O→a0 .normal (fr 29 f) w:=by
   intro x f w a3 a4 a5 a6 a7 b m
   refine a1 _ _ _ (Z _ _ (wR (Ym (iV d) (eh a7) (yY (yadd e0 rfl) (Ya (iV (wa .i64 d 1)) e0 (wN ?_))))))
   cases m
   exact S _ _ _ rfl ⟨_,_,_,rfl,rfl,a3,a4,a5,a6,rfl,b⟩
  refine cIf e0 c (fun a8 c=>?_) fun a8 c=>?_
  ·exact wR (Ym (iV g) (eh u) (yY (yFb FL_28_1 (eh t)) (yY (lb_ h.v O_22 e0 b R0) (Ym (iV d) (eh n) (bE c fun a9 F c=>yY (yIa SL_22 e0 e0 b (rdI C) F) (yY (yI O_3 e0 b (rdI C) F) (yY (yadd e0 e0) (Ya (iV (wa .i64 g a9)) e0 (wN (E _ _ _ p r t rfl n b c))))))))))
  exact wp_skip (E _ _ _ p r t u n b c)
 refine wp_exit (V _ _ _ rfl ?_)
 cases c
 refine T _ _ _ _ rfl rfl ?_
 obtain rfl:=R _ rfl
 refine L _ _ _ (J _ _ (sR fun _ b0=>Ym (iV g) (eh u) (Ya (iV g) e0 (wK b0 (wp_ret ?_)))))
 cases m
 exact G _ _ _ (fin1r Tryz.results76 ⟨rfl,rfl⟩ ⟨rfl,(b.pk 1 [] rfl)⟩)
theorem sparseref18_Refine_ok {a4:L2} {a5:LI} {a6:L2} {a7:LI} {l k j T:Hdr} {out:LI} (p:sparseref18_Refine a4 a5 a6 a7=some out) (I:imm S1 l.v a4∈ros) (D:imm I1 k.v a5∈ros) (A:imm S1 j.v a6∈ros) (e2:imm I1 T.v a7∈ros) (b:St w0 ros rs w):
  Calls Tryz.prog 44 #[.agg #[l.v,k.v,j.v],T.v] w (fun e w=>∃ (a8:Hdr),e=.returned (a8.v)∧St w0 ros (row 3 I1 a8.v out::rs) w):=by
 refine enterQ Tryz.func44 rfl Tryz.ntmps44 rfl fun Q e3=>sR fun _ e4=>yBb (r_box (vals:=[l.v,k.v,j.v]) b e0 rfl) fun m w b=>Ya hnil.v rfl (wK e4 (sR fun _ e5=>Ym T.v e0 (bE p fun n6 e6 p=>yC (yCall FN_47 (a1 e0)) (sparsekit_TwinInts_ok e6 e2 b) ?_)))
 rintro _ w ⟨g,rfl,b⟩
 refine ⟨_,rfl,?_⟩
 refine Ya g.v e0 (wK e5 (sR fun _ e7=>yY (lbs_ [l.v,k.v,j.v] ST_28 e0 b R1) (bE p fun z e8 p=>yC (yCall FN_75 (a1 e0)) (sparseref18_Total_ok e8 I D A b) ?_)))
 rintro _ w ⟨rfl,b⟩
 refine ⟨_,rfl,?_⟩
 refine Ya (iV z) e0 (wK e7 (sQ fun _ e9=>sR fun _ f0=>Ya (iV 0) rfl (wK f0 (blockQ fun f1 f2=>bE p fun f3 f4 p=>?_))))
 have a9:∀ (U:LI) (f:FV) w,f 5=g.v→St w0 ros (row 3 I1 g.v U::rs) w→U=f3→f1 (.exit 0) (fr 106 f) w:=by
  intro U f w f5 b ho
  subst ho
  refine f2 _ _ _ (e9 _ _ (sR fun _ f6=>Ym g.v (eh f5) (Ya g.v e0 (wK f6 (wp_ret ?_)))))
  cases p
  exact e3 _ _ _ (fin1r Tryz.results44 ⟨rfl,rfl⟩ ⟨_,rfl,b⟩)
 refine loopQ (fun s a w=>∃ (V:LI) (q:Int) (f:FV),(V,q)=s∧a=fr 106 f∧f 2=(pB m)∧f 5=g.v∧f 6=iV z∧f 7=iV q∧St w0 ros (box m 28 [l.v,k.v,j.v]::row 3 I1 g.v V::rs) w) f4 ⟨_,_,_,rfl,rfl,rfl,rfl,rfl,rfl,(b.pk 2 [1,0] rfl)⟩ ?_
 rintro _ _ w n7 ⟨V,q,f,rfl,rfl,f7,b0,f8,b1,b⟩ r b2 n8 f9 b3
 refine seqQ fun n9 g0 g1=>sR fun _ g2=>Ym (iV q) (eh b1) (yY (ylss e0 rfl) (wK g2 ?_))
 refine cIf e0 r (fun g3 r=>?_) fun g3 r=>?_
 ·refine wp_skip (g0 _ _ (seqQ fun o0 g4 g5=>blockQ fun _ b4=>sR fun _ g6=>Ya (.bool false) rfl (wK g6 (sQ fun _ g7=>sR fun _ g8=>Ya (iV 0) rfl (wN ?_)))))
  refine g8 _ _ (blockQ fun _ g9=>bE r fun o1 h0 r=>?_)
  refine loopQ (fun s a w=>∃ (E:LI) (C:Bool) (h:Int) (f:FV),(E,C,h)=s∧a=fr 106 f∧f 2=(pB m)∧f 5=g.v∧f 6=iV z∧f 7=iV q∧f 8=.bool C∧f 9=iV h∧St w0 ros (box m 28 [l.v,k.v,j.v]::row 3 I1 g.v E::rs) w) h0 ⟨_,_,_,_,rfl,rfl,f7,b0,f8,b1,rfl,rfl,b⟩ ?_
  rintro _ _ w h1 ⟨E,C,h,f,rfl,rfl,b5,J,b6,b7,b8,c0,b⟩ i h3 o2 h5 h7
  refine seqQ fun o3 h9 i0=>sR fun _ i1=>Ym (iV h) (eh c0) (Ym g.v (eh J) (yY (yLen SL_22 e0 b rO1) (yY (ylss e0 e0) (wK i1 ?_))))
  refine cIf e0 i (fun i2 i=>?_) fun i2 i=>?_
  ·refine wp_skip (h9 _ _ (sQ fun i3 i4=>?_))
   have c1:∀ (W:LI) (X:Bool) (f:FV) w,f 2=(pB m)→f 5=g.v→f 6=iV z→f 7=iV q→f 8=.bool X→f 9=iV h→St w0 ros (box m 28 [l.v,k.v,j.v]::row 3 I1 g.v W::rs) w→sparseref18_Refine_j397 h W X=some h1→i3 .normal (fr 106 f) w:=by
    intro W X f w i5 i6 i7 i8 i9 j0 b p
    refine i4 _ _ (wR (Ym (iV h) (eh j0) (yY (yadd e0 rfl) (Ya (iV (wa .i64 h 1)) e0 (wN ?_)))))
    cases p
    exact h5 _ _ _ rfl ⟨_,_,_,_,rfl,rfl,i5,i6,i7,i8,i9,rfl,b⟩
   refine blockQ fun _ c2=>sR fun _ j1=>Ya (iV 0) rfl (wK j1 (sQ fun _ j2=>sR fun _ j3=>Ya (iV 0) rfl (wK j3 (blockQ fun _ j4=>bE i fun o4 j5 i=>?_))))
   refine loopQ (fun s a w=>∃ (t u:Int) (f:FV),(t,u)=s∧a=fr 106 f∧f 2=(pB m)∧f 5=g.v∧f 6=iV z∧f 7=iV q∧f 8=.bool C∧f 9=iV h∧f 10=iV t∧f 11=iV u∧St w0 ros (box m 28 [l.v,k.v,j.v]::row 3 I1 g.v E::rs) w) j5 ⟨_,_,_,rfl,rfl,b5,J,b6,b7,b8,c0,rfl,rfl,b⟩ ?_
   rintro _ _ w j6 ⟨t,u,f,rfl,rfl,x,B,F,K,L,o,N,G,b⟩ d j7 o5 j8 j9
   refine seqQ fun o6 k0 k6=>sR fun _ k7=>Ym (iV u) (eh G) (yY (yFb FL_28_2 (eh x)) (yY (lb_ j.v O_24 e0 b R0) (Ym (iV h) (eh o) (bE d fun o7 c3 d=>yY (yIa SL_24 e0 e0 b (rdI A) c3) ?_))))
   obtain ⟨o8,b⟩:=iLs b A c3
   refine yY (yCt O_22 e0 b F1 rfl) (yY (yLen SL_22 e0 b (rdI F0)) (yY (ylss e0 e0) (wK k7 ?_)))
   refine cIf e0 d (fun k8 d=>?_) fun k8 d=>?_
   ·refine wp_skip (k0 _ _ (sQ fun _ k9=>blockQ fun l0 l1=>sQ fun _ l2=>bE d fun o9 c4 d=>bE d fun p0 c5 d=>bE d fun p1 c6 d=>bE d fun p2 c7 d=>dR [0,0,2,6,0,30,62,0,254,510,1023,2047,0,0,12288,28672,65535] [] 0 folM ?_))
    replace b:=b.drew
    refine Dz [0,1,2,3,4,5,6,7,8,9,10,11,12,13,14,15,16] [] (yR rfl (m_ g.v (eh B)) (yR rfl (yFb FL_28_0 (eh x)) (yR rfl (yFb FL_26_0 e0) (yR rfl (lb_ l.v O_24 e0 b R0) (yR rfl (m_ (iV h) (eh o)) (yR rfl (yIa SL_24 e0 e0 b (rdI (F_2 I)) c4) ?_))))))
    obtain ⟨p3,b⟩:=iLs b (F_2 I) c4
    refine yR rfl (yCt O_22 e0 b F1 rfl) (yR rfl (m_ (iV u) (eh G)) (yR rfl (yIa SL_22 e0 e0 b (rdI F0) c5) (yR rfl (yI O_3 e0 b (rdI F0) c5) (yR rfl (yIa SL_22 e0 e0 b rO1 c6) (yR rfl (yI O_3 e0 b rO1 c6) (yR rfl (m_ g.v (eh B)) (yR rfl (m_ (iV h) (eh o)) (yR rfl (yIa SL_22 e0 e0 b rO1 c7) (yR rfl (yI O_3 e0 b rO1 c7) (yR rfl (yeql e0 e0) (Rn QSn (l2 _ _ ?_))))))))))))
    have c8:∀ (Z:Int) (f:FV) w,f 2=(pB m)→f 5=g.v→f 6=iV z→f 7=iV q→f 8=.bool C→f 9=iV h→f 10=iV Z→f 11=iV u→St w0 ros (box m 28 [l.v,k.v,j.v]::row 3 I1 g.v E::rs) w→sparseref18_Refine_j404 u Z=some j6→l0 .normal (fr 106 f) w:=by
     intro Z f w l3 l4 l5 l6 l7 l8 l9 m0 b p
     refine l1 _ _ _ (k9 _ _ (wR (Ym (iV u) (eh m0) (yY (yadd e0 rfl) (Ya (iV (wa .i64 u 1)) e0 (wN ?_))))))
     cases p
     exact j8 _ _ _ rfl ⟨_,_,_,rfl,rfl,l3,l4,l5,l6,l7,l8,l9,rfl,b⟩
    refine cIf e0 d (fun m1 d=>?_) fun m1 d=>?_
    ·refine wR (Ym (iV t) (eh N) (yY (yFb FL_28_2 (eh x)) (yY (lb_ j.v O_24 e0 b R0) (Ym (iV h) (eh o) (bE d fun p4 c9 d=>yY (yIa SL_24 e0 e0 b (rdI (F_4 A)) c9) ?_)))))
     obtain ⟨p5,b⟩:=iLs b (F_4 A) c9
     exact yY (yCt O_22 e0 b F1 rfl) (Ym (iV u) (eh G) (bE d fun m2 d0 d=>yY (yIa SL_22 e0 e0 b (rdI F0) d0) (yY (yI O_3 e0 b (rdI F0) d0) (yY (ysub e0 e0) (Ya (iV (ws .i64 t m2)) e0 (wN (c8 _ _ _ x B F K L o rfl G (b.facts (allT (allT (allT (allT (allT (allT allI))))))) d)))))))
    refine wR (Ym (iV t) (eh N) (yY (yFb FL_28_2 (eh x)) (yY (lb_ j.v O_24 e0 b R0) (Ym (iV h) (eh o) (bE d fun p6 d1 d=>yY (yIa SL_24 e0 e0 b (rdI (F_4 A)) d1) ?_)))))
    obtain ⟨p7,b⟩:=iLs b (F_4 A) d1
    exact yY (yCt O_22 e0 b F1 rfl) (Ym (iV u) (eh G) (bE d fun m3 d2 d=>yY (yIa SL_22 e0 e0 b (rdI F0) d2) (yY (yI O_3 e0 b (rdI F0) d2) (yY (yadd e0 e0) (Ya (iV (wa .i64 t m3)) e0 (wN (c8 _ _ _ x B F K L o rfl G (b.facts (allT (allT (allT (allT (allT (allT allI))))))) d)))))))
   refine wp_exit (k6 _ _ _ rfl ?_)
   cases d
   refine j9 _ _ _ _ rfl rfl ?_
   obtain rfl:=j7 _ rfl
   refine j4 _ _ _ (j2 _ _ (seqQ fun p8 m4 m5=>sQ fun _ m6=>bE i fun a0 y i=>?_))
   refine joinN (n:=106) (fun f w=>f 2=(pB m)∧f 5=g.v∧f 6=iV z∧f 7=iV q∧f 8=.bool C∧f 9=iV h∧f 94=.bool a0∧St w0 ros (box m 28 [l.v,k.v,j.v]::row 3 I1 g.v E::rs) w) (fun d3=>?_) ?_
   ·rcases iteS y with ⟨c,y⟩ | ⟨c,y⟩
    ·have m7:=someI y
     refine dR [0,1,3,7,7,7,7,103,231,487,1023,7,2055,7,14343,30727,65535,131071,7,262151,1048575,2097151] [10] 1 folM ?_
     replace b:=b.drew
     refine Dn [0,1,2,3,4,5,6,7,8,9,11,12,13,14,15,18,19] [] [10] (yR rfl (m_ (iV t) (eh N)) (yR rfl (yleq e0 rfl) (yR rfl (m_ (.bool (decide (t≤0))) e0) (Rx rfl rfl (wX (dT c)) (Rx rfl rfl (wX (dT c)) (Rx rfl rfl (wX (dT c)) (Rx rfl rfl (wX (dT c)) (Rx rfl rfl (wX (dT c)) (Rx rfl rfl (wX (dT c)) (Rx rfl rfl (wX (dT c)) (Rx rfl rfl (wX (dT c)) (Rx rfl rfl (wX (dT c)) (Rx rfl rfl (wX (dT c)) ?_)))))))))))))
     refine Rx rfl rfl (wX (dT c)) (Rx rfl rfl (wX (dT c)) (Rx rfl rfl (wX (dT c)) (Rx rfl rfl (wX (dT c)) (Rn QSn ?_))))
     refine Lc1 rfl ?_
     exact Lx (wX (dT c)) (Dz [16,17,20,21] [11,12,13,14,15,18,19] (Rx rfl rfl (wX (dT c)) (Rx rfl rfl (wX (dT c)) (Rx rfl rfl (wX (dT c)) (yR rfl (pt_ (.bool a0) e0 (dT c) (eqv m7 rfl)) (Rn (Sx_ rfl rfl (wX (dT c)) rfl (Sx_ rfl rfl (wX (dT c)) rfl (Sx_ rfl rfl (wX (dT c)) rfl (Sx_ rfl rfl (wX (dT c)) rfl (Sx_ rfl rfl (wX (dT c)) rfl (Sx_ rfl rfl (wX (dT c)) rfl (Sx_ rfl rfl (wX (dT c)) rfl QSn))))))) (d3 _ _ ⟨x,B,F,K,L,o,rfl,(b.facts (allT (allT allI)))⟩)))))))
    refine bE y fun p9 d4 y=>bE y fun q0 m8 y=>bE y fun q5 O y=>?_
    have m9:=someI y
    refine dR [0,1,3,7,7,7,7,103,231,487,1023,7,2055,7,14343,30727,65535,131071,7,262151,1048575,2097151] [10] 1 folM ?_
    replace b:=b.drew
    refine Dn [0,1,2,3,4,5,6,7,8,9,11,12,13,14,15,18,19] [] [10] (yR rfl (m_ (iV t) (eh N)) (yR rfl (yleq e0 rfl) (yR rfl (m_ (.bool (decide (t≤0))) e0) (Ry rfl rfl (wG (dF c)) (lbs_ [l.v,k.v,j.v] ST_28 (eh x) b R0) (Ry rfl rfl (wG (dF c)) (m_ g.v (eh B)) (Ry rfl rfl (wG (dF c)) (m_ g.v (eh B)) (Ry rfl rfl (wG (dF c)) (m_ (iV h) (eh o)) (Ry rfl rfl (wG (dF c)) (yIa SL_22 e0 e0 b rO1 d4) (Ry rfl rfl (wG (dF c)) (yI O_3 e0 b rO1 d4) (Ry rfl rfl (wG (dF c)) (ysub rfl e0) (Ry rfl rfl (wG (dF c)) (yFb FL_28_1 (eh x)) (Ry rfl rfl (wG (dF c)) (lb_ k.v O_22 e0 b R0) (Ry rfl rfl (wG (dF c)) (m_ (iV h) (eh o)) ?_)))))))))))))
    refine Ry rfl rfl (wG (dF c)) (yIa SL_22 e0 e0 b (rdI (F_2 D)) O) (Ry rfl rfl (wG (dF c)) (yI O_3 e0 b (rdI (F_2 D)) O) (Ry rfl rfl (wG (dF c)) (m_ (iV z) (eh F)) (Ry rfl rfl (wG (dF c)) (ymul rfl e0) (Rn QSn ?_))))
    refine Lc1 rfl ?_
    have d5:=b
    replace b:=(b.pk 2 [1,0] rfl).fz
    have H:=b.guest0
    replace b:=d5
    clear d5
    refine Lk (wG (dF c)) (yCall FN_76 (a3 e0 e0 e0)) (sparseref18_weightOf_ok m8 (F_3 I) (F_3 D) (F_3 A) F0 H) ?_
    clear H
    rintro _ w ⟨rfl,H⟩
    replace b:=b.back H
    clear H
    refine ⟨_,rfl,?_⟩
    exact Dz [16,17,20,21] [11,12,13,14,15,18,19] (Ry rfl rfl (wG (dF c)) (yadd e0 e0) (Ry rfl rfl (wG (dF c)) (ymul rfl e0) (Ry rfl rfl (wG (dF c)) (ygtr e0 e0) (yR rfl (pf_ (.bool a0) e0 (dF c) (eqv m9 e0)) (Rn (Sy rfl rfl (wG (dF c)) (yFb FL_28_1 (eh x)) rfl (Sy rfl rfl (wG (dF c)) (lb_ k.v O_22 e0 b R0) rfl (Sy rfl rfl (wG (dF c)) (m_ (iV h) (eh o)) rfl (Sy rfl rfl (wG (dF c)) (yIa SL_22 e0 e0 b (rdI (F_2 D)) O) rfl (Sy rfl rfl (wG (dF c)) (yI O_3 e0 b (rdI (F_2 D)) O) rfl (Sy rfl rfl (wG (dF c)) (m_ (iV z) (eh F)) rfl (Sy rfl rfl (wG (dF c)) (ymul rfl e0) rfl QSn))))))) (d3 _ _ ⟨x,B,F,K,L,o,rfl,(b.facts (allT (allT allI)))⟩))))))
   rintro f w ⟨d6,R,d7,d8,n0,S,n1,b⟩
   refine m6 _ _ (cB (eh n1) i (fun n2 i=>?_) fun n2 i=>?_)
   ·exact wp_exit (m5 _ _ _ rfl (c2 _ _ _ (c1 _ _ _ _ d6 R d7 d8 n0 S b i)))
   refine wp_skip (m4 _ _ (sR fun _ n3=>Ym g.v (eh R) (Ym (iV h) (eh S) (Ym g.v (eh R) (Ym (iV h) (eh S) (bE i fun n4 d9 i=>yY (yIa SL_22 e0 e0 b rO1 d9) (yY (yI O_3 e0 b rO1 d9) (yY (ysub rfl e0) (bE i fun q6 e1 i=>yY (yIs SL_22 e0 e0 b rO1 e1) ?_)))))))))
   exact yT (r_sti (cs:=[iV (ws .i64 1 n4)]) (b.pk 2 [1,0] rfl) O_3 rfl e0 e0 rfl mkI e1) fun w b=>wK n3 (wR (Ya (.bool true) rfl (wN (c2 _ _ _ (c1 _ _ _ _ d6 R d7 d8 rfl S (b.pk 2 [1,0] rfl) i)))))
  refine wp_exit (i0 _ _ _ rfl ?_)
  cases i
  refine h7 _ _ _ _ rfl rfl ?_
  obtain rfl:=h3 _ rfl
  refine g9 _ _ _ (g7 _ _ (sR fun _ n5=>Ym (.bool C) (eh b8) (yY (ynot e0) (wK n5 ?_))))
  rcases iteS r with ⟨a2,r⟩ | ⟨a2,r⟩
  ·refine condF e0 (nF a2) (wp_skip (b4 _ _ _ (g4 _ _ (wR (Ym (iV q) (eh b7) (yY (yadd e0 rfl) (Ya (iV (wa .i64 q 1)) e0 (wN ?_))))))))
   cases r
   exact f9 _ _ _ rfl ⟨_,_,_,rfl,rfl,b5,J,b6,rfl,b⟩
  refine condT e0 (nT (bfalse a2)) (wp_exit (b4 _ _ _ (g5 _ _ _ rfl ?_)))
  cases r
  exact b3 _ _ _ _ rfl rfl (a9 _ _ _ J (b.pk 2 [1] rfl) (b2 _ rfl))
 refine wp_exit (g1 _ _ _ rfl ?_)
 cases r
 exact b3 _ _ _ _ rfl rfl (a9 _ _ _ b0 (b.pk 2 [1] rfl) (b2 _ rfl))
theorem sparseref18_Coarsen_ok {j3:L2} {r:LI} {j4:L2} {j5:LI} {G B H I:Hdr} {out:L2×LI×L2×LI×Int} (d:sparseref18_Coarsen j3 r j4 j5=some out) (d1:imm S1 G.v j3∈ros) (b1:imm I1 B.v r∈ros) (b6:imm S1 H.v j4∈ros) (K:imm I1 I.v j5∈ros) (b:St w0 ros rs w):
  Calls Tryz.prog 15 #[.agg #[G.v,B.v,H.v],I.v] w (fun e w=>∃ (j8:Hdr) (j9:List Hdr) (k0 l0:Hdr) (l1:List Hdr) (l2:Hdr),e=.returned (.tuple #[.agg #[j8.v,k0.v,l0.v],l2.v,iV out.2.2.2.2])∧St w0 ros (row 22 rH j8.v j9::fam 3 I1 j9 out.1::row 3 I1 k0.v out.2.1::row 22 rH l0.v l1::fam 3 I1 l1 out.2.2.1::row 3 I1 l2.v out.2.2.2.1::rs) w):=by
 refine enterQ Tryz.func15 rfl Tryz.ntmps15 rfl fun Q b7=>sR fun _ t2=>yBb (r_box (vals:=[G.v,B.v,H.v]) b e0 rfl) fun A w b=>yBb (rAl b ZT_28) fun j w b=>Ya hnil.v rfl (Ya (iV 0) rfl (wK t2 (seqQ fun N7 t3 t4=>sR fun _ t5=>?_)))
 refine yY (lbs_ [G.v,B.v,H.v] ST_28 e0 b R1) (bE d fun d2 t6 d=>yC (yCall FN_24 (a1 e0)) (sparseref18_CheckWeighted_ok t6 d1 b1 b6 b) ?_)
 rintro _ w ⟨rfl,b⟩
 refine ⟨_,rfl,?_⟩
 refine Ya (iV d2) e0 (wK t5 (sR fun _ t7=>Ym (iV d2) e0 (yY (yneq e0 rfl) (wK t7 ?_))))
 rcases iteS d with ⟨f1,d⟩ | ⟨f1,d⟩
 ·refine condF e0 (nF (dT f1)) (wp_skip (t3 _ _ (sR fun _ t8=>yY (yFb FL_28_1 e0) (yY (lb_ B.v O_22 e0 b R1) (yY (yLen SL_22 e0 b (rdI b1)) (Ya (iV (r.length:Int)) e0 (wK t8 (seqQ fun N8 t9 u0=>sR fun _ u1=>?_))))))))
  refine Ym I.v e0 (yY (yLen SL_22 e0 b (rdI K)) (Ym (iV (r.length:Int)) e0 (yY (yneq e0 e0) (wK u1 ?_))))
  rcases iteS d with ⟨f2,d⟩ | ⟨f2,d⟩
  ·refine condF e0 (nF (dT f2)) (wp_skip (t9 _ _ (seqQ fun N9 u2 u3=>sR fun _ u4=>Ya (iV 0) rfl (wK u4 (blockQ fun _ l3=>bE d fun O0 u5 d=>?_)))))
   refine loopQ (fun s a w=>∃ (L:Int) (f:FV),L=s∧a=fr 266 f∧f 1=I.v∧f 2=(pB A)∧f 4=(pB j)∧f 8=iV (r.length:Int)∧f 9=iV L∧St w0 ros (box A 28 [G.v,B.v,H.v]::box j 28 [hnil.v,hnil.v,hnil.v]::rs) w) u5 ⟨_,_,rfl,rfl,rfl,rfl,rfl,rfl,rfl,(b.pk 2 [1,0] rfl)⟩ ?_
   rintro _ _ w O1 ⟨L,f,rfl,rfl,b8,f3,f4,b2,c0,b⟩ C l4 O2 u6 l5
   refine seqQ fun O3 u7 u8=>sR fun _ u9=>Ym (iV L) (eh c0) (Ym (iV (r.length:Int)) (eh b2) (yY (ylss e0 e0) (wK u9 ?_)))
   refine cIf e0 C (fun v0 C=>?_) fun v0 C=>?_
   ·refine wp_skip (u7 _ _ (seqQ fun O4 v1 v2=>blockQ fun _ l6=>sR fun _ v3=>Ym I.v (eh b8) (Ym (iV L) (eh c0) (bE C fun v4 l7 C=>yY (yIa SL_22 e0 e0 b (rdI K) l7) (yY (yI O_3 e0 b (rdI K) l7) (yY (ylss e0 rfl) (Ym (.bool (decide (v4 < 0))) e0 (bE C fun l8 a5 C=>?_))))))))
    refine joinW 7 (fun f w=>f 1=I.v∧f 2=(pB A)∧f 4=(pB j)∧f 8=iV (r.length:Int)∧f 9=iV L∧f 55=.bool l8∧St w0 ros (box A 28 [G.v,B.v,H.v]::box j 28 [hnil.v,hnil.v,hnil.v]::rs) w) (fun l9=>?_) ?_
    ·rcases iteS a5 with ⟨D,a5⟩ | ⟨D,a5⟩
     ·refine gN (dT D) (gN (dT D) (gN (dT D) (gN (dT D) (gN (dT D) (gN (dT D) (yY (pt_ (.bool true) e0 (dT D) rfl) ?_))))))
      cases a5
      exact l9 _ _ ⟨b8,f3,f4,b2,c0,rfl,b⟩
     refine yG (dF D) (m_ I.v (eh b8)) (yG (dF D) (m_ (iV L) (eh c0)) (bE a5 fun v5 m0 a5=>yG (dF D) (yIa SL_22 e0 e0 b (rdI K) m0) (yG (dF D) (yI O_3 e0 b (rdI K) m0) (yG (dF D) (m_ (iV (r.length:Int)) (eh b2)) (yG (dF D) (ygeq e0 e0) (yY (pf_ (.bool (decide ((r.length:Int)≤v5))) e0 (dF D) e0) ?_))))))
     cases a5
     exact l9 _ _ ⟨b8,f3,f4,b2,c0,rfl,b⟩
    rintro f w ⟨d3,m1,m2,m3,d4,v6,b⟩
    refine Ym (.bool l8) (eh v6) (bE C fun v7 W C=>?_)
    refine joinW 10 (fun f w=>f 1=I.v∧f 2=(pB A)∧f 4=(pB j)∧f 8=iV (r.length:Int)∧f 9=iV L∧f 66=.bool v7∧St w0 ros (box A 28 [G.v,B.v,H.v]::box j 28 [hnil.v,hnil.v,hnil.v]::rs) w) (fun m4=>?_) ?_
    ·rcases iteS W with ⟨o,W⟩ | ⟨o,W⟩
     ·refine gN o (gN o (gN o (gN o (gN o (gN o (gN o (gN o (gN o (yY (pt_ (.bool true) e0 o rfl) ?_)))))))))
      cases W
      exact m4 _ _ ⟨d3,m1,m2,m3,d4,rfl,b⟩
     refine yG (bfalse o) (m_ I.v (eh d3)) (yG (bfalse o) (m_ I.v (eh d3)) (yG (bfalse o) (m_ (iV L) (eh d4)) (bE W fun O5 m5 W=>yG (bfalse o) (yIa SL_22 e0 e0 b (rdI K) m5) (yG (bfalse o) (yI O_3 e0 b (rdI K) m5) (bE W fun v8 m6 W=>yG (bfalse o) (yIa SL_22 e0 e0 b (rdI K) m6) (yG (bfalse o) (yI O_3 e0 b (rdI K) m6) (yG (bfalse o) (m_ (iV L) (eh d4)) (yG (bfalse o) (yneq e0 e0) (yY (pf_ (.bool (!(decide (v8=L)))) e0 (bfalse o) e0) ?_)))))))))
     cases W
     exact m4 _ _ ⟨d3,m1,m2,m3,d4,rfl,b⟩
    rintro f w ⟨v9,w1,f5,w2,w3,w4,b⟩
    refine wK v3 (cB (eh w4) C (fun w5 C=>?_) fun w5 C=>?_)
    ·refine sR fun _ w6=>yY (ybuild (us:=[hnil.v,hnil.v,hnil.v]) [] SO_28 bp0 rfl) (yT (r_stbn (vals':=[hnil.v,hnil.v,hnil.v]) (us:=[hnil.v,hnil.v,hnil.v]) (b.pk 2 [1,0] rfl) ST_28 (eh f5) e0 rfl rfl (one_of rfl) rfl) fun w b=>Ya hnil.v rfl (Ya (iV 130) rfl (wK w6 (wp_ret (l6 _ _ _ (v2 _ _ _ rfl ?_))))))
     cases C
     refine l5 _ _ _ _ rfl rfl ?_
     obtain rfl:=l4 _ rfl
     refine l3 _ _ _ (u3 _ _ _ rfl ?_)
     cases d
     replace b:=(((((((b.rowNh 22 rH).fNew 3 I1).pk 2 [1,0] rfl).rowNh 3 I1).rowNh 22 rH).fNew 3 I1).pk 2 [1,0] rfl).rowNh 3 I1
     exact b7 _ _ _ (fin3r Tryz.results15 (rcs2 rfl f5 b R6 ST_28 rfl) ⟨rfl,rfl⟩ ⟨rfl,rfl⟩ ⟨_,_,_,_,_,_,rfl,(b.pk 8 [4,4,3,1,1,0] rfl)⟩)
    refine wp_skip (l6 _ _ _ (v1 _ _ (wR (Ym (iV L) (eh w3) (yY (yadd e0 rfl) (Ya (iV (wa .i64 L 1)) e0 (wN ?_)))))))
    cases C
    exact u6 _ _ _ rfl ⟨_,_,rfl,rfl,v9,w1,f5,w2,rfl,b⟩
   refine wp_exit (u8 _ _ _ rfl ?_)
   cases C
   refine l5 _ _ _ _ rfl rfl ?_
   obtain rfl:=l4 _ rfl
   refine l3 _ _ _ (u2 _ _ (sR fun _ w7=>Ym (iV (r.length:Int)) (eh b2) (bE d fun O6 w8 d=>yH (rMk b SL_22 e0 w8) fun g w b=>Ya g.v e0 (wK w7 (sR fun _ w9=>yY (ybuild (us:=[hnil.v,hnil.v,hnil.v]) [] SO_28 bp0 rfl) ?_)))))
   refine yBb (rAl b ZT_28) fun t w b=>yT (r_stbn (vals':=[hnil.v,hnil.v,hnil.v]) (us:=[hnil.v,hnil.v,hnil.v]) b ST_28 e0 e0 rfl rfl (one_of rfl) rfl) fun w b=>wK w9 (sQ fun _ x0=>sR fun _ x2=>Ya (iV 0) rfl (wK x2 (blockQ fun _ x4=>bE d fun O7 x6 d=>?_)))
   replace b:=b.rowNh 3 I1
   refine loopQ (fun s a w=>∃ (S m:LI) (z:Int) (f:FV) (h:Hdr),(S,m,z)=s∧a=fr 266 f∧f 1=I.v∧f 2=(pB A)∧f 4=(pB j)∧f 8=iV (r.length:Int)∧f 10=g.v∧f 11=(pB t)∧f 12=iV z∧St w0 ros (box A 28 [G.v,B.v,H.v]::box j 28 [hnil.v,hnil.v,hnil.v]::row 3 I1 g.v S::row 3 I1 h.v m::box t 28 [hnil.v,h.v,hnil.v]::rs) w) x6 ⟨_,_,_,_,_,rfl,rfl,b8,f3,f4,b2,rfl,rfl,rfl,(b.pk 5 [3,3,2,0,0] rfl)⟩ ?_
   rintro _ _ w x8 ⟨S,m,z,f,h,rfl,rfl,d5,c1,f6,d6,a4,T,O,b⟩ c x9 O8 y0 y1
   refine seqQ fun O9 y2 y3=>sR fun _ y4=>Ym (iV z) (eh O) (Ym (iV (r.length:Int)) (eh d6) (yY (ylss e0 e0) (wK y4 ?_)))
   refine cIf e0 c (fun y5 c=>?_) fun y5 c=>?_
   ·refine wp_skip (y2 _ _ (sQ fun y6 y7=>?_))
    have m7:∀ (f7 f8:LI) (f9:Hdr) (f:FV) w,f 1=I.v→f 2=(pB A)→f 4=(pB j)→f 8=iV (r.length:Int)→f 10=g.v→f 11=(pB t)→f 12=iV z→St w0 ros (box A 28 [G.v,B.v,H.v]::box j 28 [hnil.v,hnil.v,hnil.v]::row 3 I1 g.v f7::row 3 I1 f9.v f8::box t 28 [hnil.v,f9.v,hnil.v]::rs) w→sparseref18_Coarsen_j54 z f7 f8=some x8→y6 .normal (fr 266 f) w:=by
     intro f7 f8 f9 f w y8 y9 z0 z1 z3 z4 z5 b d
     refine y7 _ _ (wR (Ym (iV z) (eh z5) (yY (yadd e0 rfl) (Ya (iV (wa .i64 z 1)) e0 (wN ?_)))))
     cases d
     exact y0 _ _ _ rfl ⟨_,_,_,_,_,rfl,rfl,y8,y9,z0,z1,z3,z4,rfl,b⟩
    refine blockQ fun _ m8=>seqQ fun P0 z7 z9=>sR fun _ A0=>Ym I.v (eh d5) (Ym (iV z) (eh O) (bE c fun P1 m9 c=>yY (yIa SL_22 e0 e0 b (rdI K) m9) (yY (yI O_3 e0 b (rdI K) m9) (Ym (iV z) (eh O) (yY (ylss e0 e0) (wK A0 ?_))))))
    refine cIf e0 c (fun A1 c=>?_) fun A1 c=>?_
    ·refine sR fun _ A2=>Ym g.v (eh a4) (Ym (iV z) (eh O) (Ym g.v (eh a4) (Ym I.v (eh d5) (Ym (iV z) (eh O) (bE c fun P2 n0 c=>yY (yIa SL_22 e0 e0 b (rdI K) n0) (yY (yI O_3 e0 b (rdI K) n0) (bE c fun A3 n1 c=>yY (yIa SL_22 e0 e0 b rO2 n1) (yY (yI O_3 e0 b rO2 n1) (bE c fun P3 n2 c=>?_)))))))))
     refine yY (yIs SL_22 e0 e0 b rO2 n2) (yT (r_sti (cs:=[iV A3]) (b.pk 3 [2,0,0] rfl) O_3 rfl e0 e0 rfl mkI n2) fun w b=>wK A2 (sQ fun _ A4=>bE c fun P4 n3 c=>bE c fun P5 n4 c=>bE c fun A5 n6 c=>bE c fun A6 n7 c=>bE c fun P6 n8 c=>dR [0,1,0,0,12,28,0,64,0,0,768,1792,4032,8128,0,16384,0,114688,245760,524224,1048575,2097151] [21] 1 folM ?_))
     replace b:=b.drew
     refine Dn [0,1,2,3,4,5,6,7,8,9,10,11,12,13,14,15,16,17,18,19,20] [] [21] (yR rfl (yFb FL_28_1 (eh T)) (yR rfl (lb_ h.v O_22 e0 b R4) (yR rfl (m_ g.v (eh a4)) (yR rfl (m_ (iV z) (eh O)) (yR rfl (yIa SL_22 e0 e0 b rO0 n3) (yR rfl (yI O_3 e0 b rO0 n3) (yR rfl (yFb FL_28_1 (eh T)) (yR rfl (lb_ h.v O_22 e0 b R4) (yR rfl (m_ g.v (eh a4)) (yR rfl (m_ (iV z) (eh O)) (yR rfl (yIa SL_22 e0 e0 b rO0 n4) (yR rfl (yI O_3 e0 b rO0 n4) (yR rfl (yIa SL_22 e0 e0 b rO3 n6) ?_)))))))))))))
     refine yR rfl (yI O_3 e0 b rO3 n6) (yR rfl (yFb FL_28_1 (eh c1)) (yR rfl (lb_ B.v O_22 e0 b R1) (yR rfl (m_ (iV z) (eh O)) (yR rfl (yIa SL_22 e0 e0 b (rdI b1) n7) (yR rfl (yI O_3 e0 b (rdI b1) n7) (yR rfl (yadd e0 e0) (yR rfl (yIs SL_22 e0 e0 b rO3 n8) (Rn QSn ?_))))))))
     refine Lc1 rfl ?_
     replace b:=b.pk 4 [3,0,0,0] rfl
     exact LT wn (r_sti (cs:=[iV (wa .i64 A5 A6)]) b O_3 rfl e0 e0 rfl mkI n8) fun w b=>Dz [] [] (Rn QSn (A4 _ _ (wp_exit (z9 _ _ _ rfl (m8 _ _ _ (m7 _ _ _ _ _ d5 c1 f6 d6 a4 T O (b.pk 5 [2,2,1,0,0] rfl) c))))))
    refine wp_skip (z7 _ _ (sR fun _ A7=>Ym g.v (eh a4) (Ym (iV z) (eh O) (yY (yFb FL_28_1 (eh T)) (yY (lb_ h.v O_22 e0 b R4) (yY (yLen SL_22 e0 b rO3) (bE c fun P7 n9 c=>yY (yIs SL_22 e0 e0 b rO2 n9) (yT (r_sti (cs:=[iV (m.length:Int)]) (b.pk 3 [2,0,0] rfl) O_3 rfl e0 e0 rfl mkI n9) fun w b=>wN ?_))))))))
    refine A7 _ _ (bE c fun g0 o0 c=>bE c fun P8 A8 c=>dR [0,1,0,4,0,28,60,124,255,511,1023] [7,8,10] 3 folM ?_)
    replace b:=b.drew
    refine Dn [0,1,2,3,4,5,6] [] [7] (yR rfl (yFb FL_28_1 (eh T)) (yR rfl (lb_ h.v O_22 e0 b R4) (yR rfl (yFb FL_28_1 (eh c1)) (yR rfl (lb_ B.v O_22 e0 b R1) (yR rfl (m_ (iV z) (eh O)) (yR rfl (yIa SL_22 e0 e0 b (rdI b1) o0) (yR rfl (yI O_3 e0 b (rdI b1) o0) (Rn QSn ?_))))))))
    refine Lc1 rfl ?_
    refine LH wn (rLt (n:=1) (l:=[g0]) b SL_22 [iV g0] (bp1 e0) rfl rfl (mks1 (cs:=[iV g0]) rfl mkI mks0)) fun P9 w b=>Dn [] [0,1] [8] (Rn (yS rfl (yFb FL_28_1 (eh T)) (yS rfl (lb_ h.v O_22 e0 b R5) QSn)) ?_)
    refine Lc1 rfl ?_
    replace b:=b.pk 5 [4,0,0,0,0] rfl
    refine LH wn (rAp b SL_22 e0 e0 rO1 A8) fun A9 w b=>Dn [9] [] [10] (yR rfl (yFb FL_28_1 (eh T)) (Rn QSn ?_))
    refine Lc1 rfl ?_
    replace b:=b.pk 6 [5,0,0,0,0,0] rfl
    exact LT wn (r_stb1 (vals':=[hnil.v,A9.v,hnil.v]) b O_22 e0 e0 rfl rfl rfl rfl) fun w b=>Dz [] [] (Rn QSn (m8 _ _ _ (m7 _ _ _ _ _ d5 c1 f6 d6 a4 T O (b.pk 6 [4,4,3,1,0] rfl) c)))
   refine wp_exit (y3 _ _ _ rfl ?_)
   cases c
   refine y1 _ _ _ _ rfl rfl ?_
   obtain rfl:=x9 _ rfl
   refine x4 _ _ _ (x0 _ _ (sR fun _ B0=>yY (yFb FL_28_1 (eh T)) (yY (lb_ h.v O_22 e0 b R4) (yY (yLen SL_22 e0 b rO3) (Ya (iV (m.length:Int)) e0 (wK B0 (sR fun _ B1=>Ym (iV (m.length:Int)) e0 (bE d fun Q0 B2 d=>?_))))))))
   obtain ⟨B3,em224,B4⟩:=mkL_rep B2 hnil
   refine yH (rMk b SLH_24 e0 B4) fun p w b=>?_
   replace b:=(b.fReps 3 I1 B3).pk 2 [1,0] rfl
   rw [← em224] at b
   refine Ya p.v e0 (wK B1 (sQ fun _ B5=>sR fun _ B6=>Ya (iV 0) rfl (wK B6 (blockQ fun _ B7=>bE d fun Q1 B8 d=>?_))))
   refine loopQ (fun s a w=>∃ (g1:L2) (a6:Int) (f:FV) (E:List Hdr),(g1,a6)=s∧a=fr 266 f∧f 2=(pB A)∧f 4=(pB j)∧f 8=iV (r.length:Int)∧f 10=g.v∧f 11=(pB t)∧f 13=iV (m.length:Int)∧f 14=p.v∧f 15=iV a6∧St w0 ros (box A 28 [G.v,B.v,H.v]::box j 28 [hnil.v,hnil.v,hnil.v]::row 3 I1 g.v S::row 3 I1 h.v m::box t 28 [hnil.v,h.v,hnil.v]::row 22 rH p.v E::fam 3 I1 E g1::rs) w) B8 ⟨_,_,_,_,rfl,rfl,c1,f6,d6,a4,T,rfl,rfl,rfl,(b.pk 7 [2,2,2,2,2,0,0] rfl)⟩ ?_
   rintro _ _ w Q3 ⟨g1,a6,f,E,rfl,rfl,o1,o2,o3,o4,o6,d7,g2,g3,b⟩ X B9 Q4 C0 C1
   refine seqQ fun Q5 C2 C3=>sR fun _ C4=>Ym (iV a6) (eh g3) (Ym (iV (m.length:Int)) (eh d7) (yY (ylss e0 e0) (wK C4 ?_)))
   refine cIf e0 X (fun C5 X=>?_) fun C5 X=>?_
   ·refine wp_skip (C2 _ _ (sQ fun _ C6=>blockQ fun _ C7=>wR (Ym p.v (eh g2) (Ym (iV a6) (eh g3) (Ym (iV (m.length:Int)) (eh d7) (bE X fun Q7 C8 X=>yH (rMk b SL_22 e0 C8) fun o7 w b=>bE X fun Q9 o8 X=>?_))))))
    obtain ⟨R2,g4⟩:=setI_len (u:=o7) o8 (b.famL (mtR (mtR (mtR (mtR (mtR (mtR (mtR mhR))))))))
    refine yY (yIs SLH_24 e0 e0 b rO6 g4) (yT (r_sti (cs:=[o7.v]) (b.pk 7 [6,0,0,0,0,0,0] rfl) O_22 rfl e0 e0 rfl (mkF rfl) g4) fun w b=>?_)
    replace b:=(b.pk 8 [1,6,0,0,0,0,0,0] rfl).fput g4 o8
    refine wN (C7 _ _ _ (C6 _ _ (wR (Ym (iV a6) (eh g3) (yY (yadd e0 rfl) (Ya (iV (wa .i64 a6 1)) e0 (wN ?_)))))))
    cases X
    exact C0 _ _ _ rfl ⟨_,_,_,_,rfl,rfl,o1,o2,o3,o4,o6,d7,g2,rfl,(b.pk 7 [2,2,2,2,2,1,0] rfl)⟩
   refine wp_exit (C3 _ _ _ rfl ?_)
   cases X
   refine C1 _ _ _ _ rfl rfl ?_
   obtain rfl:=B9 _ rfl
   refine B7 _ _ _ (B5 _ _ (sQ fun _ C9=>sR fun _ D0=>Ya (iV 0) rfl (wK D0 (blockQ fun _ D1=>bE d fun R3 D2 d=>?_))))
   refine loopQ (fun s a w=>∃ (a7:L2) (R:Int) (f:FV),(a7,R)=s∧a=fr 266 f∧f 2=(pB A)∧f 4=(pB j)∧f 8=iV (r.length:Int)∧f 10=g.v∧f 11=(pB t)∧f 13=iV (m.length:Int)∧f 14=p.v∧f 16=iV R∧St w0 ros (box A 28 [G.v,B.v,H.v]::box j 28 [hnil.v,hnil.v,hnil.v]::row 3 I1 g.v S::row 3 I1 h.v m::box t 28 [hnil.v,h.v,hnil.v]::row 22 rH p.v E::fam 3 I1 E a7::rs) w) D2 ⟨_,_,_,rfl,rfl,o1,o2,o3,o4,o6,d7,g2,rfl,b⟩ ?_
   rintro _ _ w R8 ⟨a7,R,f,rfl,rfl,D3,o9,p0,p1,p2,p3,p4,p5,b⟩ a8 D4 S0 D5 D6
   refine seqQ fun S3 D7 D8=>sR fun _ D9=>Ym (iV R) (eh p5) (Ym (iV (r.length:Int)) (eh p0) (yY (ylss e0 e0) (wK D9 ?_)))
   refine cIf e0 a8 (fun E0 a8=>?_) fun E0 a8=>?_
   ·refine wp_skip (D7 _ _ (sQ fun _ E1=>blockQ fun _ E2=>sR fun _ E3=>Ya (iV 0) rfl (wK E3 (blockQ fun _ E4=>bE a8 fun S4 E5 a8=>?_))))
    refine loopQ (fun s a w=>∃ (g5:L2) (Z:Int) (f:FV),(g5,Z)=s∧a=fr 266 f∧f 2=(pB A)∧f 4=(pB j)∧f 8=iV (r.length:Int)∧f 10=g.v∧f 11=(pB t)∧f 13=iV (m.length:Int)∧f 14=p.v∧f 16=iV R∧f 17=iV Z∧St w0 ros (box A 28 [G.v,B.v,H.v]::box j 28 [hnil.v,hnil.v,hnil.v]::row 3 I1 g.v S::row 3 I1 h.v m::box t 28 [hnil.v,h.v,hnil.v]::row 22 rH p.v E::fam 3 I1 E g5::rs) w) E5 ⟨_,_,_,rfl,rfl,D3,o9,p0,p1,p2,p3,p4,p5,rfl,b⟩ ?_
    rintro _ _ w S5 ⟨g5,Z,f,rfl,rfl,b3,p6,p7,c2,p8,p9,d8,a9,c3,b⟩ i E6 S6 E7 E8
    refine seqQ fun S7 E9 F2=>sR fun _ F3=>Ym (iV Z) (eh c3) (yY (yFb FL_28_2 (eh b3)) (yY (lb_ H.v O_24 e0 b R0) (Ym (iV R) (eh a9) (bE i fun S8 q0 i=>yY (yIa SL_24 e0 e0 b (rdI b6) q0) ?_))))
    obtain ⟨S9,b⟩:=iLs b b6 q0
    refine yY (yCt O_22 e0 b F1 rfl) (yY (yLen SL_22 e0 b (rdI F0)) (yY (ylss e0 e0) (wK F3 ?_)))
    refine cIf e0 i (fun F4 i=>?_) fun F4 i=>?_
    ·refine wp_skip (E9 _ _ (sQ fun _ F5=>blockQ fun _ F6=>sQ fun _ F7=>bE i fun g6 q5 i=>bE i fun T0 g7 i=>bE i fun T1 d9 i=>bE i fun g8 e1 i=>dR [0,0,3,7,0,0,32,96,0,480,992,0,4064,8160,16368,32752,15,131071] [16,17] 2 folM ?_))
     replace b:=b.drew
     refine Dn [0,1,2,3,4,5,6,7,8,9,10,11,12,13,14,15] [] [16] (yR rfl (m_ g.v (eh c2)) (yR rfl (m_ (iV R) (eh a9)) (yR rfl (yIa SL_22 e0 e0 b rO2 q5) (yR rfl (yI O_3 e0 b rO2 q5) (yR rfl (m_ g.v (eh c2)) (yR rfl (yFb FL_28_0 (eh b3)) (yR rfl (yFb FL_26_0 e0) (yR rfl (lb_ G.v O_24 e0 b R0) (yR rfl (m_ (iV R) (eh a9)) (yR rfl (yIa SL_24 e0 e0 b (rdI (F_2 d1)) g7) ?_))))))))))
     obtain ⟨T2,b⟩:=iLs b (F_2 d1) g7
     refine yR rfl (yCt O_22 e0 b F1 rfl) (yR rfl (m_ (iV Z) (eh c3)) (yR rfl (yIa SL_22 e0 e0 b (rdI F0) d9) (yR rfl (yI O_3 e0 b (rdI F0) d9) (yR rfl (yIa SL_22 e0 e0 b rO2 e1) (yR rfl (yI O_3 e0 b rO2 e1) (Rn QSn ?_))))))
     refine Lc1 rfl ?_
     refine Ly wn (a_ (iV g6) e0) (Dn [] [4,5,6,7,8,9,10,11,12,13,14,15] [17] (Rn (yS rfl (m_ g.v (eh c2)) (yS rfl (yFb FL_28_0 (eh b3)) (yS rfl (yFb FL_26_0 e0) (yS rfl (lb_ G.v O_24 e0 b R0) (yS rfl (m_ (iV R) (eh a9)) (yS rfl (yIa SL_24 e0 e0 b (rdI (F_4 d1)) g7) (yS rfl (yCt O_22 e0 b F1 rfl) (yS rfl (m_ (iV Z) (eh c3)) (yS rfl (yIa SL_22 e0 e0 b (rdI F0) d9) (yS rfl (yI O_3 e0 b (rdI F0) d9) (yS rfl (yIa SL_22 e0 e0 b rO2 e1) (yS rfl (yI O_3 e0 b rO2 e1) QSn)))))))))))) ?_))
     refine Lc1 rfl ?_
     refine Ly wn (a_ (iV g8) e0) (Dz [] [] (Rn QSn (F7 _ _ (bE i fun T3 g9 i=>bE i fun T4 h0 i=>bE i fun F8 q6 i=>bE i fun T5 q7 i=>bE i fun F9 q8 i=>bE i fun T6 q9 i=>bE i fun T7 G0 i=>dR [0,0,3,7,0,0,0,96,224,0,992,2016,0,4096,0,28672,61440,0,258048,520192,1048544,2097151,4194303] [22] 1 folM ?_))))
     replace b:=b.drew
     refine Dn [0,1,2,3,4,5,6,7,8,9,10,11,12,13,14,15,16,17,18,19,20,21] [] [22] (yR rfl (m_ p.v (eh d8)) (yR rfl (m_ (iV g6) e0) ?_))
     obtain ⟨T8,c4⟩:=b.famI R6 g9
     refine yR rfl (yIa SLH_24 e0 e0 b rO5 c4) (yR rfl (yF1 O_22 e0 b rO5 c4 rfl) (yR rfl (m_ (iV g8) e0) (yR rfl (m_ p.v (eh d8)) (yR rfl (m_ (iV g6) e0) ?_))))
     obtain ⟨T9,e2⟩:=b.famI R6 h0
     refine yR rfl (yIa SLH_24 e0 e0 b rO5 e2) (yR rfl (yF1 O_22 e0 b rO5 e2 rfl) (yR rfl (m_ (iV g8) e0) (yR rfl (yIa SL_22 e0 e0 b (rdF R6 e2 h0) q6) (yR rfl (yI O_3 e0 b (rdF R6 e2 h0) q6) (yR rfl (yFb FL_28_2 (eh b3)) (yR rfl (lb_ H.v O_24 e0 b R0) (yR rfl (m_ (iV R) (eh a9)) (yR rfl (yIa SL_24 e0 e0 b (rdI (F_4 b6)) q7) ?_))))))))
     obtain ⟨U0,b⟩:=iLs b (F_4 b6) q7
     refine yR rfl (yCt O_22 e0 b F1 rfl) (yR rfl (m_ (iV Z) (eh c3)) (yR rfl (yIa SL_22 e0 e0 b (rdI F0) q8) (yR rfl (yI O_3 e0 b (rdI F0) q8) (yR rfl (yadd e0 e0) (yR rfl (yIs SL_22 e0 e0 b (rdF R6 c4 g9) q9) (Rn QSn ?_))))))
     refine Lc1 rfl ?_
     replace b:=b.pk 7 [6,0,0,0,0,0,0] rfl
     refine LT wn (r_sti (cs:=[iV (wa .i64 F8 F9)]) (b.foc c4 g9) O_3 rfl e0 e0 rfl mkI q9) fun w b=>?_
     replace b:=b.unfoc' c4 G0
     refine Dz [] [] (Rn QSn (F6 _ _ _ (F5 _ _ (wR (Ym (iV Z) (eh c3) (yY (yadd e0 rfl) (Ya (iV (wa .i64 Z 1)) e0 (wN ?_))))))))
     cases i
     exact E7 _ _ _ rfl ⟨_,_,_,rfl,rfl,b3,p6,p7,c2,p8,p9,d8,a9,rfl,((b.pk 7 [1,1,1,1,1,1,0] rfl).facts (allT (allT (allT (allT (allT (allT allI)))))))⟩
    refine wp_exit (F2 _ _ _ rfl ?_)
    cases i
    refine E8 _ _ _ _ rfl rfl ?_
    obtain rfl:=E6 _ rfl
    refine E4 _ _ _ (E2 _ _ _ (E1 _ _ (wR (Ym (iV R) (eh a9) (yY (yadd e0 rfl) (Ya (iV (wa .i64 R 1)) e0 (wN ?_)))))))
    cases a8
    exact D5 _ _ _ rfl ⟨_,_,_,rfl,rfl,b3,p6,p7,c2,p8,p9,d8,rfl,(b.facts (allT (allT allI)))⟩
   refine wp_exit (D8 _ _ _ rfl ?_)
   cases a8
   refine D6 _ _ _ _ rfl rfl ?_
   obtain rfl:=D4 _ rfl
   refine D1 _ _ _ (C9 _ _ (seqQ fun U1 G1 G2=>sR fun _ G3=>Ya (iV 0) rfl (wK G3 (blockQ fun G4 r0=>bE d fun G5 G6 d=>?_))))
   have r1:∀ (f:FV) w,f 4=(pB j)→f 5=hnil.v→f 6=iV 3→St w0 ros (box j 28 [hnil.v,hnil.v,hnil.v]::rs) w→.inr ()=G5→G4 .ret (fr 266 f) w:=by
    intro f w G7 G8 G9 b ho
    subst ho
    refine r0 _ _ _ (G2 _ _ _ rfl ?_)
    cases d
    replace b:=(((((((b.rowNh 22 rH).fNew 3 I1).pk 2 [1,0] rfl).rowNh 3 I1).rowNh 22 rH).fNew 3 I1).pk 2 [1,0] rfl).rowNh 3 I1
    exact b7 _ _ _ (fin3r Tryz.results15 (rcs2 rfl G7 b R6 ST_28 rfl) ⟨rfl,G8⟩ ⟨rfl,G9⟩ ⟨_,_,_,_,_,_,rfl,(b.pk 7 [4,4,3,1,1,0] rfl)⟩)
   replace b:=(((((b.rowNh 22 rH).fNew 3 I1).pk 2 [1,0] rfl).rowNh 22 rH).fNew 3 I1).pk 2 [1,0] rfl
   refine loopQ (fun s a w=>∃ (b4 b5:L2) (F:Int) (f:FV) (N:Hdr) (a0:List Hdr) (J:Hdr) (a2:List Hdr),(b4,b5,F)=s∧a=fr 266 f∧f 4=(pB j)∧f 10=g.v∧f 11=(pB t)∧f 13=iV (m.length:Int)∧f 14=p.v∧f 20=iV F∧St w0 ros (box j 28 [hnil.v,hnil.v,hnil.v]::row 3 I1 g.v S::row 22 rH N.v a0::fam 3 I1 a0 b4::row 3 I1 h.v m::row 22 rH J.v a2::fam 3 I1 a2 b5::box t 28 [N.v,h.v,J.v]::row 22 rH p.v E::fam 3 I1 E a7::rs) w) G6 ⟨_,_,_,_,_,_,_,_,rfl,rfl,o9,p1,p2,p3,p4,rfl,(b.pk 11 [5,5,2,2,3,0,0,1,1,1] rfl)⟩ ?_
   rintro _ _ w U2 ⟨b4,b5,F,f,N,a0,J,a2,rfl,rfl,c5,r2,h1,r3,H0,h3,b⟩ x h5 U3 H1 h7
   refine seqQ fun U4 H2 H3=>sR fun _ H4=>Ym (iV F) (eh h3) (Ym (iV (m.length:Int)) (eh r3) (yY (ylss e0 e0) (wK H4 ?_)))
   refine cIf e0 x (fun H5 x=>?_) fun H5 x=>?_
   ·refine wp_skip (H2 _ _ (seqQ fun U5 H6 r4=>blockQ fun _ h9=>seqQ fun U6 H7 H8=>sR fun _ H9=>yY (yFb FL_28_1 (eh h1)) (yY (lb_ h.v O_22 e0 b R7) (Ym (iV F) (eh h3) (bE x fun U7 r5 x=>yY (yIa SL_22 e0 e0 b rO4 r5) (yY (yI O_3 e0 b rO4 r5) (yY (ygtr e0 rfl) ?_)))))))
    refine wK H9 ?_
    refine cIf e0 x (fun I0 x=>?_) fun I0 x=>?_
    ·refine sR fun _ I2=>yY (ybuild (us:=[hnil.v,hnil.v,hnil.v]) [] SO_28 bp0 rfl) (yT (r_stbn (vals':=[hnil.v,hnil.v,hnil.v]) (us:=[hnil.v,hnil.v,hnil.v]) b ST_28 (eh c5) e0 rfl rfl (one_of rfl) rfl) fun w b=>Ya hnil.v rfl (Ya (iV 3) rfl (wK I2 (wp_ret (H8 _ _ _ rfl (h9 _ _ _ (r4 _ _ _ rfl ?_)))))))
     cases x
     exact h7 _ _ _ _ rfl rfl (r1 _ _ c5 rfl rfl (b.pk 10 [0] rfl) (h5 _ rfl))
    refine wp_skip (H7 _ _ (sR fun _ I3=>Ya hnil.v rfl (Ya hnil.v rfl (wK I3 (seqQ fun U8 I4 I5=>sR fun _ I6=>Ya (iV 0) rfl (wK I6 ?_))))))
    refine blockQ fun I7 r6=>bE x fun I8 I9 x=>?_
    have J0:∀ (f:FV) w,f 4=(pB j)→f 5=hnil.v→f 6=iV 3→St w0 ros (box j 28 [hnil.v,hnil.v,hnil.v]::rs) w→.inr ()=I8→I7 .ret (fr 266 f) w:=by
     intro f w J1 J2 J3 b ho
     subst ho
     refine r6 _ _ _ (I5 _ _ _ rfl (h9 _ _ _ (r4 _ _ _ rfl ?_)))
     cases x
     exact h7 _ _ _ _ rfl rfl (r1 _ _ J1 J2 J3 b (h5 _ rfl))
    replace b:=(b.rowNh 3 I1).rowNh 3 I1
    refine loopQ (fun s a w=>∃ (c6 c7:LI) (y:Int) (f:FV) (U V:Hdr),(c6,c7,y)=s∧a=fr 266 f∧f 4=(pB j)∧f 10=g.v∧f 11=(pB t)∧f 13=iV (m.length:Int)∧f 14=p.v∧f 20=iV F∧f 21=U.v∧f 22=V.v∧f 23=iV y∧St w0 ros (box j 28 [hnil.v,hnil.v,hnil.v]::row 3 I1 g.v S::row 22 rH N.v a0::fam 3 I1 a0 b4::row 3 I1 h.v m::row 22 rH J.v a2::fam 3 I1 a2 b5::box t 28 [N.v,h.v,J.v]::row 22 rH p.v E::fam 3 I1 E a7::row 3 I1 U.v c6::row 3 I1 V.v c7::rs) w) I9 ⟨_,_,_,_,_,_,rfl,rfl,c5,r2,h1,r3,H0,h3,rfl,rfl,rfl,(b.pk 12 [2,2,2,2,2,2,2,2,2,2,1,0] rfl)⟩ ?_
    rintro _ _ w J4 ⟨c6,c7,y,f,U,V,rfl,rfl,i0,i1,b0,e3,e4,c8,i2,i3,c9,b⟩ k r7 U9 J5 r8
    refine seqQ fun V0 J6 J7=>sR fun _ J8=>Ym (iV y) (eh c9) (Ym (iV (m.length:Int)) (eh e3) (yY (ylss e0 e0) (wK J8 ?_)))
    refine cIf e0 k (fun J9 k=>?_) fun J9 k=>?_
    ·refine wp_skip (J6 _ _ (seqQ fun K0 K1 K2=>?_))
     have r9:∀ (i4 i5:LI) (i6 i7:Hdr) (f:FV) w,f 4=(pB j)→f 10=g.v→f 11=(pB t)→f 13=iV (m.length:Int)→f 14=p.v→f 20=iV F→f 21=i6.v→f 22=i7.v→f 23=iV y→St w0 ros (box j 28 [hnil.v,hnil.v,hnil.v]::row 3 I1 g.v S::row 22 rH N.v a0::fam 3 I1 a0 b4::row 3 I1 h.v m::row 22 rH J.v a2::fam 3 I1 a2 b5::box t 28 [N.v,h.v,J.v]::row 22 rH p.v E::fam 3 I1 E a7::row 3 I1 i6.v i4::row 3 I1 i7.v i5::rs) w→sparseref18_Coarsen_j51 y i4 i5=some J4→K0 .normal (fr 266 f) w:=by
      intro i4 i5 i6 i7 f w K3 K4 K5 K6 K7 K8 K9 L0 L1 b d
      refine K1 _ _ (wR (Ym (iV y) (eh L1) (yY (yadd e0 rfl) (Ya (iV (wa .i64 y 1)) e0 (wN ?_)))))
      cases d
      exact J5 _ _ _ rfl ⟨_,_,_,_,_,_,rfl,rfl,K3,K4,K5,K6,K7,K8,K9,L0,rfl,b⟩
     refine blockQ fun _ i8=>seqQ fun V1 L3 L4=>sR fun _ L5=>Ym (iV F) (eh c8) (Ym (iV y) (eh c9) (yY (yeql e0 e0) (Ym (.bool (decide (F=y))) e0 (bE k fun L6 a3 k=>?_))))
     refine joinW 9 (fun f w=>f 4=(pB j)∧f 10=g.v∧f 11=(pB t)∧f 13=iV (m.length:Int)∧f 14=p.v∧f 20=iV F∧f 21=U.v∧f 22=V.v∧f 23=iV y∧f 226=.bool L6∧St w0 ros (box j 28 [hnil.v,hnil.v,hnil.v]::row 3 I1 g.v S::row 22 rH N.v a0::fam 3 I1 a0 b4::row 3 I1 h.v m::row 22 rH J.v a2::fam 3 I1 a2 b5::box t 28 [N.v,h.v,J.v]::row 22 rH p.v E::fam 3 I1 E a7::row 3 I1 U.v c6::row 3 I1 V.v c7::rs) w) (fun s0=>?_) ?_
     ·rcases iteS a3 with ⟨q,a3⟩ | ⟨q,a3⟩
      ·refine gN (dT q) (gN (dT q) (gN (dT q) (gN (dT q) (gN (dT q) (gN (dT q) (gN (dT q) (gN (dT q) (yY (pt_ (.bool true) e0 (dT q) rfl) ?_))))))))
       cases a3
       exact s0 _ _ ⟨i0,i1,b0,e3,e4,c8,i2,i3,c9,rfl,b⟩
      refine yG (dF q) (m_ p.v (eh e4)) (yG (dF q) (m_ (iV F) (eh c8)) (bE a3 fun V2 i9 a3=>?_))
      obtain ⟨V3,e5⟩:=b.famI R9 i9
      refine yG (dF q) (yIa SLH_24 e0 e0 b rO8 e5) (yG (dF q) (yF1 O_22 e0 b rO8 e5 rfl) (yG (dF q) (m_ (iV y) (eh c9)) (bE a3 fun L7 s1 a3=>yG (dF q) (yIa SL_22 e0 e0 b (rdF R9 e5 i9) s1) (yG (dF q) (yI O_3 e0 b (rdF R9 e5 i9) s1) (yG (dF q) (yeql e0 rfl) (yY (pf_ (.bool (decide (L7=0))) e0 (dF q) e0) ?_))))))
      cases a3
      exact s0 _ _ ⟨i0,i1,b0,e3,e4,c8,i2,i3,c9,rfl,b⟩
     rintro f w ⟨e6,s2,s3,s4,e7,e8,s5,s6,d0,L8,b⟩
     refine wK L5 (cB (eh L8) k (fun L9 k=>?_) fun L9 k=>?_)
     ·exact wp_exit (L4 _ _ _ rfl (i8 _ _ _ (r9 _ _ _ _ _ _ e6 s2 s3 s4 e7 e8 s5 s6 d0 b k)))
     refine wp_skip (L3 _ _ (seqQ fun V4 M0 M1=>sR fun _ M2=>Ym p.v (eh e7) (Ym (iV F) (eh e8) (bE k fun V5 j0 k=>?_))))
     obtain ⟨V6,e9⟩:=b.famI R9 j0
     refine yY (yIa SLH_24 e0 e0 b rO8 e9) (yY (yF1 O_22 e0 b rO8 e9 rfl) (Ym (iV y) (eh d0) (bE k fun V7 s7 k=>yY (yIa SL_22 e0 e0 b (rdF R9 e9 j0) s7) (yY (yI O_3 e0 b (rdF R9 e9 j0) s7) (yY (ygtr e0 rfl) (wK M2 ?_))))))
     refine cIf e0 k (fun M3 k=>?_) fun M3 k=>?_
     ·refine sR fun _ M4=>yY (ybuild (us:=[hnil.v,hnil.v,hnil.v]) [] SO_28 bp0 rfl) (yT (r_stbn (vals':=[hnil.v,hnil.v,hnil.v]) (us:=[hnil.v,hnil.v,hnil.v]) b ST_28 (eh e6) e0 rfl rfl (one_of rfl) rfl) fun w b=>Ya hnil.v rfl (Ya (iV 3) rfl (wK M4 (wp_ret (M1 _ _ _ rfl (i8 _ _ _ (K2 _ _ _ rfl ?_)))))))
      cases k
      exact r8 _ _ _ _ rfl rfl (J0 _ _ e6 rfl rfl (b.pk 12 [0] rfl) (r7 _ rfl))
     refine wp_skip (M0 _ _ (sR fun _ M5=>Ym U.v (eh s5) (Ym (iV y) (eh d0) (yH (rLt (n:=1) (l:=[y]) b SL_22 [iV y] (bp1 e0) rfl rfl (mks1 (cs:=[iV y]) rfl mkI mks0)) fun V8 w b=>bE k fun V9 M6 k=>yH (rAp (b.pk 12 [11,0,0,0,0,0,0,0,0,0,0,0] rfl) SL_22 e0 e0 rO1 M6) fun M7 w b=>Ya M7.v e0 (wK M5 ?_)))))
     refine wR (Ym V.v (eh s6) (Ym p.v (eh e7) (Ym (iV F) (eh e8) (bE k fun W0 j1 k=>?_))))
     obtain ⟨W1,f0⟩:=b.famI R11 j1
     exact yY (yIa SLH_24 e0 e0 b rO10 f0) (yY (yF1 O_22 e0 b rO10 f0 rfl) (Ym (iV y) (eh d0) (bE k fun j2 s8 k=>yY (yIa SL_22 e0 e0 b (rdF R11 f0 j1) s8) (yY (yI O_3 e0 b (rdF R11 f0 j1) s8) (yH (rLt (n:=1) (l:=[j2]) b SL_22 [iV j2] (bp1 e0) rfl rfl (mks1 (cs:=[iV j2]) rfl mkI mks0)) fun W2 w b=>bE k fun W3 M8 k=>yH (rAp (b.pk 14 [13,0,0,0,0,0,0,0,0,0,0,0,0,0] rfl) SL_22 e0 e0 rO1 M8) fun M9 w b=>Ya M9.v e0 (wN (i8 _ _ _ (r9 _ _ _ _ _ _ e6 s2 s3 s4 e7 e8 rfl rfl d0 (b.pk 14 [4,4,4,4,4,4,4,4,4,4,2,0] rfl) k))))))))
    refine wp_exit (J7 _ _ _ rfl ?_)
    cases k
    refine r8 _ _ _ _ rfl rfl ?_
    obtain rfl:=r7 _ rfl
    refine r6 _ _ _ (I4 _ _ (sR fun _ N0=>yY (yFb FL_28_0 (eh b0)) (yY (yFb FL_26_0 e0) (yY (lb_ N.v O_24 e0 b R7) (Ym U.v (eh i2) (yH (rLt (n:=1) (l:=[U]) b SLH_24 [U.v] (bp1 e0) rfl rfl (mks1 rfl (mkF rfl) mks0)) fun W4 w b=>bE x fun W5 s9 x=>?_))))))
    replace b:=b.pk 4 [3,0,0,0] rfl
    obtain ⟨W6,ey1198,N1⟩:=app_rep s9 (b.famL R4) (show [U].length=[c6].length from rfl)
    refine yH (rAp b SLH_24 e0 e0 rO1 N1) fun t0 w b=>?_
    replace b:=(b.pk 12 [11,4,0,0,0,0,0,0,0,0,0,0] rfl).fPush
    rw [← ey1198,← (app_some s9).1] at b
    refine yY (yFb FL_28_0 (eh b0)) (yY (yFb FL_26_0 e0) (yT (r_stb1 (vals':=[t0.v,h.v,J.v]) (b.pk 9 [8,0,0,0,0,0,0,0,0] rfl) O_24 e0 e0 rfl rfl rfl rfl) fun w b=>wK N0 (wR (yY (yFb FL_28_2 (eh b0)) (yY (lb_ J.v O_24 e0 b R0) (Ym V.v (eh i3) (yH (rLt (n:=1) (l:=[V]) b SLH_24 [V.v] (bp1 e0) rfl rfl (mks1 rfl (mkF rfl) mks0)) fun W7 w b=>bE x fun W8 t1 x=>?_)))))))
    replace b:=b.pk 9 [8,0,0,0,0,0,0,0,0] rfl
    obtain ⟨W9,ey1203,N2⟩:=app_rep t1 (b.famL R9) (show [V].length=[c7].length from rfl)
    refine yH (rAp b SLH_24 e0 e0 rO1 N2) fun N3 w b=>?_
    replace b:=(b.pk 13 [12,9,0,0,0,0,0,0,0,0,0,0,0] rfl).fPush
    rw [← ey1203,← (app_some t1).1] at b
    refine yY (yFb FL_28_2 (eh b0)) (yT (r_stb1 (vals':=[t0.v,h.v,N3.v]) (b.pk 4 [3,0,0,0] rfl) O_24 e0 e0 rfl rfl rfl rfl) fun w b=>wN (h9 _ _ _ (H6 _ _ (wR (Ym (iV F) (eh c8) (yY (yadd e0 rfl) (Ya (iV (wa .i64 F 1)) e0 (wN ?_))))))))
    cases x
    exact H1 _ _ _ rfl ⟨_,_,_,_,_,_,_,_,rfl,rfl,i0,i1,b0,e3,e4,rfl,(b.pk 12 [7,7,5,4,5,2,1,0,2,2] rfl)⟩
   refine wp_exit (H3 _ _ _ rfl ?_)
   cases x
   refine h7 _ _ _ _ rfl rfl ?_
   obtain rfl:=h5 _ rfl
   refine r0 _ _ _ (G1 _ _ (sR fun _ N4=>yY (lbs_ [N.v,h.v,J.v] ST_28 (eh h1) b R7) (Ym g.v (eh r2) (yT (r_stbn (vals':=[N.v,h.v,J.v]) (us:=[N.v,h.v,J.v]) b ST_28 (eh c5) e0 rfl rfl (one_of rfl) rfl) fun w b=>Ya g.v e0 (Ya (iV 0) rfl (wK N4 (wp_ret ?_)))))))
   cases d
   exact b7 _ _ _ (fin3r Tryz.results15 (rcs2 rfl c5 b R0 ST_28 rfl) ⟨rfl,rfl⟩ ⟨rfl,rfl⟩ ⟨_,_,_,_,_,_,rfl,(b.pk 10 [2,2,2,2,2,1] rfl)⟩)
  refine condT e0 (nT (dF f2)) (sR fun _ N5=>yY (ybuild (us:=[hnil.v,hnil.v,hnil.v]) [] SO_28 bp0 rfl) (yT (r_stbn (vals':=[hnil.v,hnil.v,hnil.v]) (us:=[hnil.v,hnil.v,hnil.v]) b ST_28 e0 e0 rfl rfl (one_of rfl) rfl) fun w b=>Ya hnil.v rfl (Ya (iV 2) rfl (wK N5 (wp_ret (u0 _ _ _ rfl ?_))))))
  cases d
  replace b:=(((((((b.rowNh 22 rH).fNew 3 I1).pk 2 [1,0] rfl).rowNh 3 I1).rowNh 22 rH).fNew 3 I1).pk 2 [1,0] rfl).rowNh 3 I1
  exact b7 _ _ _ (fin3r Tryz.results15 (rcs2 rfl rfl b R6 ST_28 rfl) ⟨rfl,rfl⟩ ⟨rfl,rfl⟩ ⟨_,_,_,_,_,_,rfl,(b.pk 8 [4,4,3,1,1,0] rfl)⟩)
 refine condT e0 (nT (dF f1)) (sR fun _ N6=>yY (ybuild (us:=[hnil.v,hnil.v,hnil.v]) [] SO_28 bp0 rfl) (Ym (iV d2) e0 (yT (r_stbn (vals':=[hnil.v,hnil.v,hnil.v]) (us:=[hnil.v,hnil.v,hnil.v]) b ST_28 e0 e0 rfl rfl (one_of rfl) rfl) fun w b=>Ya hnil.v rfl (Ya (iV d2) e0 (wK N6 (wp_ret (t4 _ _ _ rfl ?_)))))))
 cases d
 replace b:=(((((((b.rowNh 22 rH).fNew 3 I1).pk 2 [1,0] rfl).rowNh 3 I1).rowNh 22 rH).fNew 3 I1).pk 2 [1,0] rfl).rowNh 3 I1
 exact b7 _ _ _ (fin3r Tryz.results15 (rcs2 rfl rfl b R6 ST_28 rfl) ⟨rfl,rfl⟩ ⟨rfl,rfl⟩ ⟨_,_,_,_,_,_,rfl,(b.pk 8 [4,4,3,1,1,0] rfl)⟩)
theorem sparseref18_Bisect_step {rec:L2→LI→L2→Option (LI×Int)} (W:∀ {w0:World} {ros:List Fact} {rs:List Res} {w:World} {y:L2} {i:LI} {z:L2} {g d h:Hdr} {out:LI×Int} (c:rec y i z=some out) (l:imm S1 g.v y∈ros) (k:imm I1 d.v i∈ros) (m:imm S1 h.v z∈ros) (b:St w0 ros rs w),Calls Tryz.prog 17 #[.agg #[g.v,d.v,h.v]] w (fun e w=>∃ (A:Hdr),e=.returned (.tuple #[A.v,iV out.2])∧St w0 ros (row 3 I1 A.v out.1::rs) w)) {w0:World} {ros:List Fact} {rs:List Res} {w:World} {y:L2} {i:LI} {z:L2} {g d h:Hdr} {out:LI×Int} (c:sparseref18_Bisect_body rec y i z=some out) (l:imm S1 g.v y∈ros) (k:imm I1 d.v i∈ros) (m:imm S1 h.v z∈ros) (b:St w0 ros rs w):
  Calls Tryz.prog 17 #[.agg #[g.v,d.v,h.v]] w (fun e w=>∃ (A:Hdr),e=.returned (.tuple #[A.v,iV out.2])∧St w0 ros (row 3 I1 A.v out.1::rs) w):=by
 refine enterQ Tryz.func17 rfl Tryz.ntmps17 rfl fun Q q=>sR fun _ X=>yBb (r_box (vals:=[g.v,d.v,h.v]) b e0 rfl) fun L w b=>Ya hnil.v rfl (Ya (iV 0) rfl (wK X (sR fun _ Z=>yY (lbs_ [g.v,d.v,h.v] ST_28 e0 b R0) (bE c fun r a0 c=>yC (yCall FN_12 (a1 e0)) (sparseref18_Match_ok a0 l k m b) ?_))))
 rintro _ w ⟨E,rfl,b⟩
 refine ⟨_,rfl,?_⟩
 refine Ym (.tuple #[E.v,iV r.2]) e0 (yY (x_ E.v e0) (yY (x_ (iV r.2) e0) (Ya E.v e0 (Ya (iV r.2) e0 (wK Z (seqQ fun f7 a3 a4=>sR fun _ a5=>Ym (iV r.2) e0 (yY (yneq e0 rfl) (wK a5 ?_))))))))
 rcases iteS c with ⟨G,c⟩ | ⟨G,c⟩
 ·refine condF e0 (nF (dT G)) (wp_skip (a3 _ _ (sR fun _ a6=>yY (yFb FL_28_1 e0) (yY (lb_ d.v O_22 e0 b R1) (yY (yLen SL_22 e0 b (rdI k)) (Ya (iV (i.length:Int)) e0 (wK a6 (seqQ fun f8 a7 a8=>sR fun _ a9=>?_))))))))
  refine Ym (iV (i.length:Int)) e0 (yY (yleq e0 rfl) (wK a9 ?_))
  refine cIf e0 c (fun b0 c=>?_) fun b0 c=>?_
  ·refine sQ fun _ b1=>bE c fun f9 b2 c=>bE c fun g0 b3 c=>dR [0,0,2,7,15,31] [2,3,4,5] 4 folM ?_
   replace b:=b.drew
   refine Dn [0,1] [] [2] (yR rfl (lbs_ [g.v,d.v,h.v] ST_28 e0 b R1) (yR rfl (lbs_ [g.v,d.v,h.v] ST_28 e0 b R1) (Rn QSn ?_)))
   refine Lc1 rfl ?_
   refine Lk wn (yCall FN_45 (a1 e0)) (sparseref18_Grow_ok b2 l k m b) ?_
   rintro _ w ⟨g1,rfl,b⟩
   refine ⟨_,rfl,?_⟩
   refine Dn [] [0] [3] (Rn (yS rfl (lbs_ [g.v,d.v,h.v] ST_28 e0 b R2) QSn) ?_)
   refine Lc1 rfl ?_
   replace b:=b.fz
   refine Lk wn (yCall FN_44 (a2 e0 e0)) (sparseref18_Refine_ok b3 (mtF l) (mtF k) (mtF m) F0 b) ?_
   rintro _ w ⟨b4,rfl,b⟩
   refine ⟨_,rfl,?_⟩
   refine Dn [] [] [4] (Rn QSn ?_)
   refine Lc1 rfl ?_
   refine Ly wn (a_ b4.v e0) (Dn [] [] [5] (Rn QSn ?_))
   refine Lc1 rfl ?_
   refine Ly wn (a_ (iV 0) rfl) (Dz [] [] (Rn QSn (b1 _ _ (wp_ret (a8 _ _ _ rfl ?_)))))
   cases c
   exact q _ _ _ (fin2r Tryz.results17 ⟨rfl,rfl⟩ ⟨rfl,rfl⟩ ⟨_,rfl,((b.pk 3 [0] rfl).facts (allT allI))⟩)
  refine wp_skip (a7 _ _ (sR fun _ b5=>yY (lbs_ [g.v,d.v,h.v] ST_28 e0 b R1) (Ym E.v e0 (bE c fun o b6 c=>?_))))
  replace b:=b.fz
  refine yC (yCall FN_15 (a2 e0 e0)) (sparseref18_Coarsen_ok b6 (mtF l) (mtF k) (mtF m) F0 b) ?_
  rintro _ w ⟨B,g2,t,C,g3,u,rfl,b⟩
  refine ⟨_,rfl,?_⟩
  refine Ym (.tuple #[.agg #[B.v,t.v,C.v],u.v,iV o.2.2.2.2]) e0 (yY (x_ (.agg #[B.v,t.v,C.v]) e0) (yY (x_ u.v e0) (yY (x_ (iV o.2.2.2.2) e0) (yBb (rAl b ZT_28) fun g4 w b=>yT (r_stbn (vals':=[B.v,t.v,C.v]) (us:=[B.v,t.v,C.v]) b ST_28 e0 e0 rfl rfl (one_of rfl) rfl) fun w b=>Ya u.v e0 (Ya (iV o.2.2.2.2) e0 (wK b5 (seqQ fun g5 b8 b9=>sQ fun _ c0=>?_)))))))
  refine wR (Ym (iV o.2.2.2.2) e0 (yY (yneq e0 rfl) (wK c0 ?_)))
  rcases iteS c with ⟨H,c⟩ | ⟨H,c⟩
  ·refine condF e0 (nF (dT H)) (wp_skip (b8 _ _ (seqQ fun g6 c1 c2=>sR fun _ c3=>yY (yFb FL_28_1 e0) (yY (lb_ t.v O_22 e0 b R0) (yY (yLen SL_22 e0 b rO3) (Ym (iV (i.length:Int)) e0 (yY (yeql e0 e0) (wK c3 ?_))))))))
   refine cIf e0 c (fun c4 c=>?_) fun c4 c=>?_
   ·refine sQ fun _ c5=>bE c fun g7 c6 c=>bE c fun g8 c7 c=>dR [0,0,2,7,15,31] [2,3,4,5] 4 folM ?_
    replace b:=b.drew
    refine Dn [0,1] [] [2] (yR rfl (lbs_ [g.v,d.v,h.v] ST_28 e0 b R7) (yR rfl (lbs_ [g.v,d.v,h.v] ST_28 e0 b R7) (Rn QSn ?_)))
    refine Lc1 rfl ?_
    refine Lk wn (yCall FN_45 (a1 e0)) (sparseref18_Grow_ok c6 (mtF l) (mtF k) (mtF m) b) ?_
    rintro _ w ⟨g9,rfl,b⟩
    refine ⟨_,rfl,?_⟩
    refine Dn [] [0] [3] (Rn (yS rfl (lbs_ [g.v,d.v,h.v] ST_28 e0 b R8) QSn) ?_)
    refine Lc1 rfl ?_
    replace b:=b.fz
    refine Lk wn (yCall FN_44 (a2 e0 e0)) (sparseref18_Refine_ok c7 (F_2 l) (F_2 k) (F_2 m) F0 b) ?_
    rintro _ w ⟨c8,rfl,b⟩
    refine ⟨_,rfl,?_⟩
    refine Dn [] [] [4] (Rn QSn ?_)
    refine Lc1 rfl ?_
    refine Ly wn (a_ c8.v e0) (Dn [] [] [5] (Rn QSn ?_))
    refine Lc1 rfl ?_
    refine Ly wn (a_ (iV 0) rfl) (Dz [] [] (Rn QSn (c5 _ _ (wp_ret (c2 _ _ _ rfl ?_)))))
    cases c
    exact q _ _ _ (fin2r Tryz.results17 ⟨rfl,rfl⟩ ⟨rfl,rfl⟩ ⟨_,rfl,((b.pk 9 [0] rfl).facts (allT (allT allI)))⟩)
   refine wp_skip (c1 _ _ (sR fun _ c9=>yY (lbs_ [B.v,t.v,C.v] ST_28 e0 b R0) (bE c fun p d0 c=>?_)))
   replace b:=(((((b.pk 3 [1,1,0] rfl).ffz).pk 2 [1,0] rfl).fz).pk 3 [1,1,0] rfl).ffz
   refine yC (yCall FN_17 (a1 e0)) (W d0 F2 F1 F0 b) ?_
   rintro _ w ⟨x,rfl,b⟩
   refine ⟨_,rfl,?_⟩
   refine Ym (.tuple #[x.v,iV p.2]) e0 (yY (x_ x.v e0) (yY (x_ (iV p.2) e0) (Ya x.v e0 (Ya (iV p.2) e0 (wK c9 (seqQ fun h0 d1 d2=>sR fun _ d3=>Ym (iV p.2) e0 (yY (yneq e0 rfl) (wK d3 ?_))))))))
   rcases iteS c with ⟨I,c⟩ | ⟨I,c⟩
   ·refine condF e0 (nF (dT I)) (wp_skip (d1 _ _ (sR fun _ d4=>Ym (iV (i.length:Int)) e0 (bE c fun h1 d5 c=>yH (rMk b SL_22 e0 d5) fun D w b=>Ya D.v e0 (wK d4 (sQ fun _ d6=>sQ fun _ d7=>?_))))))
    refine wR (Ya (iV 0) rfl (wK d7 (blockQ fun _ d8=>bE c fun h3 d9 c=>?_)))
    refine loopQ (fun s a w=>∃ (J:LI) (n:Int) (f:FV),(J,n)=s∧a=fr 76 f∧f 1=(pB L)∧f 6=iV (i.length:Int)∧f 8=u.v∧f 9=x.v∧f 10=D.v∧f 11=iV n∧St w0 ros (box L 28 [g.v,d.v,h.v]::row 3 I1 u.v o.2.2.2.1::row 3 I1 x.v p.1::row 3 I1 D.v J::rs) w) d9 ⟨_,_,_,rfl,rfl,rfl,rfl,rfl,rfl,rfl,rfl,((b.pk 5 [4,3,1,0] rfl).facts (allT (allT (allT (allT allI)))))⟩ ?_
    rintro _ _ w h5 ⟨J,n,f,rfl,rfl,N,O,R,S,K,F,b⟩ j e1 h7 e2 e3
    refine seqQ fun h8 e4 e5=>sR fun _ e6=>Ym (iV n) (eh F) (Ym (iV (i.length:Int)) (eh O) (yY (ylss e0 e0) (wK e6 ?_)))
    refine cIf e0 j (fun e7 j=>?_) fun e7 j=>?_
    ·refine wp_skip (e4 _ _ (sQ fun _ e8=>blockQ fun _ e9=>wR (Ym D.v (eh K) (Ym (iV n) (eh F) (Ym x.v (eh S) (Ym u.v (eh R) (Ym (iV n) (eh F) (bE j fun i0 T j=>yY (yIa SL_22 e0 e0 b rO1 T) (yY (yI O_3 e0 b rO1 T) (bE j fun f0 U j=>?_))))))))))
     refine yY (yIa SL_22 e0 e0 b rO2 U) (yY (yI O_3 e0 b rO2 U) (bE j fun i1 V j=>yY (yIs SL_22 e0 e0 b rO3 V) (yT (r_sti (cs:=[iV f0]) (b.pk 4 [3,0,0,0] rfl) O_3 rfl e0 e0 rfl mkI V) fun w b=>wN (e9 _ _ _ (e8 _ _ (wR (Ym (iV n) (eh F) (yY (yadd e0 rfl) (Ya (iV (wa .i64 n 1)) e0 (wN ?_))))))))))
     cases j
     exact e2 _ _ _ rfl ⟨_,_,_,rfl,rfl,N,O,R,S,K,rfl,(b.pk 4 [1,1,1,0] rfl)⟩
    refine wp_exit (e5 _ _ _ rfl ?_)
    cases j
    refine e3 _ _ _ _ rfl rfl ?_
    obtain rfl:=e1 _ rfl
    refine d8 _ _ _ (d6 _ _ (sR fun _ f1=>yY (lbs_ [g.v,d.v,h.v] ST_28 (eh N) b R0) (Ym D.v (eh K) (bE c fun i2 f2 c=>?_))))
    replace b:=(b.pk 4 [3,0,0,0] rfl).fz
    refine yC (yCall FN_44 (a2 e0 e0)) (sparseref18_Refine_ok f2 (mtF l) (mtF k) (mtF m) F0 b) ?_
    rintro _ w ⟨f3,rfl,b⟩
    refine ⟨_,rfl,?_⟩
    refine Ya f3.v e0 (Ya (iV 0) rfl (wK f1 (wp_ret ?_)))
    cases c
    exact q _ _ _ (fin2r Tryz.results17 ⟨rfl,rfl⟩ ⟨rfl,rfl⟩ ⟨_,rfl,((b.pk 4 [0] rfl).facts (allT allI))⟩)
   refine condT e0 (nT (dF I)) (sR fun _ f4=>Ym (iV p.2) e0 (Ya hnil.v rfl (Ya (iV p.2) e0 (wK f4 (wp_ret (d2 _ _ _ rfl ?_))))))
   cases c
   replace b:=b.rowNh 3 I1
   exact q _ _ _ (fin2r Tryz.results17 ⟨rfl,rfl⟩ ⟨rfl,rfl⟩ ⟨_,rfl,((b.pk 5 [0] rfl).facts (allT (allT (allT (allT allI)))))⟩)
  refine condT e0 (nT (dF H)) (sR fun _ f5=>Ym (iV o.2.2.2.2) e0 (Ya hnil.v rfl (Ya (iV o.2.2.2.2) e0 (wK f5 (wp_ret (b9 _ _ _ rfl ?_))))))
  cases c
  replace b:=b.rowNh 3 I1
  exact q _ _ _ (fin2r Tryz.results17 ⟨rfl,rfl⟩ ⟨rfl,rfl⟩ ⟨_,rfl,((b.pk 9 [0] rfl).facts (allT allI))⟩)
 refine condT e0 (nT (dF G)) (sR fun _ f6=>Ym (iV r.2) e0 (Ya hnil.v rfl (Ya (iV r.2) e0 (wK f6 (wp_ret (a4 _ _ _ rfl ?_))))))
 cases c
 replace b:=b.rowNh 3 I1
 exact q _ _ _ (fin2r Tryz.results17 ⟨rfl,rfl⟩ ⟨rfl,rfl⟩ ⟨_,rfl,(b.pk 3 [0] rfl)⟩)
theorem sparseref18_Bisect_ok_n (n:Nat):∀ {w0:World} {ros:List Fact} {rs:List Res} {w:World} {b:L2} {c:LI} {d:L2} {f g h:Hdr} {out:LI×Int} (a:sparseref18_Bisect n b c d=some out) (i:imm S1 f.v b∈ros) (j:imm I1 g.v c∈ros) (k:imm S1 h.v d∈ros) (l:St w0 ros rs w),
  Calls Tryz.prog 17 #[.agg #[f.v,g.v,h.v]] w (fun e w=>∃ (m:Hdr),e=.returned (.tuple #[m.v,iV out.2])∧St w0 ros (row 3 I1 m.v out.1::rs) w):=by
 induction n with
 | zero=>intro _ _ _ _ _ _ _ _ _ _ out a; cases a
 | succ n ih=>exact fun a i j k l=>sparseref18_Bisect_step (rec:=sparseref18_Bisect n) ih a i j k l
theorem sparseref18_Bisect_ok {a:L2} {b:LI} {c:L2} {d f g:Hdr} {out:LI×Int} (i:sparseref18_Bisect FUEL a b c=some out) (j:imm S1 d.v a∈ros) (k:imm I1 f.v b∈ros) (l:imm S1 g.v c∈ros) (m:St w0 ros rs w):
  Calls Tryz.prog 17 #[.agg #[d.v,f.v,g.v]] w (fun e w=>∃ (h:Hdr),e=.returned (.tuple #[h.v,iV out.2])∧St w0 ros (row 3 I1 h.v out.1::rs) w):=sparseref18_Bisect_ok_n FUEL i j k l m
theorem sparseref18_border_ok {K:L2} {L:LI} {j:Int} {m o:Hdr} {out:LI} (C:sparseref18_border K L j=some out) (E:imm S1 m.v K∈ros) (D:imm I1 o.v L∈ros) (b:St w0 ros rs w):
  Calls Tryz.prog 58 #[.agg #[m.v],o.v,iV j] w (fun e w=>∃ (N:Hdr),e=.returned (N.v)∧St w0 ros (row 3 I1 N.v out::rs) w):=by
 refine enterQ Tryz.func58 rfl Tryz.ntmps58 rfl fun Q a8=>sR fun _ a9=>yBb (r_box (vals:=[m.v]) b e0 rfl) fun p w b=>Ya hnil.v rfl (wK a9 (sR fun _ b0=>Ya hnil.v rfl (wK b0 (sQ fun _ b1=>?_))))
 refine sR fun _ b2=>Ya (iV 0) rfl (wK b2 (blockQ fun _ b3=>bE C fun g5 b4 C=>?_))
 replace b:=b.rowNh 3 I1
 refine loopQ (fun s a w=>∃ (y:LI) (d:Int) (f:FV) (i:Hdr),(y,d)=s∧a=fr 57 f∧f 1=o.v∧f 2=iV j∧f 3=(pB p)∧f 7=i.v∧f 8=iV d∧St w0 ros (box p 26 [m.v]::row 3 I1 i.v y::rs) w) b4 ⟨_,_,_,_,rfl,rfl,rfl,rfl,rfl,rfl,rfl,(b.pk 2 [1,0] rfl)⟩ ?_
 rintro _ _ w b5 ⟨y,d,f,i,rfl,rfl,O,b7,b8,R,S,b⟩ g b9 g6 c0 c1
 refine seqQ fun g7 c2 c3=>sR fun _ c4=>Ym (iV d) (eh S) (Ym o.v (eh O) (yY (yLen SL_22 e0 b (rdI D)) (yY (ylss e0 e0) (wK c4 ?_))))
 refine cIf e0 g (fun c5 g=>?_) fun c5 g=>?_
 ·refine wp_skip (c2 _ _ (sQ fun _ c6=>blockQ fun c7 c8=>sR fun _ c9=>Ya (.bool false) rfl (wK c9 (sQ fun _ d0=>sR fun _ d1=>Ya (iV 0) rfl (wN ?_)))))
  refine d1 _ _ (blockQ fun _ d2=>bE g fun g8 d3 g=>?_)
  refine loopQ (fun s a w=>∃ (t:Bool) (r:Int) (f:FV),(t,r)=s∧a=fr 57 f∧f 1=o.v∧f 2=iV j∧f 3=(pB p)∧f 7=i.v∧f 8=iV d∧f 9=.bool t∧f 10=iV r∧St w0 ros (box p 26 [m.v]::row 3 I1 i.v y::rs) w) d3 ⟨_,_,_,rfl,rfl,O,b7,b8,R,S,rfl,rfl,b⟩ ?_
  rintro _ _ w g9 ⟨t,r,f,rfl,rfl,z,A,B,F,u,T,G,b⟩ q d4 h0 d5 d6
  refine seqQ fun h1 d7 d8=>sR fun _ d9=>Ym (iV r) (eh G) (yY (yFb FL_26_0 (eh B)) (yY (lb_ m.v O_24 e0 b R0) (Ym (iV d) (eh u) (bE q fun h3 U q=>yY (yIa SL_24 e0 e0 b (rdI E) U) ?_))))
  obtain ⟨h5,b⟩:=iLs b E U
  refine yY (yCt O_22 e0 b F1 rfl) (yY (yLen SL_22 e0 b (rdI F0)) (yY (ylss e0 e0) (wK d9 ?_)))
  refine cIf e0 q (fun e1 q=>?_) fun e1 q=>?_
  ·refine wp_skip (d7 _ _ (sQ fun _ e2=>blockQ fun _ e3=>wR (Ym (.bool t) (eh T) (Ym (.bool t) e0 (bE q fun V k q=>?_)))))
   refine joinW 14 (fun f w=>f 1=o.v∧f 2=iV j∧f 3=(pB p)∧f 7=i.v∧f 8=iV d∧f 10=iV r∧f 42=.bool V∧St w0 ros (box p 26 [m.v]::row 3 I1 i.v y::rs) w) (fun W=>?_) ?_
   ·rcases iteS k with ⟨c,k⟩ | ⟨c,k⟩
    ·refine gN c (gN c (gN c (gN c (gN c (gN c (gN c (gN c (gN c (gN c (gN c (gN c (gN c (yY (pt_ (.bool true) e0 c rfl) ?_)))))))))))))
     cases k
     exact W _ _ ⟨z,A,B,F,u,G,rfl,(b.facts (allT (allT allI)))⟩
    refine yG (bfalse c) (m_ o.v (eh z)) (yG (bfalse c) (yFb FL_26_0 (eh B)) (yG (bfalse c) (lb_ m.v O_24 e0 b R0) (yG (bfalse c) (m_ (iV d) (eh u)) (bE k fun h6 X k=>yG (bfalse c) (yIa SL_24 e0 e0 b (rdI (F_2 E)) X) ?_))))
    obtain ⟨h7,b⟩:=iLs b (F_2 E) X
    refine yG (bfalse c) (yCt O_22 e0 b F1 rfl) (yG (bfalse c) (m_ (iV r) (eh G)) (bE k fun h8 Z k=>yG (bfalse c) (yIa SL_22 e0 e0 b (rdI F0) Z) (yG (bfalse c) (yI O_3 e0 b (rdI F0) Z) (bE k fun e4 a0 k=>yG (bfalse c) (yIa SL_22 e0 e0 b (rdI (F_4 D)) a0) (yG (bfalse c) (yI O_3 e0 b (rdI (F_4 D)) a0) (yG (bfalse c) (m_ (iV j) (eh A)) (yG (bfalse c) (yneq e0 e0) (yY (pf_ (.bool (!(decide (e4=j)))) e0 (bfalse c) e0) ?_))))))))
    cases k
    exact W _ _ ⟨z,A,B,F,u,G,rfl,(b.facts (allT (allT (allT (allT allI)))))⟩
   rintro f w ⟨e5,e6,e7,e8,e9,f0,f1,b⟩
   refine Ya (.bool V) (eh f1) (wN (e3 _ _ _ (e2 _ _ (wR (Ym (iV r) (eh f0) (yY (yadd e0 rfl) (Ya (iV (wa .i64 r 1)) e0 (wN ?_))))))))
   cases q
   exact d5 _ _ _ rfl ⟨_,_,_,rfl,rfl,e5,e6,e7,e8,e9,rfl,rfl,b⟩
  refine wp_exit (d8 _ _ _ rfl ?_)
  cases q
  refine d6 _ _ _ _ rfl rfl ?_
  obtain rfl:=d4 _ rfl
  refine d2 _ _ _ (d0 _ _ (sR fun _ f2=>Ym (.bool t) (eh T) (Ym (.bool t) e0 (bE g fun f3 x g=>?_))))
  refine joinW 7 (fun f w=>f 1=o.v∧f 2=iV j∧f 3=(pB p)∧f 7=i.v∧f 8=iV d∧f 51=.bool f3∧St w0 ros (box p 26 [m.v]::row 3 I1 i.v y::rs) w) (fun a1=>?_) ?_
  ·rcases iteS x with ⟨h,x⟩ | ⟨h,x⟩
   ·refine yG h (m_ o.v (eh z)) (yG h (m_ (iV d) (eh u)) (bE x fun f4 a2 x=>yG h (yIa SL_22 e0 e0 b (rdI (F_2 D)) a2) (yG h (yI O_3 e0 b (rdI (F_2 D)) a2) (yG h (m_ (iV j) (eh A)) (yG h (yeql e0 e0) (yY (pt_ (.bool (decide (f4=j))) e0 h e0) ?_))))))
    cases x
    exact a1 _ _ ⟨z,A,B,F,u,rfl,(b.facts (allT (allT allI)))⟩
   refine gN (bfalse h) (gN (bfalse h) (gN (bfalse h) (gN (bfalse h) (gN (bfalse h) (gN (bfalse h) (yY (pf_ (.bool false) e0 (bfalse h) rfl) ?_))))))
   cases x
   exact a1 _ _ ⟨z,A,B,F,u,rfl,(b.facts (allT (allT allI)))⟩
  rintro f w ⟨a3,a4,a5,a6,H,f5,b⟩
  refine wK f2 ?_
  have a7:∀ (I:LI) (J:Hdr) (f:FV) w,f 1=o.v→f 2=iV j→f 3=(pB p)→f 7=J.v→f 8=iV d→St w0 ros (box p 26 [m.v]::row 3 I1 J.v I::rs) w→sparseref18_border_j15 d I=some b5→c7 .normal (fr 57 f) w:=by
   intro I J f w f6 f7 f8 f9 g0 b C
   refine c8 _ _ _ (c6 _ _ (wR (Ym (iV d) (eh g0) (yY (yadd e0 rfl) (Ya (iV (wa .i64 d 1)) e0 (wN ?_))))))
   cases C
   exact c0 _ _ _ rfl ⟨_,_,_,_,rfl,rfl,f6,f7,f8,f9,rfl,b⟩
  refine cB (eh f5) g (fun g1 g=>?_) fun g1 g=>?_
  ·exact wR (Ym i.v (eh a6) (Ym (iV d) (eh H) (yH (rLt (n:=1) (l:=[d]) b SL_22 [iV d] (bp1 e0) rfl rfl (mks1 (cs:=[iV d]) rfl mkI mks0)) fun h9 w b=>bE g fun i0 g2 g=>yH (rAp (b.pk 3 [2,0,0] rfl) SL_22 e0 e0 rO1 g2) fun g3 w b=>Ya g3.v e0 (wN (a7 _ _ _ _ a3 a4 a5 rfl H (b.pk 3 [2,0] rfl) g)))))
  exact wp_skip (a7 _ _ _ _ a3 a4 a5 a6 H b g)
 refine wp_exit (c3 _ _ _ rfl ?_)
 cases g
 refine c1 _ _ _ _ rfl rfl ?_
 obtain rfl:=b9 _ rfl
 refine b3 _ _ _ (b1 _ _ (sR fun _ g4=>Ym i.v (eh R) (Ya i.v e0 (wK g4 (wp_ret ?_)))))
 cases C
 exact a8 _ _ _ (fin1r Tryz.results58 ⟨rfl,rfl⟩ ⟨_,rfl,(b.pk 2 [1] rfl)⟩)
theorem sparseref09_Pack_ok {c d:Int} {a7:List (Int×Int×Int)} {o:Hdr} {out:Int×Int×LI×LI×LI} (q:sparseref09_Pack c d a7=some out) (z:imm rTi64i64u64 o.v a7∈ros) (b:St w0 ros rs w):
  Calls Tryz.prog 60 #[iV c,iV d,o.v] w (fun e w=>∃ (a8 a9 b0:Hdr),e=.returned (.agg #[iV out.1,iV out.2.1,a8.v,a9.v,b0.v])∧St w0 ros (row 3 I1 a8.v out.2.2.1::row 3 I1 a9.v out.2.2.2.1::row 82 (rI .u64) b0.v out.2.2.2.2::rs) w):=by
 refine enterQ Tryz.func60 rfl Tryz.ntmps60 rfl fun Q c6=>sR fun _ c7=>yBb (rAl b ZT_91) fun x w b=>wK c7 (sR fun _ c8=>Ym (iV c) e0 (Ym (iV d) e0 (yH (rLt (n:=1) (l:=[0]) b SL_22 [iV 0] (bp1 rfl) rfl rfl (mks1 (cs:=[iV 0]) rfl mkI mks0)) fun B w b=>yY (ybuild (us:=[iV c,iV d,B.v,hnil.v,hnil.v]) [(0,iV c),(1,iV d),(2,B.v)] SO_91 (bp3 e0 e0 e0) rfl) ?_)))
 refine yBb (rAl b ZT_91) fun y w b=>yT (r_stbn (vals':=[iV c,iV d,B.v,hnil.v,hnil.v]) (us:=[iV c,iV d,B.v,hnil.v,hnil.v]) b ST_91 e0 e0 rfl rfl (one_of rfl) rfl) fun w b=>wK c8 (sR fun _ c9=>Ym (iV c) e0 (Ym (iV d) e0 (yY (ymul e0 e0) (bE q fun j9 d0 q=>yH (rMk b SL_22 e0 d0) fun j w b=>?_))))
 refine Ya j.v e0 (wK c9 (sQ fun _ d1=>sR fun _ d2=>Ya (iV 0) rfl (wK d2 (blockQ fun _ d3=>bE q fun k0 d4 q=>?_))))
 refine loopQ (fun s a w=>∃ (C:LI) (p:Int) (f:FV),(C,p)=s∧a=fr 90 f∧f 0=iV c∧f 1=iV d∧f 2=o.v∧f 6=(pB x)∧f 7=(pB y)∧f 8=j.v∧f 9=iV p∧St w0 ros (box x 91 [iV 0,iV 0,hnil.v,hnil.v,hnil.v]::row 3 I1 B.v [0]::box y 91 [iV c,iV d,B.v,hnil.v,hnil.v]::row 3 I1 j.v C::rs) w) d4 ⟨_,_,_,rfl,rfl,rfl,rfl,rfl,rfl,rfl,rfl,rfl,(b.pk 4 [3,2,1,0] rfl)⟩ ?_
 rintro _ _ w k6 ⟨C,p,f,rfl,rfl,T,b1,H,b2,b3,U,I,b⟩ k d5 k7 d6 d7
 refine seqQ fun k8 d8 d9=>sR fun _ e1=>Ym (iV p) (eh I) (Ym o.v (eh H) (yY (yLen SL_80 e0 b (rdI z)) (yY (ylss e0 e0) (wK e1 ?_))))
 refine cIf e0 k (fun e2 k=>?_) fun e2 k=>?_
 ·refine wp_skip (d8 _ _ (sQ fun _ e3=>blockQ fun _ e4=>bE k fun e5 b4 k=>bE k fun e6 b6 k=>bE k fun k9 b8 k=>dR [0,0,0,6,14,30,0,126,0,0,768,1792,3840,8190,0,16384,65535,131071] [17] 1 folM ?_))
  replace b:=b.drew
  refine Dn [0,1,2,3,4,5,6,7,8,9,10,11,12,13,14,15,16] [] [17] (yR rfl (m_ j.v (eh U)) (yR rfl (m_ o.v (eh H)) (yR rfl (m_ (iV p) (eh I)) (yR rfl (yIa SL_80 e0 e0 b (rdI z) b4) (yR rfl (yFe FL_84_1 e0) (yR rfl (yFf (u:=iV e5.2.1) O_3 e0 b (rdI z) b4 rfl) (yR rfl (m_ (iV c) (eh T)) (yR rfl (ymul e0 e0) (yR rfl (m_ o.v (eh H)) (yR rfl (m_ (iV p) (eh I)) (yR rfl (yIa SL_80 e0 e0 b (rdI z) b6) (yR rfl (yFe FL_84_0 e0) (yR rfl (yFf (u:=iV e6.1) O_3 e0 b (rdI z) b6 rfl) ?_)))))))))))))
  refine yR rfl (yadd e0 e0) (yR rfl (m_ (iV p) (eh I)) (yR rfl (yadd e0 rfl) (yR rfl (yIs SL_22 e0 e0 b rO3 b8) (Rn QSn ?_))))
  refine Lc1 rfl ?_
  replace b:=b.pk 4 [3,0,0,0] rfl
  refine LT wn (r_sti (cs:=[iV (wa .i64 p 1)]) b O_3 rfl e0 e0 rfl mkI b8) fun w b=>Dz [] [] (Rn QSn (e4 _ _ _ (e3 _ _ (wR (Ym (iV p) (eh I) (yY (yadd e0 rfl) (Ya (iV (wa .i64 p 1)) e0 (wN ?_))))))))
  cases k
  exact d6 _ _ _ rfl ⟨_,_,_,rfl,rfl,T,b1,H,b2,b3,U,rfl,(b.pk 4 [1,1,1,0] rfl)⟩
 refine wp_exit (d9 _ _ _ rfl ?_)
 cases k
 refine d7 _ _ _ _ rfl rfl ?_
 obtain rfl:=d5 _ rfl
 refine d3 _ _ _ (d1 _ _ (sQ fun _ e7=>sR fun _ e8=>Ya (iV 0) rfl (wK e8 (blockQ fun _ e9=>bE q fun l0 f0 q=>?_))))
 replace b:=(b.rowNh 3 I1).rowNh 82 (rI .u64)
 refine loopQ (fun s a w=>∃ (J V W:LI) (r:Int) (f:FV) (h D E:Hdr),(J,V,W,r)=s∧a=fr 90 f∧f 0=iV c∧f 1=iV d∧f 2=o.v∧f 6=(pB x)∧f 7=(pB y)∧f 8=j.v∧f 10=iV r∧St w0 ros (box x 91 [iV 0,iV 0,hnil.v,hnil.v,hnil.v]::row 3 I1 h.v J::row 3 I1 D.v V::row 82 (rI .u64) E.v W::box y 91 [iV c,iV d,h.v,D.v,E.v]::row 3 I1 j.v C::rs) w) f0 ⟨_,_,_,_,_,_,_,_,rfl,rfl,T,b1,H,b2,b3,U,rfl,(b.pk 6 [2,2,1,0,0,0] rfl)⟩ ?_
 rintro _ _ w l1 ⟨J,V,W,r,f,h,D,E,rfl,rfl,f1,b9,f2,X,c0,f3,c1,b⟩ t f4 l2 f5 f6
 refine seqQ fun l3 f7 f8=>sR fun _ f9=>Ym (iV r) (eh c1) (Ym (iV d) (eh b9) (yY (ylss e0 e0) (wK f9 ?_)))
 refine cIf e0 t (fun g0 t=>?_) fun g0 t=>?_
 ·refine wp_skip (f7 _ _ (sQ fun _ g1=>blockQ fun _ g2=>sQ fun _ g3=>sR fun _ g4=>Ya (iV 0) rfl (wK g4 (blockQ fun _ g5=>bE t fun l4 g6 t=>?_))))
  refine loopQ (fun s a w=>∃ (F Z:LI) (i:Int) (f:FV) (G A:Hdr),(F,Z,i)=s∧a=fr 90 f∧f 0=iV c∧f 1=iV d∧f 2=o.v∧f 6=(pB x)∧f 7=(pB y)∧f 8=j.v∧f 10=iV r∧f 11=iV i∧St w0 ros (box x 91 [iV 0,iV 0,hnil.v,hnil.v,hnil.v]::row 3 I1 h.v J::row 3 I1 G.v F::row 82 (rI .u64) A.v Z::box y 91 [iV c,iV d,h.v,G.v,A.v]::row 3 I1 j.v C::rs) w) g6 ⟨_,_,_,_,_,_,rfl,rfl,f1,b9,f2,X,c0,f3,c1,rfl,b⟩ ?_
  rintro _ _ w g7 ⟨F,Z,i,f,G,A,rfl,rfl,K,a0,N,a1,m,O,R,L,b⟩ g g8 l5 g9 h0
  refine seqQ fun l6 h1 h2=>sR fun _ h3=>Ym (iV i) (eh L) (Ym (iV c) (eh K) (yY (ylss e0 e0) (wK h3 ?_)))
  refine cIf e0 g (fun h5 g=>?_) fun h5 g=>?_
  ·refine wp_skip (h1 _ _ (sQ fun _ h7=>blockQ fun h9 i0=>sR fun _ i1=>Ym j.v (eh O) (Ym (iV r) (eh R) (Ym (iV c) (eh K) (yY (ymul e0 e0) (Ym (iV i) (eh L) (yY (yadd e0 e0) (bE g fun a2 c2 g=>yY (yIa SL_22 e0 e0 b rO5 c2) ?_))))))))
   refine yY (yI O_3 e0 b rO5 c2) (Ya (iV a2) e0 (wK i1 (sR fun _ i2=>Ym (iV a2) e0 (yY (ygtr e0 rfl) (wK i2 ?_)))))
   have c3:∀ (a3 a4:LI) (a5 a6:Hdr) (f:FV) w,f 0=iV c→f 1=iV d→f 2=o.v→f 6=(pB x)→f 7=(pB y)→f 8=j.v→f 10=iV r→f 11=iV i→St w0 ros (box x 91 [iV 0,iV 0,hnil.v,hnil.v,hnil.v]::row 3 I1 h.v J::row 3 I1 a5.v a3::row 82 (rI .u64) a6.v a4::box y 91 [iV c,iV d,h.v,a5.v,a6.v]::row 3 I1 j.v C::rs) w→sparseref09_Pack_j14 i a3 a4=some g7→h9 .normal (fr 90 f) w:=by
    intro a3 a4 a5 a6 f w i3 i4 i5 i6 i7 i8 i9 j0 b q
    refine i0 _ _ _ (h7 _ _ (wR (Ym (iV i) (eh j0) (yY (yadd e0 rfl) (Ya (iV (wa .i64 i 1)) e0 (wN ?_))))))
    cases q
    exact g9 _ _ _ rfl ⟨_,_,_,_,_,_,rfl,rfl,i3,i4,i5,i6,i7,i8,i9,rfl,b⟩
   refine cIf e0 g (fun j1 g=>?_) fun j1 g=>?_
   ·refine sR fun _ j2=>yY (yFb FL_91_3 (eh m)) (yY (lb_ G.v O_22 e0 b R4) (Ym (iV i) (eh L) (yH (rLt (n:=1) (l:=[i]) b SL_22 [iV i] (bp1 e0) rfl rfl (mks1 (cs:=[iV i]) rfl mkI mks0)) fun l7 w b=>bE g fun l8 j3 g=>yH (rAp (b.pk 4 [3,0,0,0] rfl) SL_22 e0 e0 rO1 j3) fun c4 w b=>yY (yFb FL_91_3 (eh m)) (yT (r_stb1 (vals':=[iV c,iV d,h.v,c4.v,A.v]) (b.pk 6 [5,0,0,0,0,0] rfl) O_22 e0 e0 rfl rfl rfl rfl) fun w b=>wN ?_))))
    refine j2 _ _ (bE g fun S c5 g=>bE g fun l9 j4 g=>dR [0,1,0,0,8,28,60,124,252,511,1023,2047] [8,9,11] 3 folM ?_)
    replace b:=b.drew
    refine Dn [0,1,2,3,4,5,6,7] [] [8] (yR rfl (yFb FL_91_4 (eh m)) (yR rfl (lb_ A.v O_89 e0 b R0) (yR rfl (m_ o.v (eh N)) (yR rfl (m_ (iV a2) e0) (yR rfl (ysub e0 rfl) (yR rfl (yIa SL_80 e0 e0 b (rdI z) c5) (yR rfl (yFe FL_84_2 e0) (yR rfl (yFf (u:=.int .u64 S.2.2) O_82 e0 b (rdI z) c5 rfl) (Rn QSn ?_)))))))))
    refine Lc1 rfl ?_
    refine LH wn (rLt (n:=1) (l:=[S.2.2]) b SL_89 [.int .u64 S.2.2] (bp1 e0) rfl rfl (mks1 (cs:=[.int .u64 S.2.2]) rfl mkI mks0)) fun m0 w b=>Dn [] [0,1] [9] (Rn (yS rfl (yFb FL_91_4 (eh m)) (yS rfl (lb_ A.v O_89 e0 b R1) QSn)) ?_)
    refine Lc1 rfl ?_
    replace b:=b.pk 7 [6,0,0,0,0,0,0] rfl
    refine LH wn (rAp b SL_89 e0 e0 rO1 j4) fun j5 w b=>Dn [10] [] [11] (yR rfl (yFb FL_91_4 (eh m)) (Rn QSn ?_))
    refine Lc1 rfl ?_
    replace b:=b.pk 3 [2,0,0] rfl
    exact LT wn (r_stb1 (vals':=[iV c,iV d,h.v,c4.v,j5.v]) b O_89 e0 e0 rfl rfl rfl rfl) fun w b=>Dz [] [] (Rn QSn (c3 _ _ _ _ _ _ K a0 N a1 m O R L (b.pk 8 [5,5,3,1,0,2] rfl) g))
   exact wp_skip (c3 _ _ _ _ _ _ K a0 N a1 m O R L b g)
  refine wp_exit (h2 _ _ _ rfl ?_)
  cases g
  refine h0 _ _ _ _ rfl rfl ?_
  obtain rfl:=g8 _ rfl
  refine g5 _ _ _ (g3 _ _ (wR (yY (yFb FL_91_2 (eh m)) (yY (lb_ h.v O_22 e0 b R4) (yY (yFb FL_91_3 (eh m)) (yY (lb_ G.v O_22 e0 b R4) (yY (yLen SL_22 e0 b rO2) (yH (rLt (n:=1) (l:=[(F.length:Int)]) b SL_22 [iV (F.length:Int)] (bp1 e0) rfl rfl (mks1 (cs:=[iV (F.length:Int)]) rfl mkI mks0)) fun m1 w b=>bE t fun m2 j6 t=>yH (rAp (b.pk 3 [2,0,0] rfl) SL_22 e0 e0 rO1 j6) fun j7 w b=>yY (yFb FL_91_2 (eh m)) ?_))))))))
  refine yT (r_stb1 (vals':=[iV c,iV d,j7.v,G.v,A.v]) (b.pk 6 [5,0,0,0,0,0] rfl) O_22 e0 e0 rfl rfl rfl rfl) fun w b=>wN (g2 _ _ _ (g1 _ _ (wR (Ym (iV r) (eh R) (yY (yadd e0 rfl) (Ya (iV (wa .i64 r 1)) e0 (wN ?_)))))))
  cases t
  exact f5 _ _ _ rfl ⟨_,_,_,_,_,_,_,_,rfl,rfl,K,a0,N,a1,m,O,rfl,(b.pk 7 [3,1,2,2,0,1] rfl)⟩
 refine wp_exit (f8 _ _ _ rfl ?_)
 cases t
 refine f6 _ _ _ _ rfl rfl ?_
 obtain rfl:=f4 _ rfl
 refine e9 _ _ _ (e7 _ _ (sR fun _ j8=>yY (lbs_ [iV c,iV d,h.v,D.v,E.v] ST_91 (eh c0) b R4) (yT (r_stbn (vals':=[iV c,iV d,h.v,D.v,E.v]) (us:=[iV c,iV d,h.v,D.v,E.v]) b ST_91 (eh X) e0 rfl rfl (one_of rfl) rfl) fun w b=>wK j8 (wp_ret ?_))))
 cases q
 exact c6 _ _ _ (fin1r Tryz.results60 (rcs2 rfl X b R0 ST_91 rfl) ⟨_,_,_,rfl,(b.pk 6 [1,1,1] rfl)⟩)
theorem sparseref03_IsFinite_ok {a:Int} {out:Bool} (b:sparseref03_IsFinite a=some out) (c:St w0 ros rs w):
  Calls Tryz.prog 125 #[.int .u64 a] w (fun e w=>e=.returned (.bool out)∧St w0 ros rs w):=by
 refine enterQ Tryz.func125 rfl Tryz.ntmps125 rfl fun Q d=>sR fun _ f=>Ya (.bool false) rfl (wK f (sR fun _ g=>Ym (.int .u64 a) e0 (yY (yshrc e0 rfl) (yY (yand e0 rfl) (yY (yneq e0 rfl) (Ya (.bool (!(decide ((wand .u64 (wsrc .u64 a 52) 2047)=2047)))) e0 (wN ?_)))))))
 refine g _ _ (wp_ret ?_)
 cases b
 exact d _ _ _ (fin1r Tryz.results125 ⟨rfl,rfl⟩ ⟨rfl,c⟩)
theorem sparseref06_Finite_ok {m:LI} {g:Hdr} {out:Bool} (h:sparseref06_Finite m=some out) (i:imm (rI .u64) g.v m∈ros) (c:St w0 ros rs w):
  Calls Tryz.prog 105 #[g.v] w (fun e w=>e=.returned (.bool out)∧St w0 ros rs w):=by
 refine enterQ Tryz.func105 rfl Tryz.ntmps105 rfl fun Q n=>sR fun _ u=>Ya (.bool false) rfl (wK u (seqQ fun N x y=>sR fun _ z=>Ya (iV 0) rfl (wK z (blockQ fun _ o=>bE h fun O A h=>?_))))
 refine loopQ (fun s a w=>∃ (d:Int) (f:FV),d=s∧a=fr 16 f∧f 0=g.v∧f 3=iV d∧St w0 ros rs w) A ⟨_,_,rfl,rfl,rfl,rfl,c⟩ ?_
 rintro _ _ w R ⟨d,f,rfl,rfl,j,k,c⟩ b p S B q
 refine seqQ fun T C D=>sR fun _ E=>Ym (iV d) (eh k) (Ym g.v (eh j) (yY (yLen SL_89 e0 c (rdI i)) (yY (ylss e0 e0) (wK E ?_))))
 refine cIf e0 b (fun F b=>?_) fun F b=>?_
 ·refine wp_skip (C _ _ (seqQ fun U G H=>blockQ fun _ r=>sR fun _ I=>Ym g.v (eh j) (Ym (iV d) (eh k) (bE b fun V t b=>yY (yIa SL_89 e0 e0 c (rdI i) t) (yY (yI O_82 e0 c (rdI i) t) (bE b fun W J b=>yC (yCall FN_125 (a1 e0)) (sparseref03_IsFinite_ok J c) ?_))))))
  rintro _ w ⟨rfl,c⟩
  refine ⟨_,rfl,?_⟩
  refine yY (ynot e0) (wK I ?_)
  rcases iteS b with ⟨l,b⟩ | ⟨l,b⟩
  ·refine condF e0 (nF l) (wp_skip (r _ _ _ (G _ _ (wR (Ym (iV d) (eh k) (yY (yadd e0 rfl) (Ya (iV (wa .i64 d 1)) e0 (wN ?_))))))))
   cases b
   exact B _ _ _ rfl ⟨_,_,rfl,rfl,j,rfl,c⟩
  refine condT e0 (nT (bfalse l)) (sR fun _ K=>Ya (.bool false) rfl (wK K (wp_ret (r _ _ _ (H _ _ _ rfl ?_)))))
  cases b
  refine q _ _ _ _ rfl rfl ?_
  obtain rfl:=p _ rfl
  refine o _ _ _ (y _ _ _ rfl ?_)
  cases h
  exact n _ _ _ (fin1r Tryz.results105 ⟨rfl,rfl⟩ ⟨rfl,c⟩)
 refine wp_exit (D _ _ _ rfl ?_)
 cases b
 refine q _ _ _ _ rfl rfl ?_
 obtain rfl:=p _ rfl
 refine o _ _ _ (x _ _ (sR fun _ L=>Ya (.bool true) rfl (wK L (wp_ret ?_))))
 cases h
 exact n _ _ _ (fin1r Tryz.results105 ⟨rfl,rfl⟩ ⟨rfl,c⟩)
theorem sparseref09_Check_ok {c g:Int} {a2 A W:LI} {l j y:Hdr} {out:Int} (k:sparseref09_Check c g a2 A W=some out) (u:imm I1 l.v a2∈ros) (o:imm I1 j.v A∈ros) (b8:imm (rI .u64) y.v W∈ros) (b:St w0 ros rs w):
  Calls Tryz.prog 87 #[.agg #[iV c,iV g,l.v,j.v,y.v]] w (fun e w=>e=.returned (iV out)∧St w0 ros rs w):=by
 refine enterQ Tryz.func87 rfl Tryz.ntmps87 rfl fun Q X=>sR fun _ f4=>yBb (r_box (vals:=[iV c,iV g,l.v,j.v,y.v]) b e0 rfl) fun m w b=>Ya (iV 0) rfl (wK f4 (seqQ fun p1 f5 f6=>sR fun _ f7=>yY (yFb FL_91_0 e0) (yY (lb_ (iV c) O_3 e0 b R0) (yY (ylss e0 rfl) ?_))))
 refine Ym (.bool (decide (c < 0))) e0 ?_
 refine joinW 4 (fun f w=>f 1=(pB m)∧f 14=.bool ((decide (c < 0)) || (decide ((200:Int) < c)))∧St w0 ros (box m 91 [iV c,iV g,l.v,j.v,y.v]::rs) w) (fun c0=>?_) ?_
 ·rcases Bool.eq_false_or_eq_true (decide (c < 0)) with F | F
  ·exact gN F (gN F (gN F (yY (pt_ (.bool true) e0 F rfl) (c0 _ _ ⟨rfl,(congrArg Value.bool (orT F)),b⟩))))
  exact yG F (yFb FL_91_0 e0) (yG F (lb_ (iV c) O_3 e0 b R0) (yG F (ygtr e0 rfl) (yY (pf_ (.bool (decide ((200:Int) < c))) e0 F e0) (c0 _ _ ⟨rfl,(congrArg Value.bool (orF F)),b⟩))))
 rintro f w ⟨b1,f8,b⟩
 refine Ym (.bool ((decide (c < 0)) || (decide ((200:Int) < c)))) (eh f8) ?_
 refine joinW 4 (fun f w=>f 1=(pB m)∧f 19=.bool (((decide (c < 0)) || (decide ((200:Int) < c))) || (decide (g < 0)))∧St w0 ros (box m 91 [iV c,iV g,l.v,j.v,y.v]::rs) w) (fun c1=>?_) ?_
 ·rcases Bool.eq_false_or_eq_true ((decide (c < 0)) || (decide ((200:Int) < c))) with G | G
  ·exact gN G (gN G (gN G (yY (pt_ (.bool true) e0 G rfl) (c1 _ _ ⟨b1,(congrArg Value.bool (orT G)),b⟩))))
  exact yG G (yFb FL_91_1 (eh b1)) (yG G (lb_ (iV g) O_3 e0 b R0) (yG G (ylss e0 rfl) (yY (pf_ (.bool (decide (g < 0))) e0 G e0) (c1 _ _ ⟨b1,(congrArg Value.bool (orF G)),b⟩))))
 rintro f w ⟨b2,f9,b⟩
 refine Ym (.bool (((decide (c < 0)) || (decide ((200:Int) < c))) || (decide (g < 0)))) (eh f9) ?_
 refine joinW 4 (fun f w=>f 1=(pB m)∧f 24=.bool ((((decide (c < 0)) || (decide ((200:Int) < c))) || (decide (g < 0))) || (decide ((200:Int) < g)))∧St w0 ros (box m 91 [iV c,iV g,l.v,j.v,y.v]::rs) w) (fun c2=>?_) ?_
 ·rcases Bool.eq_false_or_eq_true (((decide (c < 0)) || (decide ((200:Int) < c))) || (decide (g < 0))) with H | H
  ·exact gN H (gN H (gN H (yY (pt_ (.bool true) e0 H rfl) (c2 _ _ ⟨b2,(congrArg Value.bool (orT H)),b⟩))))
  exact yG H (yFb FL_91_1 (eh b2)) (yG H (lb_ (iV g) O_3 e0 b R0) (yG H (ygtr e0 rfl) (yY (pf_ (.bool (decide ((200:Int) < g))) e0 H e0) (c2 _ _ ⟨b2,(congrArg Value.bool (orF H)),b⟩))))
 rintro f w ⟨b3,g0,b⟩
 refine Ym (.bool ((((decide (c < 0)) || (decide ((200:Int) < c))) || (decide (g < 0))) || (decide ((200:Int) < g)))) (eh g0) ?_
 refine joinW 5 (fun f w=>f 1=(pB m)∧f 30=.bool (((((decide (c < 0)) || (decide ((200:Int) < c))) || (decide (g < 0))) || (decide ((200:Int) < g))) || (decide ((10000:Int) < (A.length:Int))))∧St w0 ros (box m 91 [iV c,iV g,l.v,j.v,y.v]::rs) w) (fun c3=>?_) ?_
 ·rcases Bool.eq_false_or_eq_true ((((decide (c < 0)) || (decide ((200:Int) < c))) || (decide (g < 0))) || (decide ((200:Int) < g))) with B | B
  ·exact gN B (gN B (gN B (gN B (yY (pt_ (.bool true) e0 B rfl) (c3 _ _ ⟨b3,(congrArg Value.bool (orT B)),b⟩)))))
  exact yG B (yFb FL_91_3 (eh b3)) (yG B (lb_ j.v O_22 e0 b R0) (yG B (yLen SL_22 e0 b (rdI o)) (yG B (ygtr e0 rfl) (yY (pf_ (.bool (decide ((10000:Int) < (A.length:Int)))) e0 B e0) (c3 _ _ ⟨b3,(congrArg Value.bool (orF B)),b⟩)))))
 rintro f w ⟨Z,g1,b⟩
 refine wK f7 (cB (eh g1) k (fun g2 k=>?_) fun g2 k=>?_)
 ·refine sR fun _ g3=>Ya (iV 6) rfl (wK g3 (wp_ret (f6 _ _ _ rfl ?_)))
  cases k
  exact X _ _ _ (fin1r Tryz.results87 ⟨rfl,rfl⟩ ⟨rfl,(b.pk 1 [] rfl)⟩)
 refine wp_skip (f5 _ _ (sR fun _ g4=>yY (yFb FL_91_3 (eh Z)) (yY (lb_ j.v O_22 e0 b R0) (yY (yLen SL_22 e0 b (rdI o)) (Ya (iV (A.length:Int)) e0 (wK g4 (seqQ fun p2 g5 g6=>sR fun _ g7=>yY (yFb FL_91_4 (eh Z)) ?_)))))))
 refine yY (lb_ y.v O_89 e0 b R0) (yY (yLen SL_89 e0 b (rdI b8)) (Ym (iV (A.length:Int)) e0 (yY (yneq e0 e0) (Ym (.bool (!(decide ((W.length:Int)=(A.length:Int))))) e0 ?_))))
 refine joinW 8 (fun f w=>f 1=(pB m)∧f 3=iV (A.length:Int)∧f 47=.bool ((!(decide ((W.length:Int)=(A.length:Int)))) || (!(decide ((a2.length:Int)=(wa .i64 g 1)))))∧St w0 ros (box m 91 [iV c,iV g,l.v,j.v,y.v]::rs) w) (fun c4=>?_) ?_
 ·rcases Bool.eq_false_or_eq_true (!(decide ((W.length:Int)=(A.length:Int)))) with r | r
  ·exact gN r (gN r (gN r (gN r (gN r (gN r (gN r (yY (pt_ (.bool true) e0 r rfl) (c4 _ _ ⟨Z,rfl,(congrArg Value.bool (orT r)),b⟩))))))))
  exact yG r (yFb FL_91_2 (eh Z)) (yG r (lb_ l.v O_22 e0 b R0) (yG r (yLen SL_22 e0 b (rdI u)) (yG r (yFb FL_91_1 (eh Z)) (yG r (lb_ (iV g) O_3 e0 b R0) (yG r (yadd e0 rfl) (yG r (yneq e0 e0) (yY (pf_ (.bool (!(decide ((a2.length:Int)=(wa .i64 g 1))))) e0 r e0) (c4 _ _ ⟨Z,rfl,(congrArg Value.bool (orF r)),b⟩))))))))
 rintro f w ⟨b4,c5,g8,b⟩
 refine Ym (.bool ((!(decide ((W.length:Int)=(A.length:Int)))) || (!(decide ((a2.length:Int)=(wa .i64 g 1)))))) (eh g8) (bE k fun c6 T k=>?_)
 refine joinW 6 (fun f w=>f 1=(pB m)∧f 3=iV (A.length:Int)∧f 54=.bool c6∧St w0 ros (box m 91 [iV c,iV g,l.v,j.v,y.v]::rs) w) (fun c7=>?_) ?_
 ·rcases iteS T with ⟨C,T⟩ | ⟨C,T⟩
  ·refine gN C (gN C (gN C (gN C (gN C (yY (pt_ (.bool true) e0 C rfl) ?_)))))
   cases T
   exact c7 _ _ ⟨b4,c5,rfl,b⟩
  refine yG (bfalse C) (yFb FL_91_2 (eh b4)) (yG (bfalse C) (lb_ l.v O_22 e0 b R0) (bE T fun g9 c8 T=>yG (bfalse C) (yIa SL_22 e0 rfl b (rdI u) c8) (yG (bfalse C) (yI O_3 e0 b (rdI u) c8) (yG (bfalse C) (yneq e0 rfl) (yY (pf_ (.bool (!(decide (g9=0)))) e0 (bfalse C) e0) ?_)))))
  cases T
  exact c7 _ _ ⟨b4,c5,rfl,b⟩
 rintro f w ⟨a5,h0,h1,b⟩
 refine Ym (.bool c6) (eh h1) (bE k fun h2 U k=>?_)
 refine joinW 9 (fun f w=>f 1=(pB m)∧f 64=.bool h2∧St w0 ros (box m 91 [iV c,iV g,l.v,j.v,y.v]::rs) w) (fun c9=>?_) ?_
 ·rcases iteS U with ⟨t,U⟩ | ⟨t,U⟩
  ·refine gN t (gN t (gN t (gN t (gN t (gN t (gN t (gN t (yY (pt_ (.bool true) e0 t rfl) ?_))))))))
   cases U
   exact c9 _ _ ⟨a5,rfl,b⟩
  refine yG (bfalse t) (yFb FL_91_2 (eh a5)) (yG (bfalse t) (lb_ l.v O_22 e0 b R0) (yG (bfalse t) (yFb FL_91_1 (eh a5)) (yG (bfalse t) (lb_ (iV g) O_3 e0 b R0) (bE U fun h3 d0 U=>yG (bfalse t) (yIa SL_22 e0 e0 b (rdI u) d0) (yG (bfalse t) (yI O_3 e0 b (rdI u) d0) (yG (bfalse t) (m_ (iV (A.length:Int)) (eh h0)) (yG (bfalse t) (yneq e0 e0) (yY (pf_ (.bool (!(decide (h3=(A.length:Int))))) e0 (bfalse t) e0) ?_))))))))
  cases U
  exact c9 _ _ ⟨a5,rfl,b⟩
 rintro f w ⟨h5,h7,b⟩
 refine wK g7 (cB (eh h7) k (fun h9 k=>?_) fun h9 k=>?_)
 ·refine sR fun _ i0=>Ya (iV 1) rfl (wK i0 (wp_ret (g6 _ _ _ rfl ?_)))
  cases k
  exact X _ _ _ (fin1r Tryz.results87 ⟨rfl,rfl⟩ ⟨rfl,(b.pk 1 [] rfl)⟩)
 refine wp_skip (g5 _ _ (seqQ fun p3 i1 i2=>sR fun _ i3=>Ya (iV 0) rfl (wK i3 (blockQ fun _ d1=>bE k fun p4 i4 k=>?_))))
 refine loopQ (fun s a w=>∃ (O:Int) (f:FV),O=s∧a=fr 147 f∧f 1=(pB m)∧f 4=iV O∧St w0 ros (box m 91 [iV c,iV g,l.v,j.v,y.v]::rs) w) i4 ⟨_,_,rfl,rfl,h5,rfl,b⟩ ?_
 rintro _ _ w p5 ⟨O,f,rfl,rfl,a3,a6,b⟩ D d2 p6 i5 d3
 refine seqQ fun p7 i6 i7=>sR fun _ i8=>Ym (iV O) (eh a6) (yY (yFb FL_91_1 (eh a3)) (yY (lb_ (iV g) O_3 e0 b R0) (yY (ylss e0 e0) (wK i8 ?_))))
 refine cIf e0 D (fun i9 D=>?_) fun i9 D=>?_
 ·refine wp_skip (i6 _ _ (seqQ fun p8 j0 j8=>blockQ fun _ d4=>sQ fun _ j9=>bE D fun p9 d5 D=>bE D fun q0 d6 D=>dR [0,1,0,7,15,0,32,0,128,480,992,2047] [] 0 folM ?_))
  replace b:=b.drew
  refine Dz [0,1,2,3,4,5,6,7,8,9,10,11] [] (yR rfl (yFb FL_91_2 (eh a3)) (yR rfl (lb_ l.v O_22 e0 b R0) (yR rfl (m_ (iV O) (eh a6)) (yR rfl (yIa SL_22 e0 e0 b (rdI u) d5) (yR rfl (yI O_3 e0 b (rdI u) d5) (yR rfl (yFb FL_91_2 (eh a3)) (yR rfl (lb_ l.v O_22 e0 b R0) (yR rfl (m_ (iV O) (eh a6)) (yR rfl (yadd e0 rfl) (yR rfl (yIa SL_22 e0 e0 b (rdI u) d6) (yR rfl (yI O_3 e0 b (rdI u) d6) (yR rfl (ygtr e0 e0) (Rn QSn ?_)))))))))))))
  refine j9 _ _ ?_
  refine cIf e0 D (fun k0 D=>?_) fun k0 D=>?_
  ·refine sR fun _ l0=>Ya (iV 1) rfl (wK l0 (wp_ret (d4 _ _ _ (j8 _ _ _ rfl ?_))))
   cases D
   refine d3 _ _ _ _ rfl rfl ?_
   obtain rfl:=d2 _ rfl
   refine d1 _ _ _ (i2 _ _ _ rfl ?_)
   cases k
   exact X _ _ _ (fin1r Tryz.results87 ⟨rfl,rfl⟩ ⟨rfl,(b.pk 1 [] rfl)⟩)
  refine wp_skip (d4 _ _ _ (j0 _ _ (wR (Ym (iV O) (eh a6) (yY (yadd e0 rfl) (Ya (iV (wa .i64 O 1)) e0 (wN ?_)))))))
  cases D
  exact i5 _ _ _ rfl ⟨_,_,rfl,rfl,a3,rfl,b⟩
 refine wp_exit (i7 _ _ _ rfl ?_)
 cases D
 refine d3 _ _ _ _ rfl rfl ?_
 obtain rfl:=d2 _ rfl
 refine d1 _ _ _ (i1 _ _ (seqQ fun q4 l1 l2=>sR fun _ l3=>Ya (iV 0) rfl (wK l3 (blockQ fun _ d7=>bE k fun q5 l4 k=>?_))))
 refine loopQ (fun s a w=>∃ (E:Int) (f:FV),E=s∧a=fr 147 f∧f 1=(pB m)∧f 5=iV E∧St w0 ros (box m 91 [iV c,iV g,l.v,j.v,y.v]::rs) w) l4 ⟨_,_,rfl,rfl,a3,rfl,b⟩ ?_
 rintro _ _ w q6 ⟨E,f,rfl,rfl,a7,b5,b⟩ K d8 q7 l5 d9
 refine seqQ fun q8 l6 l7=>sR fun _ l8=>Ym (iV E) (eh b5) (yY (yFb FL_91_1 (eh a7)) (yY (lb_ (iV g) O_3 e0 b R0) (yY (ylss e0 e0) (wK l8 ?_))))
 refine cIf e0 K (fun l9 K=>?_) fun l9 K=>?_
 ·refine wp_skip (l6 _ _ (seqQ fun q9 m0 m1=>blockQ fun _ e1=>sR fun _ m2=>yY (yFb FL_91_2 (eh a7)) (yY (lb_ l.v O_22 e0 b R0) (Ym (iV E) (eh b5) (bE K fun m3 e2 K=>yY (yIa SL_22 e0 e0 b (rdI u) e2) (yY (yI O_3 e0 b (rdI u) e2) (Ya (iV m3) e0 (wN ?_))))))))
  refine m2 _ _ (blockQ fun _ e3=>bE K fun r0 m4 K=>?_)
  refine loopQ (fun s a w=>∃ (p:Int) (f:FV),p=s∧a=fr 147 f∧f 1=(pB m)∧f 5=iV E∧f 6=iV p∧St w0 ros (box m 91 [iV c,iV g,l.v,j.v,y.v]::rs) w) m4 ⟨_,_,rfl,rfl,a7,b5,rfl,b⟩ ?_
  rintro _ _ w r1 ⟨p,f,rfl,rfl,q,R,z,b⟩ x e4 r2 m5 e5
  refine seqQ fun r3 m6 m7=>sR fun _ m8=>Ym (iV p) (eh z) (yY (yFb FL_91_2 (eh q)) (yY (lb_ l.v O_22 e0 b R0) (Ym (iV E) (eh R) (yY (yadd e0 rfl) (bE x fun r4 e6 x=>yY (yIa SL_22 e0 e0 b (rdI u) e6) (yY (yI O_3 e0 b (rdI u) e6) (yY (ylss e0 e0) (wK m8 ?_))))))))
  refine cIf e0 x (fun m9 x=>?_) fun m9 x=>?_
  ·refine wp_skip (m6 _ _ (seqQ fun r5 n0 n1=>blockQ fun _ e7=>sQ fun _ n2=>bE x fun a8 S x=>bE x fun L V x=>bE x fun a4 I x=>?_))
   refine joinN (n:=147) (fun f w=>f 1=(pB m)∧f 5=iV E∧f 6=iV p∧f 142=.bool a4∧St w0 ros (box m 91 [iV c,iV g,l.v,j.v,y.v]::rs) w) (fun a9=>?_) ?_
   ·rcases iteS V with ⟨d,V⟩ | ⟨d,V⟩
    ·have e8:=someI V
     have J:L=true:=e8.symm
     rw [if_pos J] at I
     have n3:=someI I
     refine dR [0,1,0,7,15,31,63,127,255,127,1023,2047,127,4223,16383,32767,65535,131071,131071,393215,131071,1966079,4063231,8388607,16777215,33554431,67108863,33554431,268435455,536870911,33554431,1107296255,33554431,4328521727,16139681791,33319550975,68719476735,137438953471,274877906943] [] 0 folM ?_
     replace b:=b.drew
     refine Dz [0,1,2,3,4,5,6,7,8,9,10,11,12,13,14,15,16,17,18,19,20,21,22,23,24,25,26,27,28,29,30,31,32,33,34,35,36,37,38] [] (yR rfl (yFb FL_91_3 (eh q)) (yR rfl (lb_ j.v O_22 e0 b R0) (yR rfl (m_ (iV p) (eh z)) (yR rfl (yIa SL_22 e0 e0 b (rdI o) S) (yR rfl (yI O_3 e0 b (rdI o) S) (yR rfl (ylss e0 rfl) (yR rfl (m_ (.bool (decide (a8 < 0))) e0) (Rx rfl rfl (wX (dT d)) (Rx rfl rfl (wX (dT d)) (Rx rfl rfl (wX (dT d)) (Rx rfl rfl (wX (dT d)) (Rx rfl rfl (wX (dT d)) (Rx rfl rfl (wX (dT d)) ?_)))))))))))))
     refine Rx rfl rfl (wX (dT d)) (Rx rfl rfl (wX (dT d)) (yR rfl (pt_ (.bool L) e0 (dT d) (eqv e8 rfl)) (yR rfl (m_ (.bool L) e0) (Rx rfl rfl (wX J) (Rx rfl rfl (wX J) (Rx rfl rfl (wX J) (Rx rfl rfl (wX J) (Rx rfl rfl (wX J) (Rx rfl rfl (wX J) (Rx rfl rfl (wX J) (Rx rfl rfl (wX J) (Rx rfl rfl (wxu rfl rfl rfl) (Rx rfl rfl (wxu rfl rfl rfl) ?_)))))))))))))
     exact Rx rfl rfl (wxu rfl rfl rfl) (Rx rfl rfl (wxu rfl rfl rfl) (Rx rfl rfl (wxu rfl rfl rfl) (Rx rfl rfl (wxu rfl rfl rfl) (Rx rfl rfl (wxu rfl rfl rfl) (Rx rfl rfl (wxu rfl rfl rfl) (Rx rfl rfl (wxu rfl rfl rfl) (Rx rfl rfl (wxu rfl rfl rfl) (Rx rfl rfl (wxu rfl rfl rfl) (Rx rfl rfl (wxu rfl rfl rfl) (Rx rfl rfl (wX J) (yR rfl (pt_ (.bool a4) e0 J (eqv n3 rfl)) (Rn QSn (a9 _ _ ⟨q,R,z,rfl,b⟩)))))))))))))
    refine bE V fun r6 a0 V=>?_
    have b6:=someI V
    rcases iteS I with ⟨h,I⟩ | ⟨h,I⟩
    ·have n4:=someI I
     refine dR [0,1,0,7,15,31,63,127,255,127,1023,2047,127,4223,16383,32767,65535,131071,131071,393215,131071,1966079,4063231,8388607,16777215,33554431,67108863,33554431,268435455,536870911,33554431,1107296255,33554431,4328521727,16139681791,33319550975,68719476735,137438953471,274877906943] [] 0 folM ?_
     replace b:=b.drew
     refine Dz [0,1,2,3,4,5,6,7,8,9,10,11,12,13,14,15,16,17,18,19,20,21,22,23,24,25,26,27,28,29,30,31,32,33,34,35,36,37,38] [] (yR rfl (yFb FL_91_3 (eh q)) (yR rfl (lb_ j.v O_22 e0 b R0) (yR rfl (m_ (iV p) (eh z)) (yR rfl (yIa SL_22 e0 e0 b (rdI o) S) (yR rfl (yI O_3 e0 b (rdI o) S) (yR rfl (ylss e0 rfl) (yR rfl (m_ (.bool (decide (a8 < 0))) e0) (Ry rfl rfl (wG (dF d)) (yFb FL_91_3 (eh q)) (Ry rfl rfl (wG (dF d)) (lb_ j.v O_22 e0 b R0) (Ry rfl rfl (wG (dF d)) (m_ (iV p) (eh z)) (Ry rfl rfl (wG (dF d)) (yIa SL_22 e0 e0 b (rdI o) a0) (Ry rfl rfl (wG (dF d)) (yI O_3 e0 b (rdI o) a0) (Ry rfl rfl (wG (dF d)) (yFb FL_91_0 (eh q)) ?_)))))))))))))
     refine Ry rfl rfl (wG (dF d)) (lb_ (iV c) O_3 e0 b R0) (Ry rfl rfl (wG (dF d)) (ygeq e0 e0) (yR rfl (pf_ (.bool L) e0 (dF d) (eqv b6 e0)) (yR rfl (m_ (.bool L) e0) (Rx rfl rfl (wX h) (Rx rfl rfl (wX h) (Rx rfl rfl (wX h) (Rx rfl rfl (wX h) (Rx rfl rfl (wX h) (Rx rfl rfl (wX h) (Rx rfl rfl (wX h) (Rx rfl rfl (wX h) (Rx rfl rfl (wxu rfl rfl rfl) (Rx rfl rfl (wxu rfl rfl rfl) ?_)))))))))))))
     exact Rx rfl rfl (wxu rfl rfl rfl) (Rx rfl rfl (wxu rfl rfl rfl) (Rx rfl rfl (wxu rfl rfl rfl) (Rx rfl rfl (wxu rfl rfl rfl) (Rx rfl rfl (wxu rfl rfl rfl) (Rx rfl rfl (wxu rfl rfl rfl) (Rx rfl rfl (wxu rfl rfl rfl) (Rx rfl rfl (wxu rfl rfl rfl) (Rx rfl rfl (wxu rfl rfl rfl) (Rx rfl rfl (wxu rfl rfl rfl) (Rx rfl rfl (wX h) (yR rfl (pt_ (.bool a4) e0 h (eqv n4 rfl)) (Rn QSn (a9 _ _ ⟨q,R,z,rfl,b⟩)))))))))))))
    refine bE I fun e9 b0 I=>bE I fun f0 N I=>?_
    have f1:=someI I
    rcases iteS N with ⟨i,N⟩ | ⟨i,N⟩
    ·refine bE N fun r7 f2 N=>bE N fun r8 f3 N=>?_
     have n5:=someI N
     refine dR [0,1,0,7,15,31,63,127,255,127,1023,2047,127,4223,16383,32767,65535,131071,131071,393215,131071,1966079,4063231,8388607,16777215,33554431,67108863,33554431,268435455,536870911,33554431,1107296255,33554431,4328521727,16139681791,33319550975,68719476735,137438953471,274877906943] [] 0 folM ?_
     replace b:=b.drew
     refine Dz [0,1,2,3,4,5,6,7,8,9,10,11,12,13,14,15,16,17,18,19,20,21,22,23,24,25,26,27,28,29,30,31,32,33,34,35,36,37,38] [] (yR rfl (yFb FL_91_3 (eh q)) (yR rfl (lb_ j.v O_22 e0 b R0) (yR rfl (m_ (iV p) (eh z)) (yR rfl (yIa SL_22 e0 e0 b (rdI o) S) (yR rfl (yI O_3 e0 b (rdI o) S) (yR rfl (ylss e0 rfl) (yR rfl (m_ (.bool (decide (a8 < 0))) e0) (Ry rfl rfl (wG (dF d)) (yFb FL_91_3 (eh q)) (Ry rfl rfl (wG (dF d)) (lb_ j.v O_22 e0 b R0) (Ry rfl rfl (wG (dF d)) (m_ (iV p) (eh z)) (Ry rfl rfl (wG (dF d)) (yIa SL_22 e0 e0 b (rdI o) a0) (Ry rfl rfl (wG (dF d)) (yI O_3 e0 b (rdI o) a0) (Ry rfl rfl (wG (dF d)) (yFb FL_91_0 (eh q)) ?_)))))))))))))
     refine Ry rfl rfl (wG (dF d)) (lb_ (iV c) O_3 e0 b R0) (Ry rfl rfl (wG (dF d)) (ygeq e0 e0) (yR rfl (pf_ (.bool L) e0 (dF d) (eqv b6 e0)) (yR rfl (m_ (.bool L) e0) (Ry rfl rfl (wG (bfalse h)) (m_ (iV p) (eh z)) (Ry rfl rfl (wG (bfalse h)) (yFb FL_91_2 (eh q)) (Ry rfl rfl (wG (bfalse h)) (lb_ l.v O_22 e0 b R0) (Ry rfl rfl (wG (bfalse h)) (m_ (iV E) (eh R)) (Ry rfl rfl (wG (bfalse h)) (yIa SL_22 e0 e0 b (rdI u) b0) (Ry rfl rfl (wG (bfalse h)) (yI O_3 e0 b (rdI u) b0) (Ry rfl rfl (wG (bfalse h)) (ygtr e0 e0) (Ry rfl rfl (wG (bfalse h)) (m_ (.bool (decide (e9 < p))) e0) (Ry rfl rfl (wG (dT i)) (yFb FL_91_3 (eh q)) (Ry rfl rfl (wG (dT i)) (lb_ j.v O_22 e0 b R0) ?_)))))))))))))
     exact Ry rfl rfl (wG (dT i)) (m_ (iV p) (eh z)) (Ry rfl rfl (wG (dT i)) (yIa SL_22 e0 e0 b (rdI o) f2) (Ry rfl rfl (wG (dT i)) (yI O_3 e0 b (rdI o) f2) (Ry rfl rfl (wG (dT i)) (yFb FL_91_3 (eh q)) (Ry rfl rfl (wG (dT i)) (lb_ j.v O_22 e0 b R0) (Ry rfl rfl (wG (dT i)) (m_ (iV p) (eh z)) (Ry rfl rfl (wG (dT i)) (ysub e0 rfl) (Ry rfl rfl (wG (dT i)) (yIa SL_22 e0 e0 b (rdI o) f3) (Ry rfl rfl (wG (dT i)) (yI O_3 e0 b (rdI o) f3) (Ry rfl rfl (wG (dT i)) (yleq e0 e0) (Ry rfl rfl (wG (bfalse h)) (pt_ (.bool f0) e0 (dT i) (eqv n5 e0)) (yR rfl (pf_ (.bool a4) e0 (bfalse h) (eqv f1 e0)) (Rn QSn (a9 _ _ ⟨q,R,z,rfl,b⟩)))))))))))))
    have n6:=someI N
    refine dR [0,1,0,7,15,31,63,127,255,127,1023,2047,127,4223,16383,32767,65535,131071,131071,393215,131071,1966079,4063231,8388607,16777215,33554431,67108863,33554431,268435455,536870911,33554431,1107296255,33554431,4328521727,16139681791,33319550975,68719476735,137438953471,274877906943] [] 0 folM ?_
    replace b:=b.drew
    refine Dz [0,1,2,3,4,5,6,7,8,9,10,11,12,13,14,15,16,17,18,19,20,21,22,23,24,25,26,27,28,29,30,31,32,33,34,35,36,37,38] [] (yR rfl (yFb FL_91_3 (eh q)) (yR rfl (lb_ j.v O_22 e0 b R0) (yR rfl (m_ (iV p) (eh z)) (yR rfl (yIa SL_22 e0 e0 b (rdI o) S) (yR rfl (yI O_3 e0 b (rdI o) S) (yR rfl (ylss e0 rfl) (yR rfl (m_ (.bool (decide (a8 < 0))) e0) (Ry rfl rfl (wG (dF d)) (yFb FL_91_3 (eh q)) (Ry rfl rfl (wG (dF d)) (lb_ j.v O_22 e0 b R0) (Ry rfl rfl (wG (dF d)) (m_ (iV p) (eh z)) (Ry rfl rfl (wG (dF d)) (yIa SL_22 e0 e0 b (rdI o) a0) (Ry rfl rfl (wG (dF d)) (yI O_3 e0 b (rdI o) a0) (Ry rfl rfl (wG (dF d)) (yFb FL_91_0 (eh q)) ?_)))))))))))))
    refine Ry rfl rfl (wG (dF d)) (lb_ (iV c) O_3 e0 b R0) (Ry rfl rfl (wG (dF d)) (ygeq e0 e0) (yR rfl (pf_ (.bool L) e0 (dF d) (eqv b6 e0)) (yR rfl (m_ (.bool L) e0) (Ry rfl rfl (wG (bfalse h)) (m_ (iV p) (eh z)) (Ry rfl rfl (wG (bfalse h)) (yFb FL_91_2 (eh q)) (Ry rfl rfl (wG (bfalse h)) (lb_ l.v O_22 e0 b R0) (Ry rfl rfl (wG (bfalse h)) (m_ (iV E) (eh R)) (Ry rfl rfl (wG (bfalse h)) (yIa SL_22 e0 e0 b (rdI u) b0) (Ry rfl rfl (wG (bfalse h)) (yI O_3 e0 b (rdI u) b0) (Ry rfl rfl (wG (bfalse h)) (ygtr e0 e0) (Ry rfl rfl (wG (bfalse h)) (m_ (.bool (decide (e9 < p))) e0) (Rx rfl rfl (wX (dF i)) (Rx rfl rfl (wX (dF i)) ?_)))))))))))))
    exact Rx rfl rfl (wX (dF i)) (Rx rfl rfl (wX (dF i)) (Rx rfl rfl (wX (dF i)) (Rx rfl rfl (wX (dF i)) (Rx rfl rfl (wX (dF i)) (Rx rfl rfl (wX (dF i)) (Rx rfl rfl (wX (dF i)) (Rx rfl rfl (wX (dF i)) (Rx rfl rfl (wX (dF i)) (Rx rfl rfl (wX (dF i)) (Ry rfl rfl (wG (bfalse h)) (pf_ (.bool f0) e0 (dF i) (eqv n6 rfl)) (yR rfl (pf_ (.bool a4) e0 (bfalse h) (eqv f1 e0)) (Rn QSn (a9 _ _ ⟨q,R,z,rfl,b⟩)))))))))))))
   rintro f w ⟨n7,n9,o0,o1,b⟩
   refine n2 _ _ (cB (eh o1) x (fun o2 x=>?_) fun o2 x=>?_)
   ·refine sR fun _ o3=>Ya (iV 1) rfl (wK o3 (wp_ret (e7 _ _ _ (n1 _ _ _ rfl ?_))))
    cases x
    refine e5 _ _ _ _ rfl rfl ?_
    obtain rfl:=e4 _ rfl
    refine e3 _ _ _ (e1 _ _ _ (m1 _ _ _ rfl ?_))
    cases K
    refine d9 _ _ _ _ rfl rfl ?_
    obtain rfl:=d8 _ rfl
    refine d7 _ _ _ (l2 _ _ _ rfl ?_)
    cases k
    exact X _ _ _ (fin1r Tryz.results87 ⟨rfl,rfl⟩ ⟨rfl,(b.pk 1 [] rfl)⟩)
   refine wp_skip (e7 _ _ _ (n0 _ _ (wR (Ym (iV p) (eh o0) (yY (yadd e0 rfl) (Ya (iV (wa .i64 p 1)) e0 (wN ?_)))))))
   cases x
   exact m5 _ _ _ rfl ⟨_,_,rfl,rfl,n7,n9,rfl,b⟩
  refine wp_exit (m7 _ _ _ rfl ?_)
  cases x
  refine e5 _ _ _ _ rfl rfl ?_
  obtain rfl:=e4 _ rfl
  refine e3 _ _ _ (e1 _ _ _ (m0 _ _ (wR (Ym (iV E) (eh R) (yY (yadd e0 rfl) (Ya (iV (wa .i64 E 1)) e0 (wN ?_)))))))
  cases K
  exact l5 _ _ _ rfl ⟨_,_,rfl,rfl,q,rfl,b⟩
 refine wp_exit (l7 _ _ _ rfl ?_)
 cases K
 refine d9 _ _ _ _ rfl rfl ?_
 obtain rfl:=d8 _ rfl
 refine d7 _ _ _ (l1 _ _ (seqQ fun r9 o4 o5=>sR fun _ o6=>yY (yFb FL_91_4 (eh a7)) (yY (lb_ y.v O_89 e0 b R0) (bE k fun s0 o7 k=>yC (yCall FN_105 (a1 e0)) (sparseref06_Finite_ok o7 b8 b) ?_))))
 rintro _ w ⟨rfl,b⟩
 refine ⟨_,rfl,?_⟩
 refine yY (ynot e0) (wK o6 ?_)
 rcases iteS k with ⟨b7,k⟩ | ⟨b7,k⟩
 ·refine condF e0 (nF b7) (wp_skip (o4 _ _ (sR fun _ o9=>Ya (iV 0) rfl (wK o9 (wp_ret ?_)))))
  cases k
  exact X _ _ _ (fin1r Tryz.results87 ⟨rfl,rfl⟩ ⟨rfl,(b.pk 1 [] rfl)⟩)
 refine condT e0 (nT (bfalse b7)) (sR fun _ p0=>Ya (iV 4) rfl (wK p0 (wp_ret (o5 _ _ _ rfl ?_))))
 cases k
 exact X _ _ _ (fin1r Tryz.results87 ⟨rfl,rfl⟩ ⟨rfl,(b.pk 1 [] rfl)⟩)
theorem sparseref13_none_ok {h:Int} {out:LI} (i:sparseref13_none h=some out) (b:St w0 ros rs w):
  Calls Tryz.prog 106 #[iV h] w (fun e w=>∃ (k:Hdr),e=.returned (k.v)∧St w0 ros (row 3 I1 k.v out::rs) w):=by
 refine enterQ Tryz.func106 rfl Tryz.ntmps106 rfl fun Q q=>sR fun _ r=>Ya hnil.v rfl (wK r (sR fun _ t=>Ya hnil.v rfl (wK t (sQ fun _ u=>sR fun _ x=>?_))))
 refine Ya (iV 0) rfl (wK x (blockQ fun _ y=>bE i fun N z i=>?_))
 replace b:=b.rowNh 3 I1
 refine loopQ (fun s a w=>∃ (j:LI) (d:Int) (f:FV) (g:Hdr),(j,d)=s∧a=fr 14 f∧f 0=iV h∧f 3=g.v∧f 4=iV d∧St w0 ros (row 3 I1 g.v j::rs) w) z ⟨_,_,_,_,rfl,rfl,rfl,rfl,rfl,b⟩ ?_
 rintro _ _ w O ⟨j,d,f,g,rfl,rfl,m,o,p,b⟩ c A R B C
 refine seqQ fun S D E=>sR fun _ F=>Ym (iV d) (eh p) (Ym (iV h) (eh m) (yY (ylss e0 e0) (wK F ?_)))
 refine cIf e0 c (fun G c=>?_) fun G c=>?_
 ·refine wp_skip (D _ _ (sQ fun _ H=>blockQ fun _ I=>wR (Ym g.v (eh o) (yH (rLt (n:=1) (l:=[(-1)]) b SL_22 [iV (-1)] (bp1 rfl) rfl rfl (mks1 (cs:=[iV (-1)]) rfl mkI mks0)) fun T w b=>bE c fun U J c=>yH (rAp (b.pk 2 [1,0] rfl) SL_22 e0 e0 rO1 J) fun K w b=>Ya K.v e0 (wN (I _ _ _ ?_))))))
  refine H _ _ (wR (Ym (iV d) (eh p) (yY (yadd e0 rfl) (Ya (iV (wa .i64 d 1)) e0 (wN ?_)))))
  cases c
  exact B _ _ _ rfl ⟨_,_,_,_,rfl,rfl,m,rfl,rfl,(b.pk 2 [0] rfl)⟩
 refine wp_exit (E _ _ _ rfl ?_)
 cases c
 refine C _ _ _ _ rfl rfl ?_
 obtain rfl:=A _ rfl
 refine y _ _ _ (u _ _ (sR fun _ L=>Ym g.v (eh o) (Ya g.v e0 (wK L (wp_ret ?_)))))
 cases i
 exact q _ _ _ (fin1r Tryz.results106 ⟨rfl,rfl⟩ ⟨_,rfl,b⟩)
theorem sparseref13_Search_Try_step {rec:Int→Int→LI→LI→LI→LI→LI→(List Bool)→Int→Option (LI×LI×(List Bool)×Bool)} (b8:∀ {w0:World} {ros:List Fact} {rs:List Res} {w:World} {n o:Int} {z A B C D:LI} {E:List Bool} {k:Int} {d:Nat} {l m p h j i:Hdr} {out:LI×LI×(List Bool)×Bool} (u:rec n o z A B C D E k=some out) (y:imm I1 l.v z∈ros) (G:imm I1 m.v A∈ros) (a0:imm (rI .u64) p.v B∈ros) (b:St w0 ros (box d 133 [iV n,iV o,l.v,m.v,p.v,h.v,j.v,i.v]::row 3 I1 h.v C::row 3 I1 j.v D::row 4 rB i.v E::rs) w),Calls Tryz.prog 107 #[(pB d),iV k] w (fun e w=>e=.returned (.bool out.2.2.2)∧St w0 ros (row 3 I1 h.v out.1::row 3 I1 j.v out.2.1::row 4 rB i.v out.2.2.1::box d 133 [iV n,iV o,l.v,m.v,p.v,h.v,j.v,i.v]::rs) w)) {w0:World} {ros:List Fact} {rs:List Res} {w:World} {n o:Int} {z A B C D:LI} {E:List Bool} {k:Int} {d:Nat} {l m p h j i:Hdr} {out:LI×LI×(List Bool)×Bool} (u:sparseref13_Search_Try_body rec n o z A B C D E k=some out) (y:imm I1 l.v z∈ros) (G:imm I1 m.v A∈ros) (a0:imm (rI .u64) p.v B∈ros) (b:St w0 ros (box d 133 [iV n,iV o,l.v,m.v,p.v,h.v,j.v,i.v]::row 3 I1 h.v C::row 3 I1 j.v D::row 4 rB i.v E::rs) w):
  Calls Tryz.prog 107 #[(pB d),iV k] w (fun e w=>e=.returned (.bool out.2.2.2)∧St w0 ros (row 3 I1 h.v out.1::row 3 I1 j.v out.2.1::row 4 rB i.v out.2.2.1::box d 133 [iV n,iV o,l.v,m.v,p.v,h.v,j.v,i.v]::rs) w):=by
 refine enterQ Tryz.func107 rfl Tryz.ntmps107 rfl fun Q a1=>sR fun _ b9=>Ya (.bool false) rfl (wK b9 (seqQ fun f8 c0 c1=>sR fun _ c2=>Ym (pB d) e0 (yY (yn e0) (yY (yFb FL_133_0 e0) (yY (yFb FL_91_2 e0) (yY (lb_ l.v O_22 e0 b R0) ?_))))))
 refine Ym (iV k) e0 (bE u fun c3 a3 u=>yY (yIa SL_22 e0 e0 b (rdI y) a3) (yY (yI O_3 e0 b (rdI y) a3) (Ya (iV c3) e0 (wK c2 (blockQ fun c4 a4=>bE u fun c5 c6 u=>?_)))))
 have c7:∀ (K L:LI) (N:List Bool) (f:FV) w,f 4=.bool true→St w0 ros (row 3 I1 h.v K::row 3 I1 j.v L::row 4 rB i.v N::box d 133 [iV n,iV o,l.v,m.v,p.v,h.v,j.v,i.v]::rs) w→.inr (K,L,N)=c5→c4 .ret (fr 82 f) w:=by
  intro K L N f w c8 b ho
  subst ho
  refine a4 _ _ _ (c1 _ _ _ rfl ?_)
  cases u
  exact a1 _ _ _ (fin1r Tryz.results107 ⟨rfl,c8⟩ ⟨rfl,b⟩)
 refine loopQ (fun s a w=>∃ (O R:LI) (S:List Bool) (q:Int) (f:FV),(O,R,S,q)=s∧a=fr 82 f∧f 0=(pB d)∧f 1=iV k∧f 5=iV q∧St w0 ros (row 3 I1 h.v O::row 3 I1 j.v R::row 4 rB i.v S::box d 133 [iV n,iV o,l.v,m.v,p.v,h.v,j.v,i.v]::rs) w) c6 ⟨_,_,_,_,_,rfl,rfl,rfl,rfl,rfl,(b.pk 4 [1,1,1,0] rfl)⟩ ?_
 rintro _ _ w c9 ⟨O,R,S,q,f,rfl,rfl,r,H,F,b⟩ c a5 f9 d0 a6
 refine seqQ fun g0 d1 d2=>sR fun _ d3=>Ym (iV q) (eh F) (Ym (pB d) (eh r) (yY (yn e0) (yY (yFb FL_133_0 e0) (yY (yFb FL_91_2 e0) (yY (lb_ l.v O_22 e0 b R3) (Ym (iV k) (eh H) (yY (yadd e0 rfl) (bE c fun g1 a7 c=>yY (yIa SL_22 e0 e0 b (rdI y) a7) (yY (yI O_3 e0 b (rdI y) a7) ?_)))))))))
 refine yY (ylss e0 e0) (wK d3 ?_)
 refine cIf e0 c (fun d4 c=>?_) fun d4 c=>?_
 ·refine wp_skip (d1 _ _ (seqQ fun d5 d6 d7=>?_))
  have a8:∀ (T U:LI) (V:List Bool) (f:FV) w,f 0=(pB d)→f 1=iV k→f 5=iV q→St w0 ros (row 3 I1 h.v T::row 3 I1 j.v U::row 4 rB i.v V::box d 133 [iV n,iV o,l.v,m.v,p.v,h.v,j.v,i.v]::rs) w→sparseref13_Search_Try_j12 q T U V=some c9→d5 .normal (fr 82 f) w:=by
   intro T U V f w d8 d9 e1 b u
   refine d6 _ _ (wR (Ym (iV q) (eh e1) (yY (yadd e0 rfl) (Ya (iV (wa .i64 q 1)) e0 (wN ?_)))))
   cases u
   exact d0 _ _ _ rfl ⟨_,_,_,_,_,rfl,rfl,d8,d9,rfl,b⟩
  refine blockQ fun _ W=>sR fun _ e2=>Ym (pB d) (eh r) (yY (yn e0) (yY (yFb FL_133_0 e0) (yY (yFb FL_91_3 e0) (yY (lb_ m.v O_22 e0 b R3) (Ym (iV q) (eh F) (bE c fun t a9 c=>yY (yIa SL_22 e0 e0 b (rdI G) a9) (yY (yI O_3 e0 b (rdI G) a9) (Ya (iV t) e0 (wN ?_)))))))))
  refine e2 _ _ (seqQ fun g2 e3 e4=>sR fun _ e5=>Ym (pB d) (eh r) (yY (yn e0) (yY (yFb FL_133_3 e0) (yY (lb_ i.v O_93 e0 b R3) (Ym (iV t) e0 (bE c fun g3 b0 c=>yY (yIa SL_93 e0 e0 b rO2 b0) (yY (yB O_4 e0 b rO2 b0) (wK e5 (cB e0 c (fun e6 c=>?_) fun e6 c=>?_)))))))))
  ·exact wp_exit (e4 _ _ _ rfl (W _ _ _ (a8 _ _ _ _ _ r H F b c)))
  refine wp_skip (e3 _ _ (sR fun _ e7=>Ym (pB d) (eh r) (yY (yn e0) (yY (yFb FL_133_3 e0) (yY (lb_ i.v O_93 e0 b R3) (Ym (iV t) e0 (bE c fun g4 b2 c=>yY (yIs SL_93 e0 e0 b rO2 b2) (yT (r_sti (cs:=[.bool true]) (b.pk 3 [2,0,0] rfl) O_4 rfl e0 rfl rfl mkB b2) fun w b=>wN ?_))))))))
  refine e7 _ _ (sR fun _ e8=>Ym (pB d) (eh r) (yY (yn e0) (yY (yFb FL_133_1 e0) (yY (lb_ h.v O_22 e0 b R3) (Ym (iV t) e0 (bE c fun e9 b3 c=>yY (yIa SL_22 e0 e0 b rO1 b3) (yY (yI O_3 e0 b rO1 b3) (yY (ylss e0 rfl) (Ym (.bool (decide (e9 < 0))) e0 (bE c fun I x c=>?_))))))))))
  refine joinW 10 (fun f w=>f 0=(pB d)∧f 1=iV k∧f 5=iV q∧f 6=iV t∧f 67=.bool I.1∧St w0 ros (row 3 I1 h.v I.2.1::row 3 I1 j.v I.2.2.1::row 4 rB i.v I.2.2.2::box d 133 [iV n,iV o,l.v,m.v,p.v,h.v,j.v,i.v]::rs) w) (fun b4=>?_) ?_
  ·rcases iteS x with ⟨g,x⟩ | ⟨g,x⟩
   ·refine gN (dT g) (gN (dT g) (gN (dT g) (gN (dT g) (gN (dT g) (gN (dT g) (gN (dT g) (gN (dT g) (gN (dT g) (yY (pt_ (.bool true) e0 (dT g) rfl) ?_)))))))))
    cases x
    exact b4 _ _ ⟨r,H,F,rfl,rfl,(b.pk 4 [1,1,0,0] rfl)⟩
   refine yG (dF g) (m_ (pB d) (eh r)) (yG (dF g) (m_ (pB d) (eh r)) (yG (dF g) (yn e0) (yG (dF g) (yFb FL_133_1 e0) (yG (dF g) (lb_ h.v O_22 e0 b R3) (yG (dF g) (m_ (iV t) e0) (bE x fun g5 b5 x=>yG (dF g) (yIa SL_22 e0 e0 b rO1 b5) (yG (dF g) (yI O_3 e0 b rO1 b5) (bE x fun f0 f1 x=>?_))))))))
   replace b:=b.pk 4 [3,1,1,0] rfl
   refine Yc (wG (dF g)) rfl (yCall FN_107 (a2 e0 e0)) (b8 f1 y G a0 b) ?_
   rintro _ w ⟨rfl,b⟩
   refine ⟨_,rfl,?_⟩
   refine yY (pf_ (.bool f0.2.2.2) e0 (dF g) e0) ?_
   cases x
   exact b4 _ _ ⟨r,H,F,rfl,rfl,b⟩
  rintro f w ⟨X,J,f2,Z,f3,b⟩
  refine wK e8 (cB (eh f3) c (fun f4 c=>?_) fun f4 c=>?_)
  ·refine sQ fun _ f5=>bE c fun g6 b6 c=>bE c fun g7 b7 c=>dR [0,1,3,7,0,0,32,96,224,0,0,0,1535,5631,16383,32767] [13,15] 2 folM ?_
   replace b:=b.drew
   refine Dn [0,1,2,3,4,5,6,7,8,9,10,11,12] [] [13] (yR rfl (m_ (pB d) (eh X)) (yR rfl (yn e0) (yR rfl (yFb FL_133_1 e0) (yR rfl (lb_ h.v O_22 e0 b R3) (yR rfl (m_ (iV t) (eh Z)) (yR rfl (m_ (pB d) (eh X)) (yR rfl (yn e0) (yR rfl (yFb FL_133_2 e0) (yR rfl (lb_ j.v O_22 e0 b R3) (yR rfl (m_ (iV k) (eh J)) (yR rfl (m_ (iV k) (eh J)) (yR rfl (m_ (iV t) (eh Z)) (yR rfl (yIs SL_22 e0 e0 b rO0 b6) ?_)))))))))))))
   refine Rn QSn ?_
   refine Lc1 rfl ?_
   refine LT wn (r_sti (cs:=[iV k]) b O_3 rfl e0 e0 rfl mkI b6) fun w b=>Dn [14] [9,11] [15] (yR rfl (yIs SL_22 e0 e0 b rO1 b7) (Rn (yS rfl (m_ (iV k) (eh J)) (yS rfl (m_ (iV t) (eh Z)) QSn)) ?_))
   refine Lc1 rfl ?_
   replace b:=b.pk 2 [1,0] rfl
   refine LT wn (r_sti (cs:=[iV t]) b O_3 rfl e0 e0 rfl mkI b7) fun w b=>Dz [] [] (Rn QSn (f5 _ _ (sR fun _ f6=>Ya (.bool true) rfl (wK f6 (wp_ret (W _ _ _ (d7 _ _ _ rfl ?_)))))))
   cases c
   exact a6 _ _ _ _ rfl rfl (c7 _ _ _ _ _ rfl (b.pk 4 [1,0,0,0] rfl) (a5 _ rfl))
  exact wp_skip (W _ _ _ (a8 _ _ _ _ _ X J f2 b c))
 refine wp_exit (d2 _ _ _ rfl ?_)
 cases c
 refine a6 _ _ _ _ rfl rfl ?_
 obtain rfl:=a5 _ rfl
 refine a4 _ _ _ (c0 _ _ (sR fun _ f7=>Ya (.bool false) rfl (wK f7 (wp_ret ?_))))
 cases u
 exact a1 _ _ _ (fin1r Tryz.results107 ⟨rfl,rfl⟩ ⟨rfl,b⟩)
theorem sparseref13_Search_Try_ok_n (n:Nat):∀ {w0:World} {ros:List Fact} {rs:List Res} {w:World} {f g:Int} {l m o p q:LI} {r:List Bool} {s:Int} {h:Nat} {i j k a b c:Hdr} {out:LI×LI×(List Bool)×Bool} (d:sparseref13_Search_Try n f g l m o p q r s=some out) (t:imm I1 i.v l∈ros) (u:imm I1 j.v m∈ros) (x:imm (rI .u64) k.v o∈ros) (y:St w0 ros (box h 133 [iV f,iV g,i.v,j.v,k.v,a.v,b.v,c.v]::row 3 I1 a.v p::row 3 I1 b.v q::row 4 rB c.v r::rs) w),
  Calls Tryz.prog 107 #[(pB h),iV s] w (fun e w=>e=.returned (.bool out.2.2.2)∧St w0 ros (row 3 I1 a.v out.1::row 3 I1 b.v out.2.1::row 4 rB c.v out.2.2.1::box h 133 [iV f,iV g,i.v,j.v,k.v,a.v,b.v,c.v]::rs) w):=by
 induction n with
 | zero=>intro _ _ _ _ _ _ _ _ _ _ _ _ _ _ _ _ _ _ _ _ out d; cases d
 | succ n ih=>exact fun d t u x y=>sparseref13_Search_Try_step (rec:=sparseref13_Search_Try n) ih d t u x y
theorem sparseref13_Search_Try_ok {d f:Int} {k l m n o:LI} {p:List Bool} {q:Int} {g:Nat} {h i j a b c:Hdr} {out:LI×LI×(List Bool)×Bool} (r:sparseref13_Search_Try FUEL d f k l m n o p q=some out) (s:imm I1 h.v k∈ros) (t:imm I1 i.v l∈ros) (u:imm (rI .u64) j.v m∈ros) (x:St w0 ros (box g 133 [iV d,iV f,h.v,i.v,j.v,a.v,b.v,c.v]::row 3 I1 a.v n::row 3 I1 b.v o::row 4 rB c.v p::rs) w):
  Calls Tryz.prog 107 #[(pB g),iV q] w (fun e w=>e=.returned (.bool out.2.2.2)∧St w0 ros (row 3 I1 a.v out.1::row 3 I1 b.v out.2.1::row 4 rB c.v out.2.2.1::box g 133 [iV d,iV f,h.v,i.v,j.v,a.v,b.v,c.v]::rs) w):=sparseref13_Search_Try_ok_n FUEL r s t u x
theorem sparseref13_Find_ok {d c:Int} {z A B:LI} {g h i:Hdr} {out:LI×LI×(List Bool)} (k:sparseref13_Find d c z A B=some out) (H:imm I1 g.v z∈ros) (I:imm I1 h.v A∈ros) (J:imm (rI .u64) i.v B∈ros) (b:St w0 ros rs w):
  Calls Tryz.prog 89 #[.agg #[iV d,iV c,g.v,h.v,i.v]] w (fun e w=>∃ (C:Nat) (D E F:Hdr),e=.returned (pB C)∧St w0 ros (row 3 I1 D.v out.1::row 3 I1 E.v out.2.1::row 4 rB F.v out.2.2::box C 133 [iV d,iV c,g.v,h.v,i.v,D.v,E.v,F.v]::rs) w):=by
 refine enterQ Tryz.func89 rfl Tryz.ntmps89 rfl fun Q K=>sR fun _ L=>yBb (r_box (vals:=[iV d,iV c,g.v,h.v,i.v]) b e0 rfl) fun G w b=>Ya (.pointer none) rfl (wK L (sQ fun _ N=>bE k fun b3 O k=>bE k fun b4 R k=>dR [0,0,2,6,0,16,62,127,255,511] [3,6,8,9] 4 folM ?_))
 replace b:=b.drew
 refine Dn [0,1,2,4,5] [] [3] (yR rfl (lbs_ [iV d,iV c,g.v,h.v,i.v] ST_91 e0 b R0) (yR rfl (yFb FL_91_0 e0) (yR rfl (lb_ (iV d) O_3 e0 b R0) (yR rfl (yFb FL_91_1 e0) (yR rfl (lb_ (iV c) O_3 e0 b R0) (Rn QSn ?_))))))
 refine Lc1 rfl ?_
 refine Lk wn (yCall FN_106 (a1 e0)) (sparseref13_none_ok O b) ?_
 rintro _ w ⟨n,rfl,b⟩
 refine ⟨_,rfl,?_⟩
 refine Dn [] [0,4,5] [6] (Rn (yS rfl (lbs_ [iV d,iV c,g.v,h.v,i.v] ST_91 e0 b R1) (yS rfl (yFb FL_91_1 e0) (yS rfl (lb_ (iV c) O_3 e0 b R1) QSn))) ?_)
 refine Lc1 rfl ?_
 refine Lk wn (yCall FN_106 (a1 e0)) (sparseref13_none_ok R b) ?_
 rintro _ w ⟨o,rfl,b⟩
 refine ⟨_,rfl,?_⟩
 refine Dn [7] [0] [8] (yR rfl (ybuild (us:=[iV d,iV c,g.v,h.v,i.v,n.v,o.v,hnil.v]) [(0,.agg #[iV d,iV c,g.v,h.v,i.v]),(1,n.v),(2,o.v)] SO_133 (bp3 e0 e0 e0) rfl) (Rn (yS rfl (lbs_ [iV d,iV c,g.v,h.v,i.v] ST_91 e0 b R2) QSn) ?_))
 refine Lc1 rfl ?_
 refine LB wn (r_box (vals:=[iV d,iV c,g.v,h.v,i.v,n.v,o.v,hnil.v]) b e0 rfl) fun l w b=>Dn [] [] [9] (Rn QSn ?_)
 refine Lc1 rfl ?_
 refine Ly wn (a_ (pB l) e0) (Dz [] [] (Rn QSn (N _ _ (sQ fun _ S=>sR fun _ T=>Ya (iV 0) rfl (wK T (blockQ fun _ U=>bE k fun b5 V k=>?_))))))
 replace b:=b.rowNh 4 rB
 refine loopQ (fun s a w=>∃ (q r:LI) (t:List Bool) (m:Int) (f:FV) (u:Hdr),(q,r,t,m)=s∧a=fr 30 f∧f 1=(pB G)∧f 3=(pB l)∧f 4=iV m∧St w0 ros (box G 91 [iV d,iV c,g.v,h.v,i.v]::row 3 I1 n.v q::row 3 I1 o.v r::row 4 rB u.v t::box l 133 [iV d,iV c,g.v,h.v,i.v,n.v,o.v,u.v]::rs) w) V ⟨_,_,_,_,_,_,rfl,rfl,rfl,rfl,rfl,(b.pk 5 [4,3,2,0,0] rfl)⟩ ?_
 rintro _ _ w b6 ⟨q,r,t,m,f,u,rfl,rfl,x,p,y,b⟩ j W b7 X Z
 refine seqQ fun b8 a0 a3=>sR fun _ a4=>Ym (iV m) (eh y) (yY (yFb FL_91_1 (eh x)) (yY (lb_ (iV c) O_3 e0 b R0) (yY (ylss e0 e0) (wK a4 ?_))))
 refine cIf e0 j (fun a5 j=>?_) fun a5 j=>?_
 ·refine wp_skip (a0 _ _ (sQ fun _ a6=>blockQ fun _ a7=>sR fun _ a8=>Ym (pB l) (eh p) (yY (yFb FL_91_0 (eh x)) (yY (lb_ (iV d) O_3 e0 b R0) (bE j fun c0 a9 j=>yH (rMk b SL_93 e0 a9) fun b0 w b=>yY (yn e0) (yY (yFb FL_133_3 e0) ?_))))))
  refine yT (r_stb1 (vals':=[iV d,iV c,g.v,h.v,i.v,n.v,o.v,b0.v]) (b.pk 6 [5,0,0,0,0,0] rfl) O_93 e0 e0 rfl rfl rfl rfl) fun w b=>wK a8 (wR (Ym (pB l) (eh p) (Ym (iV m) (eh y) (bE j fun c1 b1 j=>?_))))
  replace b:=b.pk 5 [0,2,2,0,0] rfl
  refine yC (yCall FN_107 (a2 e0 e0)) (sparseref13_Search_Try_ok b1 H I J b) ?_
  rintro _ w ⟨rfl,b⟩
  refine ⟨_,rfl,?_⟩
  refine wN (a7 _ _ _ (a6 _ _ (wR (Ym (iV m) (eh y) (yY (yadd e0 rfl) (Ya (iV (wa .i64 m 1)) e0 (wN ?_)))))))
  cases j
  exact X _ _ _ rfl ⟨_,_,_,_,_,_,rfl,rfl,x,p,rfl,(b.pk 6 [4,0,0,0,0] rfl)⟩
 refine wp_exit (a3 _ _ _ rfl ?_)
 cases j
 refine Z _ _ _ _ rfl rfl ?_
 obtain rfl:=W _ rfl
 refine U _ _ _ (S _ _ (sR fun _ b2=>Ym (pB l) (eh p) (Ya (pB l) e0 (wK b2 (wp_ret ?_)))))
 cases k
 exact K _ _ _ (fin1r Tryz.results89 ⟨rfl,rfl⟩ ⟨_,_,_,_,rfl,(b.pk 5 [1,1,1,1] rfl)⟩)
end Go.Proofs.YthpeajepbffinaaGreat
