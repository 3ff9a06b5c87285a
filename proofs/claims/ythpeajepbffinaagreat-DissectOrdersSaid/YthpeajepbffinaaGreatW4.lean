/- Walks: each function computes its model, printed. -/
import Derived.Test.YthpeajepbffinaaGreatW3
namespace Go.Proofs.YthpeajepbffinaaGreat
open Go Sx M
set_option maxRecDepth 100000
set_option maxHeartbeats 40000000
set_option linter.unusedVariables false
attribute [local irreducible] wpList Code.wp Calls DR QR QS LA LS St
variable {w0:World} {ros:List Fact} {rs:List Res} {w:World}
theorem sparsekit_Place_ok {a b out:Int} (c:sparsekit_Place a b=some out) (d:St w0 ros rs w):
  Calls Tryz.prog 10 #[iV a,iV b] w (fun e w=>e=.returned (iV out)∧St w0 ros rs w):=by
 refine enterQ Tryz.func10 rfl Tryz.ntmps10 rfl fun Q f=>sR fun _ g=>Ya (iV 0) rfl (wK g (sR fun _ h=>Ym (iV a) e0 (yY (ycv (k':=.u64) (by kernel_rfl) (by kernel_rfl) e0) (Ym (iV b) e0 (yY (ycv (k':=.u64) (by kernel_rfl) (by kernel_rfl) e0) (bE c fun i j c=>yY (yrem e0 e0 j) ?_))))))
 refine yY (ycv (k':=.i64) (by kernel_rfl) (by kernel_rfl) e0) (Ya (iV (wc .i64 i)) e0 (wK h (wp_ret ?_)))
 cases c
 exact f _ _ _ (fin1r Tryz.results10 ⟨rfl,rfl⟩ ⟨rfl,d⟩)
theorem sparseref12_FromTable_ok {S:List (List Bool)} {m:Hdr} {out:L2} (D:sparseref12_FromTable S=some out) (A:imm SB m.v S∈ros) (b:St w0 ros rs w):
  Calls Tryz.prog 67 #[m.v] w (fun e w=>∃ (T:Hdr),e=.returned (.agg #[T.v])∧St w0 ros (row 22 S1 T.v out::rs) w):=by
 refine enterQ Tryz.func67 rfl Tryz.ntmps67 rfl fun Q b6=>sR fun _ b7=>yBb (rAl b ZT_26) fun i w b=>wK b7 (sR fun _ b8=>yBb (rAl b ZT_26) fun j w b=>wK b8 (sQ fun _ b9=>?_))
 refine sR fun _ c0=>Ya (iV 0) rfl (wK c0 (blockQ fun c1 c2=>bE D fun c3 c4 D=>?_))
 have c5:∀ (J:L2) (B:Hdr) (f:FV) w,f 2=(pB i)→f 3=(pB j)→St w0 ros (box i 26 [hnil.v]::row 22 S1 B.v J::box j 26 [B.v]::rs) w→J=c3→c1 (.exit 0) (fr 51 f) w:=by
  intro J B f w U c6 b ho
  subst ho
  refine c2 _ _ _ (b9 _ _ (sR fun _ c7=>yY (lbs_ [B.v] ST_26 (eh c6) b R2) (yT (r_stbn (vals':=[B.v]) (us:=[B.v]) b ST_26 (eh U) e0 rfl rfl (one_of rfl) rfl) fun w b=>wK c7 (wp_ret ?_))))
  cases D
  exact b6 _ _ _ (fin1r Tryz.results67 (rcs2 rfl U b R0 ST_26 rfl) ⟨_,rfl,(b.pk 3 [1] rfl)⟩)
 replace b:=b.rowNh 22 S1
 refine loopQ (fun s a w=>∃ (t:L2) (g:Int) (f:FV) (k:Hdr),(t,g)=s∧a=fr 51 f∧f 0=m.v∧f 2=(pB i)∧f 3=(pB j)∧f 4=iV g∧St w0 ros (box i 26 [hnil.v]::row 22 S1 k.v t::box j 26 [k.v]::rs) w) c4 ⟨_,_,_,_,rfl,rfl,rfl,rfl,rfl,rfl,(b.pk 3 [2,0,0] rfl)⟩ ?_
 rintro _ _ w i6 ⟨t,g,f,k,rfl,rfl,V,W,X,Z,b⟩ q c8 i7 c9 d0
 refine seqQ fun i8 d1 d2=>sR fun _ d3=>Ym (iV g) (eh Z) (Ym m.v (eh V) (yY (yLen SL_98 e0 b (rdI A)) (yY (ylss e0 e0) (wK d3 ?_))))
 refine cIf e0 q (fun d4 q=>?_) fun d4 q=>?_
 ·refine wp_skip (d1 _ _ (sQ fun _ d5=>blockQ fun _ d6=>sR fun _ d7=>Ya hnil.v rfl (wK d7 (sQ fun _ d8=>sR fun _ d9=>Ya (iV 0) rfl (wN ?_)))))
  refine d9 _ _ (blockQ fun e1 e2=>bE q fun e3 e4 q=>?_)
  have e5:∀ (F:LI) (C:Hdr) (f:FV) w,f 0=m.v→f 2=(pB i)→f 3=(pB j)→f 4=iV g→f 5=C.v→St w0 ros (box i 26 [hnil.v]::row 22 S1 k.v t::box j 26 [k.v]::row 3 I1 C.v F::rs) w→F=e3→e1 (.exit 2) (fr 51 f) w:=by
   intro F C f w e6 e7 K e8 e9 b ho
   subst ho
   refine e2 _ _ _ (d8 _ _ (wR (yY (yFb FL_26_0 (eh K)) (yY (lb_ k.v O_24 e0 b R2) (Ym C.v (eh e9) (yH (rLt (n:=1) (l:=[F]) ((b.pk 4 [3,0,0,0] rfl).fz) SL_24 [C.v] (bp1 e0) rfl rfl (mks1 (cs:=[C.v]) rfl (mkS F0) mks0)) fun i9 w b=>bE q fun j0 f0 q=>yH (rAp (b.pk 3 [2,0,0] rfl) SL_24 e0 e0 rO1 f0) fun f1 w b=>yY (yFb FL_26_0 (eh K)) (yT (r_stb1 (vals':=[f1.v]) (b.pk 4 [3,0,0,0] rfl) O_24 e0 e0 rfl rfl rfl rfl) fun w b=>?_)))))))
   refine wN (d6 _ _ _ (d5 _ _ (wR (Ym (iV g) (eh e8) (yY (yadd e0 rfl) (Ya (iV (wa .i64 g 1)) e0 (wN ?_)))))))
   cases q
   exact c9 _ _ _ rfl ⟨_,_,_,_,rfl,rfl,e6,e7,K,rfl,((b.pk 4 [3,1,0] rfl).facts (allT allI))⟩
  replace b:=b.rowNh 3 I1
  refine loopQ (fun s a w=>∃ (E:LI) (d:Int) (f:FV) (u:Hdr),(E,d)=s∧a=fr 51 f∧f 0=m.v∧f 2=(pB i)∧f 3=(pB j)∧f 4=iV g∧f 5=u.v∧f 6=iV d∧St w0 ros (box i 26 [hnil.v]::row 22 S1 k.v t::box j 26 [k.v]::row 3 I1 u.v E::rs) w) e4 ⟨_,_,_,_,rfl,rfl,V,W,X,Z,rfl,rfl,(b.pk 4 [1,1,1,0] rfl)⟩ ?_
  rintro _ _ w f2 ⟨E,d,f,u,rfl,rfl,x,G,H,y,I,z,b⟩ o f3 j1 f4 f5
  refine seqQ fun j2 f6 f7=>sR fun _ f8=>Ym (iV d) (eh z) (Ym m.v (eh x) (yY (yLen SL_98 e0 b (rdI A)) (yY (ylss e0 e0) (wK f8 ?_))))
  refine cIf e0 o (fun f9 o=>?_) fun f9 o=>?_
  ·refine wp_skip (f6 _ _ (sQ fun _ g0=>blockQ fun g1 g2=>sR fun _ g3=>Ym (iV g) (eh y) (Ym (iV d) (eh z) (yY (yneq e0 e0) (Ym (.bool (!(decide (g=d)))) e0 (bE o fun g4 p o=>?_))))))
   refine joinW 17 (fun f w=>f 0=m.v∧f 2=(pB i)∧f 3=(pB j)∧f 4=iV g∧f 5=u.v∧f 6=iV d∧f 39=.bool g4∧St w0 ros (box i 26 [hnil.v]::row 22 S1 k.v t::box j 26 [k.v]::row 3 I1 u.v E::rs) w) (fun a0=>?_) ?_
   ·rcases iteS p with ⟨c,p⟩ | ⟨c,p⟩
    ·refine gN (nF (dT c)) (gN (nF (dT c)) (gN (nF (dT c)) (gN (nF (dT c)) (gN (nF (dT c)) (gN (nF (dT c)) (gN (nF (dT c)) (gN (nF (dT c)) (Gn (wxu rfl rfl rfl) rfl (Gn (wxu rfl rfl rfl) rfl (Gn (wxu rfl rfl rfl) rfl (Gn (wxu rfl rfl rfl) rfl (Gn (wxu rfl rfl rfl) rfl (Gn (wxu rfl rfl rfl) rfl ?_)))))))))))))
     refine Gn (wxu rfl rfl rfl) rfl (gN (nF (dT c)) (yY (pf_ (.bool false) e0 (nF (dT c)) rfl) ?_))
     cases p
     exact a0 _ _ ⟨x,G,H,y,I,z,rfl,b⟩
    ·refine yG (nT (dF c)) (m_ m.v (eh x)) (yG (nT (dF c)) (m_ (iV g) (eh y)) (bE p fun g5 a1 p=>yG (nT (dF c)) (yIa SL_98 e0 e0 b (rdI A) a1) ?_))
     obtain ⟨a2,b⟩:=iLs b A a1
     refine yG (nT (dF c)) (yCt O_93 e0 b F1 rfl) (yG (nT (dF c)) (m_ (iV d) (eh z)) (bE p fun L a3 p=>yG (nT (dF c)) (yIa SL_93 e0 e0 b (rdI F0) a3) (yG (nT (dF c)) (yB O_4 e0 b (rdI F0) a3) (yG (nT (dF c)) (m_ (.bool L) e0) (bE p fun a4 r p=>?_)))))
     refine joinW 8 (fun f w=>f 0=m.v∧f 2=(pB i)∧f 3=(pB j)∧f 4=iV g∧f 5=u.v∧f 6=iV d∧f 22=.bool (!(decide (g=d)))∧f 23=m.v∧f 24=iV g∧f 26=a2.v∧f 27=iV d∧f 29=.bool L∧f 30=.bool L∧f 38=.bool a4∧St w0 (imm rB a2.v g5::ros) (box i 26 [hnil.v]::row 22 S1 k.v t::box j 26 [k.v]::row 3 I1 u.v E::rs) w) (fun a5=>?_) ?_
     ·rcases iteS r with ⟨h,r⟩ | ⟨h,r⟩
      ·refine gN h (gN h (gN h (gN h (gN h (gN h (gN h (yG (nT (dF c)) (pt_ (.bool true) e0 h rfl) ?_)))))))
       cases r
       exact a5 _ _ ⟨x,G,H,y,I,z,rfl,rfl,rfl,rfl,rfl,rfl,rfl,rfl,(b.facts (allC F0 (allT (allT allI))))⟩
      ·refine yG (bfalse h) (m_ m.v (eh x)) (yG (bfalse h) (m_ (iV d) (eh z)) (bE r fun j3 a6 r=>yG (bfalse h) (yIa SL_98 e0 e0 b (rdI (F_2 A)) a6) ?_))
       obtain ⟨j4,b⟩:=iLs b (F_2 A) a6
       refine yG (bfalse h) (yCt O_93 e0 b F1 rfl) (yG (bfalse h) (m_ (iV g) (eh y)) (bE r fun g6 a7 r=>yG (bfalse h) (yIa SL_93 e0 e0 b (rdI F0) a7) (yG (bfalse h) (yB O_4 e0 b (rdI F0) a7) (yG (nT (dF c)) (pf_ (.bool g6) e0 (bfalse h) e0) ?_))))
       cases r
       exact a5 _ _ ⟨x,G,H,y,I,z,rfl,rfl,rfl,rfl,rfl,rfl,rfl,rfl,(b.facts (allC F2 (allT (allT (allT (allT allI))))))⟩
     rintro f w ⟨g7,g8,g9,h0,h1,h3,h4,j5,j6,j7,j8,j9,k0,h5,b⟩
     refine yY (pt_ (.bool a4) (eh h4) (nT (dF c)) (eh h5)) ?_
     cases p
     exact a0 _ _ ⟨g7,g8,g9,h0,h1,h3,rfl,(b.facts (allT allI))⟩
   rintro f w ⟨a8,a9,b0,b1,b2,N,h6,b⟩
   refine wK g3 ?_
   have b5:∀ (O:LI) (R:Hdr) (f:FV) w,f 0=m.v→f 2=(pB i)→f 3=(pB j)→f 4=iV g→f 5=R.v→f 6=iV d→St w0 ros (box i 26 [hnil.v]::row 22 S1 k.v t::box j 26 [k.v]::row 3 I1 R.v O::rs) w→sparseref12_FromTable_j40 d O=some f2→g1 .normal (fr 51 f) w:=by
    intro O R f w h7 h8 h9 i0 i1 i2 b D
    refine g2 _ _ _ (g0 _ _ (wR (Ym (iV d) (eh i2) (yY (yadd e0 rfl) (Ya (iV (wa .i64 d 1)) e0 (wN ?_))))))
    cases D
    exact f4 _ _ _ rfl ⟨_,_,_,_,rfl,rfl,h7,h8,h9,i0,i1,rfl,b⟩
   refine cB (eh h6) o (fun i3 o=>?_) fun i3 o=>?_
   ·exact wR (Ym u.v (eh b2) (Ym (iV d) (eh N) (yH (rLt (n:=1) (l:=[d]) b SL_22 [iV d] (bp1 e0) rfl rfl (mks1 (cs:=[iV d]) rfl mkI mks0)) fun k5 w b=>bE o fun k6 i4 o=>yH (rAp (b.pk 5 [4,0,0,0,0] rfl) SL_22 e0 e0 rO1 i4) fun i5 w b=>Ya i5.v e0 (wN (b5 _ _ _ _ a8 a9 b0 b1 rfl N (b.pk 5 [2,2,2,0] rfl) o)))))
   ·exact wp_skip (b5 _ _ _ _ a8 a9 b0 b1 b2 N b o)
  ·refine wp_exit (f7 _ _ _ rfl ?_)
   cases o
   exact f5 _ _ _ _ rfl rfl (e5 _ _ _ _ x G H y I b (f3 _ rfl))
 ·refine wp_exit (d2 _ _ _ rfl ?_)
  cases q
  exact d0 _ _ _ _ rfl rfl (c5 _ _ _ _ W X b (c8 _ rfl))
theorem sparsemake_Graph_ok {d:Int} {u:LI} {i:Hdr} {out:L2} (p:sparsemake_Graph d u=some out) (q:imm I1 i.v u∈ros) (b:St w0 ros rs w):
  Calls Tryz.prog 35 #[iV d,i.v] w (fun e w=>∃ (R:Hdr),e=.returned (.agg #[R.v])∧St w0 ros (row 22 S1 R.v out::rs) w):=by
 refine enterQ Tryz.func35 rfl Tryz.ntmps35 rfl fun Q a8=>sR fun _ a9=>yBb (rAl b ZT_26) fun j w b=>wK a9 (sR fun _ b0=>Ya hnil.v rfl (wK b0 (sQ fun _ b1=>sQ fun _ b2=>?_)))
 refine wR (Ya (iV 0) rfl (wK b2 (blockQ fun b3 b5=>bE p fun b6 b7 p=>?_)))
 have b8:∀ (F:List (List Bool)) (g:Hdr) (k:List Hdr) (f:FV) w,f 0=iV d→f 1=i.v→f 4=(pB j)→f 5=g.v→St w0 ros (box j 26 [hnil.v]::row 93 rH g.v k::fam 4 rB k F::rs) w→F=b6→b3 (.exit 0) (fr 48 f) w:=by
  intro F g k f w b9 c0 c1 c2 b ho
  subst ho
  refine b5 _ _ _ (b1 _ _ (sQ fun _ c3=>sR fun _ c4=>Ya (iV 0) rfl (wK c4 (blockQ fun c5 c6=>bE p fun c7 c8 p=>?_))))
  have c9:∀ (G:List (List Bool)) (f:FV) w,f 4=(pB j)→f 5=g.v→St w0 ros (box j 26 [hnil.v]::row 93 rH g.v k::fam 4 rB k G::rs) w→G=c7→c5 (.exit 2) (fr 48 f) w:=by
   intro G f w S d0 b ho
   subst ho
   refine c6 _ _ _ (c3 _ _ (sR fun _ d1=>Ym g.v (eh d0) (bE p fun g0 d2 p=>?_)))
   replace b:=(b.pk 3 [1,1,0] rfl).ffz
   refine yC (yCall FN_67 (a1 e0)) (sparseref12_FromTable_ok d2 F0 b) ?_
   rintro _ w ⟨T,rfl,b⟩
   refine ⟨_,rfl,?_⟩
   refine yT (r_stbn (vals':=[T.v]) (us:=[T.v]) (b.pk 2 [1,0] rfl) ST_26 (eh S) e0 rfl rfl (one_of rfl) rfl) fun w b=>wK d1 (wp_ret ?_)
   cases p
   exact a8 _ _ _ (fin1r Tryz.results35 (rcs2 rfl S b R0 ST_26 rfl) ⟨_,rfl,((b.pk 2 [1] rfl).facts (allT allI))⟩)
  refine loopQ (fun s a w=>∃ (y:List (List Bool)) (h:Int) (f:FV),(y,h)=s∧a=fr 48 f∧f 0=iV d∧f 1=i.v∧f 4=(pB j)∧f 5=g.v∧f 7=iV h∧St w0 ros (box j 26 [hnil.v]::row 93 rH g.v k::fam 4 rB k y::rs) w) c8 ⟨_,_,_,rfl,rfl,b9,c0,c1,c2,rfl,b⟩ ?_
  rintro _ _ w g1 ⟨y,h,f,rfl,rfl,H,I,U,V,J,b⟩ c d3 g2 d4 d5
  refine seqQ fun g3 d6 d7=>sR fun _ d8=>Ym (iV h) (eh J) (yY (yadd e0 rfl) (Ym i.v (eh I) (yY (yLen SL_22 e0 b (rdI q)) (yY (ylss e0 e0) (Ym (.bool (decide ((wa .i64 h 1) < (u.length:Int)))) e0 ?_)))))
  refine joinW 3 (fun f w=>f 0=iV d∧f 1=i.v∧f 4=(pB j)∧f 5=g.v∧f 7=iV h∧f 26=.bool ((decide ((wa .i64 h 1) < (u.length:Int))) && (decide ((0:Int) < d)))∧St w0 ros (box j 26 [hnil.v]::row 93 rH g.v k::fam 4 rB k y::rs) w) (fun W=>?_) ?_
  ·rcases Bool.eq_false_or_eq_true (decide ((wa .i64 h 1) < (u.length:Int))) with m | m
   ·exact yG m (m_ (iV d) (eh H)) (yG m (ygtr e0 rfl) (yY (pt_ (.bool (decide ((0:Int) < d))) e0 m e0) (W _ _ ⟨H,I,U,V,J,(congrArg Value.bool (andT m)),b⟩)))
   ·exact gN m (gN m (yY (pf_ (.bool false) e0 m rfl) (W _ _ ⟨H,I,U,V,J,(congrArg Value.bool (andF m)),b⟩)))
  rintro f w ⟨z,A,X,x,B,d9,b⟩
  refine wK d8 (cB (eh d9) c (fun e1 c=>?_) fun e1 c=>?_)
  ·refine wp_skip (d6 _ _ (sQ fun _ e2=>blockQ fun _ e3=>bE c fun g4 Z c=>bE c fun g5 e4 c=>bE c fun g6 K c=>bE c fun g7 C c=>bE c fun g8 e5 c=>bE c fun g9 a0 c=>bE c fun h0 e6 c=>dR [0,0,0,6,14,0,62,127,255,0,0,1024,3584,7680,0,32382,65535,131071] [6,15,17] 3 folM ?_))
   replace b:=b.drew
   refine Dn [0,1,2,3,4,5,9,10,11,12,13,14] [] [6] (yR rfl (m_ g.v (eh x)) (yR rfl (m_ i.v (eh A)) (yR rfl (m_ (iV h) (eh B)) (yR rfl (yIa SL_22 e0 e0 b (rdI q) Z) (yR rfl (yI O_3 e0 b (rdI q) Z) (yR rfl (m_ (iV d) (eh z)) (yR rfl (m_ i.v (eh A)) (yR rfl (m_ (iV h) (eh B)) (yR rfl (yadd e0 rfl) (yR rfl (yIa SL_22 e0 e0 b (rdI q) C) (yR rfl (yI O_3 e0 b (rdI q) C) (yR rfl (m_ (iV d) (eh z)) (Rn QSn ?_)))))))))))))
   refine Lc1 rfl ?_
   refine Lk wn (yCall FN_10 (a2 e0 e0)) (sparsekit_Place_ok e4 b) ?_
   rintro _ w ⟨rfl,b⟩
   refine ⟨_,rfl,?_⟩
   refine Dn [7,8] [0,9,10,11,12,13,14] [15] ?_
   obtain ⟨h1,r⟩:=b.famI R2 K
   refine yR rfl (yIa SLH_98 e0 e0 b rO1 r) (yR rfl (yF1 O_93 e0 b rO1 r rfl) (Rn (yS rfl (m_ g.v (eh x)) (yS rfl (m_ i.v (eh A)) (yS rfl (m_ (iV h) (eh B)) (yS rfl (yadd e0 rfl) (yS rfl (yIa SL_22 e0 e0 b (rdI q) C) (yS rfl (yI O_3 e0 b (rdI q) C) (yS rfl (m_ (iV d) (eh z)) QSn))))))) ?_))
   refine Lc1 rfl ?_
   refine Lk wn (yCall FN_10 (a2 e0 e0)) (sparsekit_Place_ok e5 b) ?_
   rintro _ w ⟨rfl,b⟩
   refine ⟨_,rfl,?_⟩
   refine Dn [16] [0,7,8] [17] (yR rfl (yIs SL_93 e0 e0 b (rdF R2 r K) a0) (Rn (yS rfl (m_ g.v (eh x)) (yS rfl (yIa SLH_98 e0 e0 b rO1 r) (yS rfl (yF1 O_93 e0 b rO1 r rfl) QSn))) ?_))
   refine Lc1 rfl ?_
   replace b:=b.pk 3 [2,0,0] rfl
   refine LT wn (r_sti (cs:=[.bool true]) (b.foc r K) O_4 rfl e0 rfl rfl mkB a0) fun w b=>?_
   replace b:=b.unfoc' r e6
   refine Dz [] [] (Rn QSn (e3 _ _ _ (e2 _ _ (wR (Ym (iV h) (eh B) (yY (yadd e0 rfl) (Ya (iV (wa .i64 h 2)) e0 (wN ?_))))))))
   cases c
   exact d4 _ _ _ rfl ⟨_,_,_,rfl,rfl,z,A,X,x,rfl,(b.pk 3 [1,1,0] rfl)⟩
  ·refine wp_exit (d7 _ _ _ rfl ?_)
   cases c
   exact d5 _ _ _ _ rfl rfl (c9 _ _ _ X x b (d3 _ rfl))
 replace b:=((b.rowNh 93 rH).fNew 4 rB).pk 2 [1,0] rfl
 refine loopQ (fun s a w=>∃ (L:List (List Bool)) (t:Int) (f:FV) (D:Hdr) (N:List Hdr),(L,t)=s∧a=fr 48 f∧f 0=iV d∧f 1=i.v∧f 4=(pB j)∧f 5=D.v∧f 6=iV t∧St w0 ros (box j 26 [hnil.v]::row 93 rH D.v N::fam 4 rB N L::rs) w) b7 ⟨_,_,_,_,_,rfl,rfl,rfl,rfl,rfl,rfl,rfl,(b.pk 3 [2,0,0] rfl)⟩ ?_
 rintro _ _ w h2 ⟨L,t,f,D,N,rfl,rfl,E,a3,a4,a5,a6,b⟩ o e7 h4 e8 e9
 refine seqQ fun h5 f0 f1=>sR fun _ f2=>Ym (iV t) (eh a6) (Ym (iV d) (eh E) (yY (ylss e0 e0) (wK f2 ?_)))
 refine cIf e0 o (fun f3 o=>?_) fun f3 o=>?_
 ·refine wp_skip (f0 _ _ (sQ fun _ f4=>blockQ fun _ f5=>wR (Ym D.v (eh a5) (Ym (iV d) (eh E) (bE o fun f6 f7 o=>yH (rMk b SL_93 e0 f7) fun O w b=>yH (rLt (n:=1) (l:=[O]) b SLH_98 [O.v] (bp1 e0) rfl rfl (mks1 rfl (mkF rfl) mks0)) fun h6 w b=>bE o fun h7 a7 o=>?_)))))
  replace b:=b.pk 4 [3,0,0,0] rfl
  obtain ⟨h8,ey82,f8⟩:=app_rep a7 (b.famL R4) (show [O].length=[f6].length from rfl)
  refine yH (rAp b SLH_98 e0 e0 rO1 f8) fun f9 w b=>?_
  replace b:=(b.pk 5 [2,3,0,0,0] rfl).fPush
  rw [← ey82,← (app_some a7).1] at b
  refine Ya f9.v e0 (wN (f5 _ _ _ (f4 _ _ (wR (Ym (iV t) (eh a6) (yY (yadd e0 rfl) (Ya (iV (wa .i64 t 1)) e0 (wN ?_))))))))
  cases o
  exact e8 _ _ _ rfl ⟨_,_,_,_,_,rfl,rfl,E,a3,a4,rfl,rfl,(b.pk 4 [3,1,0] rfl)⟩
 ·refine wp_exit (f1 _ _ _ rfl ?_)
  cases o
  exact e9 _ _ _ _ rfl rfl (b8 _ _ _ _ _ E a3 a4 a5 b (e7 _ rfl))
theorem sparsekit_Ascending_ok {l:LI} {g:Hdr} {out:Bool} (i:sparsekit_Ascending l=some out) (h:imm I1 g.v l∈ros) (b:St w0 ros rs w):
  Calls Tryz.prog 66 #[g.v] w (fun e w=>e=.returned (.bool out)∧St w0 ros rs w):=by
 refine enterQ Tryz.func66 rfl Tryz.ntmps66 rfl fun Q m=>sR fun _ y=>Ya (.bool false) rfl (wK y (seqQ fun U z A=>sR fun _ B=>Ya (iV 1) rfl (wK B (blockQ fun n o=>bE i fun p C i=>?_))))
 have D:∀ (f:FV) w,St w0 ros rs w→.inl ()=p→n (.exit 0) (fr 20 f) w:=by
  intro f w b ho
  subst ho
  refine o _ _ _ (z _ _ (sR fun _ E=>Ya (.bool true) rfl (wK E (wp_ret ?_))))
  cases i
  exact m _ _ _ (fin1r Tryz.results66 ⟨rfl,rfl⟩ ⟨rfl,b⟩)
 have F:∀ (f:FV) w,f 2=.bool false→St w0 ros rs w→.inr ()=p→n .ret (fr 20 f) w:=by
  intro f w G b ho
  subst ho
  refine o _ _ _ (A _ _ _ rfl ?_)
  cases i
  exact m _ _ _ (fin1r Tryz.results66 ⟨rfl,G⟩ ⟨rfl,b⟩)
 refine loopQ (fun s a w=>∃ (d:Int) (f:FV),d=s∧a=fr 20 f∧f 0=g.v∧f 3=iV d∧St w0 ros rs w) C ⟨_,_,rfl,rfl,rfl,rfl,b⟩ ?_
 rintro _ _ w V ⟨d,f,rfl,rfl,j,k,b⟩ c q W H r
 refine seqQ fun X I J=>sR fun _ K=>Ym (iV d) (eh k) (Ym g.v (eh j) (yY (yLen SL_22 e0 b (rdI h)) (yY (ylss e0 e0) (wK K ?_))))
 refine cIf e0 c (fun L c=>?_) fun L c=>?_
 ·refine wp_skip (I _ _ (seqQ fun Z N O=>blockQ fun _ t=>sQ fun _ R=>bE c fun a0 u c=>bE c fun a1 x c=>dR [0,0,3,7,0,0,32,112,240,511] [] 0 folM ?_))
  replace b:=b.drew
  refine Dz [0,1,2,3,4,5,6,7,8,9] [] (yR rfl (m_ g.v (eh j)) (yR rfl (m_ (iV d) (eh k)) (yR rfl (yIa SL_22 e0 e0 b (rdI h) u) (yR rfl (yI O_3 e0 b (rdI h) u) (yR rfl (m_ g.v (eh j)) (yR rfl (m_ (iV d) (eh k)) (yR rfl (ysub e0 rfl) (yR rfl (yIa SL_22 e0 e0 b (rdI h) x) (yR rfl (yI O_3 e0 b (rdI h) x) (yR rfl (yleq e0 e0) (Rn QSn (R _ _ ?_))))))))))))
  refine cIf e0 c (fun S c=>?_) fun S c=>?_
  ·refine sR fun _ T=>Ya (.bool false) rfl (wK T (wp_ret (t _ _ _ (O _ _ _ rfl ?_))))
   cases c
   exact r _ _ _ _ rfl rfl (F _ _ rfl b (q _ rfl))
  ·refine wp_skip (t _ _ _ (N _ _ (wR (Ym (iV d) (eh k) (yY (yadd e0 rfl) (Ya (iV (wa .i64 d 1)) e0 (wN ?_)))))))
   cases c
   exact H _ _ _ rfl ⟨_,_,rfl,rfl,j,rfl,b⟩
 ·refine wp_exit (J _ _ _ rfl ?_)
  cases c
  exact r _ _ _ _ rfl rfl (D _ _ b (q _ rfl))
theorem sparsekit_In_ok {m:LI} {h:Int} {g:Hdr} {out:Bool} (i:sparsekit_In m h=some out) (j:imm I1 g.v m∈ros) (b:St w0 ros rs w):
  Calls Tryz.prog 37 #[g.v,iV h] w (fun e w=>e=.returned (.bool out)∧St w0 ros rs w):=by
 refine enterQ Tryz.func37 rfl Tryz.ntmps37 rfl fun Q n=>sR fun _ z=>Ya (.bool false) rfl (wK z (seqQ fun V A B=>sR fun _ C=>Ya (iV 0) rfl (wK C (blockQ fun o p=>bE i fun q D i=>?_))))
 have E:∀ (f:FV) w,St w0 ros rs w→.inl ()=q→o (.exit 0) (fr 18 f) w:=by
  intro f w b ho
  subst ho
  refine p _ _ _ (A _ _ (sR fun _ F=>Ya (.bool false) rfl (wK F (wp_ret ?_))))
  cases i
  exact n _ _ _ (fin1r Tryz.results37 ⟨rfl,rfl⟩ ⟨rfl,b⟩)
 have G:∀ (f:FV) w,f 4=.bool true→St w0 ros rs w→.inr ()=q→o .ret (fr 18 f) w:=by
  intro f w H b ho
  subst ho
  refine p _ _ _ (B _ _ _ rfl ?_)
  cases i
  exact n _ _ _ (fin1r Tryz.results37 ⟨rfl,H⟩ ⟨rfl,b⟩)
 refine loopQ (fun s a w=>∃ (d:Int) (f:FV),d=s∧a=fr 18 f∧f 0=g.v∧f 1=iV h∧f 5=iV d∧St w0 ros rs w) D ⟨_,_,rfl,rfl,rfl,rfl,rfl,b⟩ ?_
 rintro _ _ w W ⟨d,f,rfl,rfl,k,r,l,b⟩ c t X I u
 refine seqQ fun Z J K=>sR fun _ L=>Ym (iV d) (eh l) (Ym g.v (eh k) (yY (yLen SL_22 e0 b (rdI j)) (yY (ylss e0 e0) (wK L ?_))))
 refine cIf e0 c (fun N c=>?_) fun N c=>?_
 ·refine wp_skip (J _ _ (seqQ fun a0 O R=>blockQ fun _ x=>sR fun _ S=>Ym g.v (eh k) (Ym (iV d) (eh l) (bE c fun a1 y c=>yY (yIa SL_22 e0 e0 b (rdI j) y) (yY (yI O_3 e0 b (rdI j) y) (Ym (iV h) (eh r) (yY (yeql e0 e0) (wN ?_))))))))
  refine S _ _ ?_
  refine cIf e0 c (fun T c=>?_) fun T c=>?_
  ·refine sR fun _ U=>Ya (.bool true) rfl (wK U (wp_ret (x _ _ _ (R _ _ _ rfl ?_))))
   cases c
   exact u _ _ _ _ rfl rfl (G _ _ rfl b (t _ rfl))
  ·refine wp_skip (x _ _ _ (O _ _ (wR (Ym (iV d) (eh l) (yY (yadd e0 rfl) (Ya (iV (wa .i64 d 1)) e0 (wN ?_)))))))
   cases c
   exact I _ _ _ rfl ⟨_,_,rfl,rfl,k,r,rfl,b⟩
 ·refine wp_exit (K _ _ _ rfl ?_)
  cases c
  exact u _ _ _ _ rfl rfl (E _ _ b (t _ rfl))
theorem sparseref12_Check_ok {h:L2} {k:Hdr} {out:Int} (r:sparseref12_Check h=some out) (p:imm S1 k.v h∈ros) (b:St w0 ros rs w):
  Calls Tryz.prog 54 #[.agg #[k.v]] w (fun e w=>e=.returned (iV out)∧St w0 ros rs w):=by
 refine enterQ Tryz.func54 rfl Tryz.ntmps54 rfl fun Q z=>sR fun _ b6=>yBb (r_box (vals:=[k.v]) b e0 rfl) fun l w b=>Ya (iV 0) rfl (wK b6 (sR fun _ b7=>yY (yFb FL_26_0 e0) (yY (lb_ k.v O_24 e0 b R0) (yY (yLen SL_24 e0 b (rdI p)) (Ya (iV (h.length:Int)) e0 ?_)))))
 refine wK b7 (seqQ fun h4 b8 b9=>sR fun _ c0=>Ym (iV (h.length:Int)) e0 (yY (ygtr e0 rfl) (wK c0 ?_)))
 refine cIf e0 r (fun c1 r=>?_) fun c1 r=>?_
 ·refine sR fun _ c2=>Ya (iV 6) rfl (wK c2 (wp_ret (b9 _ _ _ rfl ?_)))
  cases r
  exact z _ _ _ (fin1r Tryz.results54 ⟨rfl,rfl⟩ ⟨rfl,(b.pk 1 [] rfl)⟩)
 ·refine wp_skip (b8 _ _ (seqQ fun h5 c3 c5=>sR fun _ c6=>Ya (iV 0) rfl (wK c6 (blockQ fun J K=>bE r fun L c7 r=>?_))))
  have c8:∀ (f:FV) w,St w0 ros rs w→.inl ()=L→J (.exit 0) (fr 64 f) w:=by
   intro f w b ho
   subst ho
   refine K _ _ _ (c3 _ _ (sR fun _ c9=>Ya (iV 0) rfl (wK c9 (wp_ret ?_))))
   cases r
   exact z _ _ _ (fin1r Tryz.results54 ⟨rfl,rfl⟩ ⟨rfl,b⟩)
  have N:∀ (f:FV) w,f 2=iV 1→St w0 ros rs w→.inr ()=L→J .ret (fr 64 f) w:=by
   intro f w d0 b ho
   subst ho
   refine K _ _ _ (c5 _ _ _ rfl ?_)
   cases r
   exact z _ _ _ (fin1r Tryz.results54 ⟨rfl,d0⟩ ⟨rfl,b⟩)
  refine loopQ (fun s a w=>∃ (d:Int) (f:FV),d=s∧a=fr 64 f∧f 1=(pB l)∧f 3=iV (h.length:Int)∧f 4=iV d∧St w0 ros (box l 26 [k.v]::rs) w) c7 ⟨_,_,rfl,rfl,rfl,rfl,rfl,b⟩ ?_
  rintro _ _ w h6 ⟨d,f,rfl,rfl,O,R,A,b⟩ j B h7 d1 C
  refine seqQ fun h8 d2 d3=>sR fun _ d4=>Ym (iV d) (eh A) (Ym (iV (h.length:Int)) (eh R) (yY (ylss e0 e0) (wK d4 ?_)))
  refine cIf e0 j (fun d5 j=>?_) fun d5 j=>?_
  ·refine wp_skip (d2 _ _ (seqQ fun h9 d6 S=>blockQ fun _ D=>seqQ fun i0 d7 d8=>sR fun _ d9=>yY (yFb FL_26_0 (eh O)) (yY (lb_ k.v O_24 e0 b R0) (Ym (iV d) (eh A) (bE j fun i1 T j=>yY (yIa SL_24 e0 e0 b (rdI p) T) ?_)))))
   obtain ⟨i2,b⟩:=iLs b p T
   refine yY (yCt O_22 e0 b F1 rfl) (bE j fun i3 e1 j=>yC (yCall FN_66 (a1 e0)) (sparsekit_Ascending_ok e1 F0 b) ?_)
   rintro _ w ⟨rfl,b⟩
   refine ⟨_,rfl,?_⟩
   refine yY (ynot e0) (wK d9 ?_)
   rcases iteS j with ⟨E,j⟩ | ⟨E,j⟩
   ·refine condF e0 (nF E) (wp_skip (d7 _ _ (sR fun _ e2=>Ya (iV 0) rfl (wK e2 (blockQ fun U V=>bE j fun W e3 j=>?_)))))
    have e4:∀ (f:FV) w,f 1=(pB l)→f 3=iV (h.length:Int)→f 4=iV d→St w0 ros (box l 26 [k.v]::rs) w→.inl ()=W→U (.exit 2) (fr 64 f) w:=by
     intro f w e5 e6 e7 b ho
     subst ho
     refine V _ _ _ (D _ _ _ (d6 _ _ (wR (Ym (iV d) (eh e7) (yY (yadd e0 rfl) (Ya (iV (wa .i64 d 1)) e0 (wN ?_)))))))
     cases j
     exact d1 _ _ _ rfl ⟨_,_,rfl,rfl,e5,e6,rfl,b⟩
    have e8:∀ (f:FV) w,f 2=iV 1→St w0 ros rs w→.inr ()=W→U .ret (fr 64 f) w:=by
     intro f w e9 b ho
     subst ho
     refine V _ _ _ (D _ _ _ (S _ _ _ rfl ?_))
     cases j
     exact C _ _ _ _ rfl rfl (N _ _ e9 b (B _ rfl))
    refine loopQ (fun s a w=>∃ (o:Int) (f:FV),o=s∧a=fr 64 f∧f 1=(pB l)∧f 3=iV (h.length:Int)∧f 4=iV d∧f 5=iV o∧St w0 ros (box l 26 [k.v]::rs) w) e3 ⟨_,_,rfl,rfl,O,R,A,rfl,(b.facts (allT (allT allI)))⟩ ?_
    rintro _ _ w i4 ⟨o,f,rfl,rfl,t,x,u,y,b⟩ i X i5 f0 Z
    refine seqQ fun i6 f1 f2=>sR fun _ f3=>Ym (iV o) (eh y) (yY (yFb FL_26_0 (eh t)) (yY (lb_ k.v O_24 e0 b R0) (Ym (iV d) (eh u) (bE i fun i7 a0 i=>yY (yIa SL_24 e0 e0 b (rdI p) a0) ?_))))
    obtain ⟨i8,b⟩:=iLs b p a0
    refine yY (yCt O_22 e0 b F1 rfl) (yY (yLen SL_22 e0 b (rdI F0)) (yY (ylss e0 e0) (wK f3 ?_)))
    refine cIf e0 i (fun f4 i=>?_) fun f4 i=>?_
    ·refine wp_skip (f1 _ _ (seqQ fun i9 f5 f6=>blockQ fun _ a3=>sR fun _ f7=>yY (yFb FL_26_0 (eh t)) (yY (lb_ k.v O_24 e0 b R0) (Ym (iV d) (eh u) (bE i fun j0 a4 i=>yY (yIa SL_24 e0 e0 b (rdI (F_2 p)) a4) ?_)))))
     obtain ⟨j1,b⟩:=iLs b (F_2 p) a4
     refine yY (yCt O_22 e0 b F1 rfl) (Ym (iV o) (eh y) (bE i fun c a5 i=>yY (yIa SL_22 e0 e0 b (rdI F0) a5) (yY (yI O_3 e0 b (rdI F0) a5) (Ya (iV c) e0 (wK f7 (sR fun _ f8=>Ym (iV c) e0 (yY (ylss e0 rfl) (Ym (.bool (decide (c < 0))) e0 ?_))))))))
     refine joinW 4 (fun f w=>f 1=(pB l)∧f 3=iV (h.length:Int)∧f 4=iV d∧f 5=iV o∧f 6=iV c∧f 48=.bool ((decide (c < 0)) || (decide ((h.length:Int)≤c)))∧St w0 ros (box l 26 [k.v]::rs) w) (fun a6=>?_) ?_
     ·rcases Bool.eq_false_or_eq_true (decide (c < 0)) with m | m
      ·exact gN m (gN m (gN m (yY (pt_ (.bool true) e0 m rfl) (a6 _ _ ⟨t,x,u,y,rfl,(congrArg Value.bool (orT m)),(b.facts (allT (allT (allT (allT allI)))))⟩))))
      ·exact yG m (m_ (iV c) e0) (yG m (m_ (iV (h.length:Int)) (eh x)) (yG m (ygeq e0 e0) (yY (pf_ (.bool (decide ((h.length:Int)≤c))) e0 m e0) (a6 _ _ ⟨t,x,u,y,rfl,(congrArg Value.bool (orF m)),(b.facts (allT (allT (allT (allT allI)))))⟩))))
     rintro f w ⟨a7,a8,F,a9,G,f9,b⟩
     refine Ym (.bool ((decide (c < 0)) || (decide ((h.length:Int)≤c)))) (eh f9) ?_
     refine joinW 4 (fun f w=>f 1=(pB l)∧f 3=iV (h.length:Int)∧f 4=iV d∧f 5=iV o∧f 6=iV c∧f 53=.bool (((decide (c < 0)) || (decide ((h.length:Int)≤c))) || (decide (c=d)))∧St w0 ros (box l 26 [k.v]::rs) w) (fun b0=>?_) ?_
     ·rcases Bool.eq_false_or_eq_true ((decide (c < 0)) || (decide ((h.length:Int)≤c))) with n | n
      ·exact gN n (gN n (gN n (yY (pt_ (.bool true) e0 n rfl) (b0 _ _ ⟨a7,a8,F,a9,G,(congrArg Value.bool (orT n)),b⟩))))
      ·exact yG n (m_ (iV c) (eh G)) (yG n (m_ (iV d) (eh F)) (yG n (yeql e0 e0) (yY (pf_ (.bool (decide (c=d))) e0 n e0) (b0 _ _ ⟨a7,a8,F,a9,G,(congrArg Value.bool (orF n)),b⟩))))
     rintro f w ⟨H,b1,I,b2,g0,g1,b⟩
     refine Ym (.bool (((decide (c < 0)) || (decide ((h.length:Int)≤c))) || (decide (c=d)))) (eh g1) (bE i fun g2 q i=>?_)
     refine joinW 9 (fun f w=>f 1=(pB l)∧f 3=iV (h.length:Int)∧f 4=iV d∧f 5=iV o∧f 63=.bool g2∧St w0 ros (box l 26 [k.v]::rs) w) (fun b4=>?_) ?_
     ·rcases iteS q with ⟨g,q⟩ | ⟨g,q⟩
      ·refine gN g (gN g (gN g (gN g (gN g (gN g (gN g (gN g (yY (pt_ (.bool true) e0 g rfl) ?_))))))))
       cases q
       exact b4 _ _ ⟨H,b1,I,b2,rfl,b⟩
      ·refine yG (bfalse g) (yFb FL_26_0 (eh H)) (yG (bfalse g) (lb_ k.v O_24 e0 b R0) (yG (bfalse g) (m_ (iV c) (eh g0)) (bE q fun j2 b5 q=>yG (bfalse g) (yIa SL_24 e0 e0 b (rdI p) b5) ?_)))
       obtain ⟨j3,b⟩:=iLs b p b5
       refine yG (bfalse g) (yCt O_22 e0 b F1 rfl) (yG (bfalse g) (m_ (iV d) (eh I)) (bE q fun g3 g4 q=>Yc (wG (bfalse g)) rfl (yCall FN_37 (a2 e0 e0)) (sparsekit_In_ok g4 F0 b) ?_))
       rintro _ w ⟨rfl,b⟩
       refine ⟨_,rfl,?_⟩
       refine yG (bfalse g) (ynot e0) (yY (pf_ (.bool (!g3)) e0 (bfalse g) e0) ?_)
       cases q
       exact b4 _ _ ⟨H,b1,I,b2,rfl,(b.facts (allT (allT allI)))⟩
     rintro f w ⟨g5,g6,g7,g8,g9,b⟩
     refine wK f8 (cB (eh g9) i (fun h0 i=>?_) fun h0 i=>?_)
     ·refine sR fun _ h1=>Ya (iV 1) rfl (wK h1 (wp_ret (a3 _ _ _ (f6 _ _ _ rfl ?_))))
      cases i
      exact Z _ _ _ _ rfl rfl (e8 _ _ rfl (b.pk 1 [] rfl) (X _ rfl))
     ·refine wp_skip (a3 _ _ _ (f5 _ _ (wR (Ym (iV o) (eh g8) (yY (yadd e0 rfl) (Ya (iV (wa .i64 o 1)) e0 (wN ?_)))))))
      cases i
      exact f0 _ _ _ rfl ⟨_,_,rfl,rfl,g5,g6,g7,rfl,b⟩
    ·refine wp_exit (f2 _ _ _ rfl ?_)
     cases i
     exact Z _ _ _ _ rfl rfl (e4 _ _ t x u (b.facts (allT (allT allI))) (X _ rfl))
   ·refine condT e0 (nT (bfalse E)) (sR fun _ h3=>Ya (iV 1) rfl (wK h3 (wp_ret (d8 _ _ _ rfl (D _ _ _ (S _ _ _ rfl ?_))))))
    cases j
    exact C _ _ _ _ rfl rfl (N _ _ rfl ((b.pk 1 [] rfl).facts (allT (allT allI))) (B _ rfl))
  ·refine wp_exit (d3 _ _ _ rfl ?_)
   cases j
   exact C _ _ _ _ rfl rfl (c8 _ _ (b.pk 1 [] rfl) (B _ rfl))
theorem sparseref18_Ones_ok {I:L2} {c:Hdr} {out:L2×LI×L2} (C:sparseref18_Ones I=some out) (z:imm S1 c.v I∈ros) (b:St w0 ros rs w):
  Calls Tryz.prog 57 #[.agg #[c.v]] w (fun e w=>∃ (J K L:Hdr),e=.returned (.agg #[J.v,K.v,L.v])∧St w0 (imm S1 J.v out.1::ros) (row 3 I1 K.v out.2.1::row 22 S1 L.v out.2.2::rs) w):=by
 refine enterQ Tryz.func57 rfl Tryz.ntmps57 rfl fun Q a1=>sR fun _ a2=>yBb (r_box (vals:=[c.v]) b e0 rfl) fun o w b=>yBb (rAl b ZT_28) fun j w b=>wK a2 (sR fun _ a3=>yY (lbs_ [c.v] ST_26 e0 b R1) (yY (ybuild (us:=[c.v,hnil.v,hnil.v]) [(0,.agg #[c.v])] SO_28 (bp1 e0) rfl) (yBb (rAl b ZT_28) ?_)))
 refine fun k w b=>yT (r_stbn (vals':=[c.v,hnil.v,hnil.v]) (us:=[c.v,hnil.v,hnil.v]) b ST_28 e0 e0 rfl rfl (one_of rfl) rfl) fun w b=>wK a3 (sQ fun _ a4=>sR fun _ a5=>Ya (iV 0) rfl (wK a5 (blockQ fun a6 a7=>bE C fun a8 a9 C=>?_)))
 have b0:∀ (D:LI) (E:L2) (p q:Hdr) (f:FV) w,f 2=(pB j)→f 3=(pB k)→St w0 ros (box j 28 [hnil.v,hnil.v,hnil.v]::row 3 I1 p.v D::row 22 S1 q.v E::box k 28 [c.v,p.v,q.v]::rs) w→(D,E)=a8→a6 (.exit 0) (fr 41 f) w:=by
  intro D E p q f w N b1 b ho
  subst ho
  refine a7 _ _ _ (a4 _ _ (sR fun _ b2=>yY (lbs_ [c.v,p.v,q.v] ST_28 (eh b1) b R3) (yT (r_stbn (vals':=[c.v,p.v,q.v]) (us:=[c.v,p.v,q.v]) b ST_28 (eh N) e0 rfl rfl (one_of rfl) rfl) fun w b=>wK b2 (wp_ret ?_))))
  cases C
  exact a1 _ _ _ (fin1r Tryz.results57 (rcs2 rfl N b R0 ST_28 rfl) ⟨_,_,_,rfl,((b.pk 4 [1,1] rfl).facts (allC z allI))⟩)
 replace b:=(b.rowNh 3 I1).rowNh 22 S1
 refine loopQ (fun s a w=>∃ (u:LI) (x:L2) (g:Int) (f:FV) (m h:Hdr),(u,x,g)=s∧a=fr 41 f∧f 1=(pB o)∧f 2=(pB j)∧f 3=(pB k)∧f 4=iV g∧St w0 ros (box o 26 [c.v]::box j 28 [hnil.v,hnil.v,hnil.v]::row 3 I1 m.v u::row 22 S1 h.v x::box k 28 [c.v,m.v,h.v]::rs) w) a9 ⟨_,_,_,_,_,_,rfl,rfl,rfl,rfl,rfl,rfl,(b.pk 5 [4,3,1,0,0] rfl)⟩ ?_
 rintro _ _ w f3 ⟨u,x,g,f,m,h,rfl,rfl,O,R,S,T,b⟩ d b6 f4 b7 b8
 refine seqQ fun f5 b9 c0=>sR fun _ c1=>Ym (iV g) (eh T) (yY (yFb FL_26_0 (eh O)) (yY (lb_ c.v O_24 e0 b R0) (yY (yLen SL_24 e0 b (rdI z)) (yY (ylss e0 e0) (wK c1 ?_)))))
 refine cIf e0 d (fun c2 d=>?_) fun c2 d=>?_
 ·refine wp_skip (b9 _ _ (sQ fun _ c3=>blockQ fun _ c4=>sR fun _ c5=>Ya hnil.v rfl (wK c5 (sQ fun _ c6=>sR fun _ c7=>Ya (iV 0) rfl (wN ?_)))))
  refine c7 _ _ (blockQ fun c8 c9=>bE d fun d0 d1 d=>?_)
  have d2:∀ (A:LI) (r:Hdr) (f:FV) w,f 1=(pB o)→f 2=(pB j)→f 3=(pB k)→f 4=iV g→f 5=r.v→St w0 ros (box o 26 [c.v]::box j 28 [hnil.v,hnil.v,hnil.v]::row 3 I1 m.v u::row 22 S1 h.v x::box k 28 [c.v,m.v,h.v]::row 3 I1 r.v A::rs) w→A=d0→c8 (.exit 2) (fr 41 f) w:=by
   intro A r f w d3 d4 y d5 d6 b ho
   subst ho
   refine c9 _ _ _ (c6 _ _ (sR fun _ d7=>yY (yFb FL_28_1 (eh y)) (yY (lb_ m.v O_22 e0 b R4) (yH (rLt (n:=1) (l:=[1]) b SL_22 [iV 1] (bp1 rfl) rfl rfl (mks1 (cs:=[iV 1]) rfl mkI mks0)) fun f6 w b=>bE d fun f7 d8 d=>yH (rAp (b.pk 4 [3,0,0,0] rfl) SL_22 e0 e0 rO1 d8) fun U w b=>yY (yFb FL_28_1 (eh y)) (yT (r_stb1 (vals':=[c.v,U.v,h.v]) (b.pk 6 [5,0,0,0,0,0] rfl) O_22 e0 e0 rfl rfl rfl rfl) fun w b=>?_)))))
   refine wK d7 (wR (yY (yFb FL_28_2 (eh y)) (yY (lb_ h.v O_24 e0 b R0) (Ym r.v (eh d6) (yH (rLt (n:=1) (l:=[A]) ((b.pk 7 [6,0,0,0,0,0,0] rfl).fz) SL_24 [r.v] (bp1 e0) rfl rfl (mks1 (cs:=[r.v]) rfl (mkS F0) mks0)) fun f8 w b=>bE d fun f9 d9 d=>yH (rAp (b.pk 7 [6,0,0,0,0,0,0] rfl) SL_24 e0 e0 rO1 d9) fun e1 w b=>yY (yFb FL_28_2 (eh y)) (yT (r_stb1 (vals':=[c.v,U.v,e1.v]) (b.pk 3 [2,0,0] rfl) O_24 e0 e0 rfl rfl rfl rfl) fun w b=>?_))))))
   refine wN (c4 _ _ _ (c3 _ _ (wR (Ym (iV g) (eh d5) (yY (yadd e0 rfl) (Ya (iV (wa .i64 g 1)) e0 (wN ?_)))))))
   cases d
   exact b7 _ _ _ rfl ⟨_,_,_,_,_,_,rfl,rfl,d3,d4,y,rfl,((b.pk 7 [5,5,3,1,0] rfl).facts (allT allI))⟩
  replace b:=b.rowNh 3 I1
  refine loopQ (fun s a w=>∃ (F:LI) (t:Int) (f:FV) (B:Hdr),(F,t)=s∧a=fr 41 f∧f 1=(pB o)∧f 2=(pB j)∧f 3=(pB k)∧f 4=iV g∧f 5=B.v∧f 6=iV t∧St w0 ros (box o 26 [c.v]::box j 28 [hnil.v,hnil.v,hnil.v]::row 3 I1 m.v u::row 22 S1 h.v x::box k 28 [c.v,m.v,h.v]::row 3 I1 B.v F::rs) w) d1 ⟨_,_,_,_,rfl,rfl,O,R,S,T,rfl,rfl,(b.pk 6 [1,1,1,1,1,0] rfl)⟩ ?_
  rintro _ _ w g0 ⟨F,t,f,B,rfl,rfl,G,V,W,H,X,Z,b⟩ i e2 g1 e3 e4
  refine seqQ fun g2 e5 e6=>sR fun _ e7=>Ym (iV t) (eh Z) (yY (yFb FL_26_0 (eh G)) (yY (lb_ c.v O_24 e0 b R0) (Ym (iV g) (eh H) (bE i fun g3 a0 i=>yY (yIa SL_24 e0 e0 b (rdI z) a0) ?_))))
  obtain ⟨g4,b⟩:=iLs b z a0
  refine yY (yCt O_22 e0 b F1 rfl) (yY (yLen SL_22 e0 b (rdI F0)) (yY (ylss e0 e0) (wK e7 ?_)))
  refine cIf e0 i (fun e8 i=>?_) fun e8 i=>?_
  ·refine wp_skip (e5 _ _ (sQ fun _ e9=>blockQ fun _ f0=>wR (Ym B.v (eh X) (yH (rLt (n:=1) (l:=[1]) b SL_22 [iV 1] (bp1 rfl) rfl rfl (mks1 (cs:=[iV 1]) rfl mkI mks0)) fun g5 w b=>bE i fun g6 f1 i=>yH (rAp (b.pk 7 [6,0,0,0,0,0,0] rfl) SL_22 e0 e0 rO1 f1) fun f2 w b=>Ya f2.v e0 (wN (f0 _ _ _ ?_))))))
   refine e9 _ _ (wR (Ym (iV t) (eh Z) (yY (yadd e0 rfl) (Ya (iV (wa .i64 t 1)) e0 (wN ?_)))))
   cases i
   exact e3 _ _ _ rfl ⟨_,_,_,_,rfl,rfl,G,V,W,H,rfl,rfl,((b.pk 7 [2,2,2,2,2,0] rfl).facts (allT (allT allI)))⟩
  ·refine wp_exit (e6 _ _ _ rfl ?_)
   cases i
   exact e4 _ _ _ _ rfl rfl (d2 _ _ _ _ G V W H X (b.facts (allT (allT allI))) (e2 _ rfl))
 ·refine wp_exit (c0 _ _ _ rfl ?_)
  cases d
  exact b8 _ _ _ _ rfl rfl (b0 _ _ _ _ _ _ R S (b.pk 5 [1,1,1,1] rfl) (b6 _ rfl))
theorem sparseref18_edge_ok {r:L2} {t:LI} {u:L2} {g j:Int} {h k i:Hdr} {out:Int} (l:sparseref18_edge r t u g j=some out) (m:imm S1 h.v r∈ros) (b0:imm I1 k.v t∈ros) (x:imm S1 i.v u∈ros) (b:St w0 ros rs w):
  Calls Tryz.prog 55 #[.agg #[h.v,k.v,i.v],iV g,iV j] w (fun e w=>e=.returned (iV out)∧St w0 ros rs w):=by
 refine enterQ Tryz.func55 rfl Tryz.ntmps55 rfl fun Q y=>sR fun _ N=>yBb (r_box (vals:=[h.v,k.v,i.v]) b e0 rfl) fun z w b=>Ya (iV 0) rfl (wK N (seqQ fun b1 O R=>sR fun _ S=>Ya (iV 0) rfl (wK S ?_)))
 refine blockQ fun A B=>bE l fun C T l=>?_
 have U:∀ (f:FV) w,St w0 ros rs w→.inl ()=C→A (.exit 0) (fr 38 f) w:=by
  intro f w b ho
  subst ho
  refine B _ _ _ (O _ _ (sR fun _ V=>Ya (iV 0) rfl (wK V (wp_ret ?_))))
  cases l
  exact y _ _ _ (fin1r Tryz.results55 ⟨rfl,rfl⟩ ⟨rfl,b⟩)
 have W:∀ (q:Int) (f:FV) w,f 6=iV q→St w0 ros rs w→.inr q=C→A .ret (fr 38 f) w:=by
  intro q f w X b ho
  subst ho
  refine B _ _ _ (R _ _ _ rfl ?_)
  cases l
  exact y _ _ _ (fin1r Tryz.results55 ⟨rfl,X⟩ ⟨rfl,b⟩)
 refine loopQ (fun s a w=>∃ (d:Int) (f:FV),d=s∧a=fr 38 f∧f 1=iV g∧f 2=iV j∧f 3=(pB z)∧f 7=iV d∧St w0 ros (box z 28 [h.v,k.v,i.v]::rs) w) T ⟨_,_,rfl,rfl,rfl,rfl,rfl,rfl,b⟩ ?_
 rintro _ _ w b2 ⟨d,f,rfl,rfl,n,D,o,p,b⟩ c E b3 Z F
 refine seqQ fun b4 a0 a1=>sR fun _ a2=>Ym (iV d) (eh p) (yY (yFb FL_28_0 (eh o)) (yY (yFb FL_26_0 e0) (yY (lb_ h.v O_24 e0 b R0) (Ym (iV g) (eh n) (bE c fun b5 G c=>yY (yIa SL_24 e0 e0 b (rdI m) G) ?_)))))
 obtain ⟨b6,b⟩:=iLs b m G
 refine yY (yCt O_22 e0 b F1 rfl) (yY (yLen SL_22 e0 b (rdI F0)) (yY (ylss e0 e0) (wK a2 ?_)))
 refine cIf e0 c (fun a3 c=>?_) fun a3 c=>?_
 ·refine wp_skip (a0 _ _ (seqQ fun b7 a4 a5=>blockQ fun _ H=>sR fun _ a6=>yY (yFb FL_28_0 (eh o)) (yY (yFb FL_26_0 e0) (yY (lb_ h.v O_24 e0 b R0) (Ym (iV g) (eh n) (bE c fun b8 I c=>yY (yIa SL_24 e0 e0 b (rdI (F_2 m)) I) ?_))))))
  obtain ⟨c0,b⟩:=iLs b (F_2 m) I
  refine yY (yCt O_22 e0 b F1 rfl) (Ym (iV d) (eh p) (bE c fun c1 J c=>yY (yIa SL_22 e0 e0 b (rdI F0) J) (yY (yI O_3 e0 b (rdI F0) J) (Ym (iV j) (eh D) (yY (yeql e0 e0) (wK a6 ?_))))))
  refine cIf e0 c (fun a7 c=>?_) fun a7 c=>?_
  ·refine sR fun _ a8=>yY (yFb FL_28_2 (eh o)) (yY (lb_ i.v O_24 e0 b R0) (Ym (iV g) (eh n) (bE c fun c2 K c=>yY (yIa SL_24 e0 e0 b (rdI (F_4 x)) K) ?_)))
   obtain ⟨c3,b⟩:=iLs b (F_4 x) K
   refine yY (yCt O_22 e0 b F1 rfl) (Ym (iV d) (eh p) (bE c fun a9 L c=>yY (yIa SL_22 e0 e0 b (rdI F0) L) (yY (yI O_3 e0 b (rdI F0) L) (Ya (iV a9) e0 (wK a8 (wp_ret (H _ _ _ (a5 _ _ _ rfl ?_))))))))
   cases c
   exact F _ _ _ _ rfl rfl (W _ _ _ rfl ((b.pk 1 [] rfl).facts (allT (allT (allT (allT (allT (allT allI))))))) (E _ rfl))
  ·refine wp_skip (H _ _ _ (a4 _ _ (wR (Ym (iV d) (eh p) (yY (yadd e0 rfl) (Ya (iV (wa .i64 d 1)) e0 (wN ?_)))))))
   cases c
   exact Z _ _ _ rfl ⟨_,_,rfl,rfl,n,D,o,rfl,(b.facts (allT (allT (allT (allT allI)))))⟩
 ·refine wp_exit (a1 _ _ _ rfl ?_)
  cases c
  exact F _ _ _ _ rfl rfl (U _ _ ((b.pk 1 [] rfl).facts (allT (allT allI))) (E _ rfl))
theorem sparseref18_CheckWeighted_ok {d:L2} {J:LI} {O:L2} {j p k:Hdr} {out:Int} (h:sparseref18_CheckWeighted d J O=some out) (E:imm S1 j.v d∈ros) (H:imm I1 p.v J∈ros) (A:imm S1 k.v O∈ros) (b:St w0 ros rs w):
  Calls Tryz.prog 24 #[.agg #[j.v,p.v,k.v]] w (fun e w=>e=.returned (iV out)∧St w0 ros rs w):=by
 refine enterQ Tryz.func24 rfl Tryz.ntmps24 rfl fun Q K=>sR fun _ e1=>yBb (r_box (vals:=[j.v,p.v,k.v]) b e0 rfl) fun l w b=>Ya (iV 0) rfl (wK e1 (seqQ fun o3 e2 e3=>sR fun _ e4=>yY (yFb FL_28_0 e0) (yY (lbs_ [j.v] ST_26 e0 b R0) (bE h fun R e5 h=>?_))))
 refine yC (yCall FN_54 (a1 e0)) (sparseref12_Check_ok e5 E b) ?_
 rintro _ w ⟨rfl,b⟩
 refine ⟨_,rfl,?_⟩
 refine Ya (iV R) e0 (wK e4 (sR fun _ e6=>Ym (iV R) e0 (yY (yneq e0 rfl) (wK e6 ?_))))
 rcases iteS h with ⟨X,h⟩ | ⟨X,h⟩
 ·refine condF e0 (nF (dT X)) (wp_skip (e2 _ _ (sR fun _ e7=>yY (yFb FL_28_0 e0) (yY (yFb FL_26_0 e0) (yY (lb_ j.v O_24 e0 b R0) (yY (yLen SL_24 e0 b (rdI E)) (Ya (iV (d.length:Int)) e0 (wK e7 (seqQ fun o4 e8 e9=>sQ fun _ f0=>?_)))))))))
  refine wR (yY (yFb FL_28_1 e0) (yY (lb_ p.v O_22 e0 b R0) (yY (yLen SL_22 e0 b (rdI H)) (Ym (iV (d.length:Int)) e0 (yY (yneq e0 e0) (Ym (.bool (!(decide ((J.length:Int)=(d.length:Int))))) e0 ?_))))))
  refine joinW 6 (fun f w=>f 1=(pB l)∧f 4=iV (d.length:Int)∧f 30=.bool ((!(decide ((J.length:Int)=(d.length:Int)))) || (!(decide ((O.length:Int)=(d.length:Int)))))∧St w0 ros (box l 28 [j.v,p.v,k.v]::rs) w) (fun a8=>?_) ?_
  ·rcases Bool.eq_false_or_eq_true (!(decide ((J.length:Int)=(d.length:Int)))) with q | q
   ·exact gN q (gN q (gN q (gN q (gN q (yY (pt_ (.bool true) e0 q rfl) (a8 _ _ ⟨rfl,rfl,(congrArg Value.bool (orT q)),b⟩))))))
   ·exact yG q (yFb FL_28_2 e0) (yG q (lb_ k.v O_24 e0 b R0) (yG q (yLen SL_24 e0 b (rdI A)) (yG q (m_ (iV (d.length:Int)) e0) (yG q (yneq e0 e0) (yY (pf_ (.bool (!(decide ((O.length:Int)=(d.length:Int))))) e0 q e0) (a8 _ _ ⟨rfl,rfl,(congrArg Value.bool (orF q)),b⟩))))))
  rintro f w ⟨f1,f2,f3,b⟩
  refine wK f0 (cB (eh f3) h (fun f4 h=>?_) fun f4 h=>?_)
  ·refine sR fun _ f5=>Ya (iV 1) rfl (wK f5 (wp_ret (e9 _ _ _ rfl ?_)))
   cases h
   exact K _ _ _ (fin1r Tryz.results24 ⟨rfl,rfl⟩ ⟨rfl,(b.pk 1 [] rfl)⟩)
  ·refine wp_skip (e8 _ _ (seqQ fun o5 f6 f7=>sR fun _ f8=>Ya (iV 0) rfl (wK f8 (blockQ fun a9 b0=>bE h fun b1 f9 h=>?_))))
   have g0:∀ (f:FV) w,f 1=(pB l)→f 4=iV (d.length:Int)→St w0 ros (box l 28 [j.v,p.v,k.v]::rs) w→.inl ()=b1→a9 (.exit 0) (fr 109 f) w:=by
    intro f w g1 g2 b ho
    subst ho
    refine b0 _ _ _ (f6 _ _ (seqQ fun o6 g3 g4=>sR fun _ g5=>Ya (iV 0) rfl (wK g5 (blockQ fun b2 b3=>bE h fun b4 g6 h=>?_))))
    have g7:∀ (f:FV) w,St w0 ros rs w→.inl ()=b4→b2 (.exit 2) (fr 109 f) w:=by
     intro f w b ho
     subst ho
     refine b3 _ _ _ (g3 _ _ (sR fun _ g8=>Ya (iV 0) rfl (wK g8 (wp_ret ?_))))
     cases h
     exact K _ _ _ (fin1r Tryz.results24 ⟨rfl,rfl⟩ ⟨rfl,b⟩)
    have b5:∀ (f:FV) w,f 2=iV 1→St w0 ros rs w→.inr ()=b4→b2 .ret (fr 109 f) w:=by
     intro f w g9 b ho
     subst ho
     refine b3 _ _ _ (g4 _ _ _ rfl ?_)
     cases h
     exact K _ _ _ (fin1r Tryz.results24 ⟨rfl,g9⟩ ⟨rfl,b⟩)
    refine loopQ (fun s a w=>∃ (m:Int) (f:FV),m=s∧a=fr 109 f∧f 1=(pB l)∧f 4=iV (d.length:Int)∧f 6=iV m∧St w0 ros (box l 28 [j.v,p.v,k.v]::rs) w) g6 ⟨_,_,rfl,rfl,g1,g2,rfl,b⟩ ?_
    rintro _ _ w o7 ⟨m,f,rfl,rfl,S,Z,L,b⟩ o a0 o8 h0 a2
    refine seqQ fun o9 h1 h3=>sR fun _ h5=>Ym (iV m) (eh L) (Ym (iV (d.length:Int)) (eh Z) (yY (ylss e0 e0) (wK h5 ?_)))
    refine cIf e0 o (fun h7 o=>?_) fun h7 o=>?_
    ·refine wp_skip (h1 _ _ (seqQ fun p0 h8 b6=>blockQ fun _ a4=>seqQ fun p1 h9 i0=>sR fun _ i1=>yY (yFb FL_28_1 (eh S)) (yY (lb_ p.v O_22 e0 b R0) (Ym (iV m) (eh L) (bE o fun i2 b8 o=>yY (yIa SL_22 e0 e0 b (rdI H) b8) (yY (yI O_3 e0 b (rdI H) b8) (yY (ylss e0 rfl) ?_)))))))
     refine Ym (.bool (decide (i2 < 1))) e0 (bE o fun i3 F o=>?_)
     refine joinW 7 (fun f w=>f 1=(pB l)∧f 4=iV (d.length:Int)∧f 6=iV m∧f 68=.bool i3∧St w0 ros (box l 28 [j.v,p.v,k.v]::rs) w) (fun b9=>?_) ?_
     ·rcases iteS F with ⟨r,F⟩ | ⟨r,F⟩
      ·refine gN (dT r) (gN (dT r) (gN (dT r) (gN (dT r) (gN (dT r) (gN (dT r) (yY (pt_ (.bool true) e0 (dT r) rfl) ?_))))))
       cases F
       exact b9 _ _ ⟨S,Z,L,rfl,b⟩
      ·refine yG (dF r) (yFb FL_28_1 (eh S)) (yG (dF r) (lb_ p.v O_22 e0 b R0) (yG (dF r) (m_ (iV m) (eh L)) (bE F fun i4 c0 F=>yG (dF r) (yIa SL_22 e0 e0 b (rdI H) c0) (yG (dF r) (yI O_3 e0 b (rdI H) c0) (yG (dF r) (ygtr e0 rfl) (yY (pf_ (.bool (decide ((1099511627776:Int) < i4))) e0 (dF r) e0) ?_))))))
       cases F
       exact b9 _ _ ⟨S,Z,L,rfl,b⟩
     rintro f w ⟨i5,i6,i7,i8,b⟩
     refine wK i1 (cB (eh i8) o (fun i9 o=>?_) fun i9 o=>?_)
     ·refine sR fun _ j0=>Ya (iV 1) rfl (wK j0 (wp_ret (i0 _ _ _ rfl (a4 _ _ _ (b6 _ _ _ rfl ?_)))))
      cases o
      exact a2 _ _ _ _ rfl rfl (b5 _ _ rfl (b.pk 1 [] rfl) (a0 _ rfl))
     ·refine wp_skip (h9 _ _ (sR fun _ j2=>Ya (iV 0) rfl (wK j2 (blockQ fun c1 c2=>bE o fun c3 j3 o=>?_))))
      have j4:∀ (f:FV) w,f 1=(pB l)→f 4=iV (d.length:Int)→f 6=iV m→St w0 ros (box l 28 [j.v,p.v,k.v]::rs) w→.inl ()=c3→c1 (.exit 4) (fr 109 f) w:=by
       intro f w j5 j6 j7 b ho
       subst ho
       refine c2 _ _ _ (a4 _ _ _ (h8 _ _ (wR (Ym (iV m) (eh j7) (yY (yadd e0 rfl) (Ya (iV (wa .i64 m 1)) e0 (wN ?_)))))))
       cases o
       exact h0 _ _ _ rfl ⟨_,_,rfl,rfl,j5,j6,rfl,b⟩
      have j8:∀ (f:FV) w,f 2=iV 1→St w0 ros rs w→.inr ()=c3→c1 .ret (fr 109 f) w:=by
       intro f w j9 b ho
       subst ho
       refine c2 _ _ _ (a4 _ _ _ (b6 _ _ _ rfl ?_))
       cases o
       exact a2 _ _ _ _ rfl rfl (b5 _ _ j9 b (a0 _ rfl))
      refine loopQ (fun s a w=>∃ (z:Int) (f:FV),z=s∧a=fr 109 f∧f 1=(pB l)∧f 4=iV (d.length:Int)∧f 6=iV m∧f 7=iV z∧St w0 ros (box l 28 [j.v,p.v,k.v]::rs) w) j3 ⟨_,_,rfl,rfl,i5,i6,i7,rfl,b⟩ ?_
      rintro _ _ w p2 ⟨z,f,rfl,rfl,B,T,C,I,b⟩ g c4 p3 k0 c5
      refine seqQ fun p4 l0 l1=>sR fun _ l2=>Ym (iV z) (eh I) (yY (yFb FL_28_2 (eh B)) (yY (lb_ k.v O_24 e0 b R0) (Ym (iV m) (eh C) (bE g fun p5 c6 g=>yY (yIa SL_24 e0 e0 b (rdI A) c6) ?_))))
      obtain ⟨p6,b⟩:=iLs b A c6
      refine yY (yCt O_22 e0 b F1 rfl) (yY (yLen SL_22 e0 b (rdI F0)) (yY (ylss e0 e0) (wK l2 ?_)))
      refine cIf e0 g (fun l3 g=>?_) fun l3 g=>?_
      ·refine wp_skip (l0 _ _ (seqQ fun p7 l4 l5=>blockQ fun _ c7=>sR fun _ l6=>yY (yFb FL_28_2 (eh B)) (yY (lb_ k.v O_24 e0 b R0) (Ym (iV m) (eh C) (bE g fun p8 c8 g=>yY (yIa SL_24 e0 e0 b (rdI (F_2 A)) c8) ?_)))))
       obtain ⟨p9,b⟩:=iLs b (F_2 A) c8
       refine yY (yCt O_22 e0 b F1 rfl) (Ym (iV z) (eh I) (bE g fun x d0 g=>yY (yIa SL_22 e0 e0 b (rdI F0) d0) (yY (yI O_3 e0 b (rdI F0) d0) (Ya (iV x) e0 (wK l6 (sQ fun _ l7=>bE g fun G N g=>bE g fun U t g=>?_))))))
       refine joinN (n:=109) (fun f w=>f 1=(pB l)∧f 4=iV (d.length:Int)∧f 6=iV m∧f 7=iV z∧f 108=.bool U∧St w0 ros (box l 28 [j.v,p.v,k.v]::rs) w) (fun a5=>?_) ?_
       ·rcases iteS N with ⟨y,N⟩ | ⟨y,N⟩
        ·have d1:=someI N
         have i:G=true:=d1.symm
         rw [if_pos i] at t
         have l8:=someI t
         refine dR [0,1,3,7,15,31,63,127,127,127,639,1663,127,7807,15999,127,65151,130687,127,524159,1048575,2097151] [19] 1 folM ?_
         replace b:=b.drew
         refine Dn [0,1,2,3,4,5,6,7,8,9,10,11,12,13,14,15,16,17,18] [] [19] (yR rfl (m_ (iV x) e0) (yR rfl (ylss e0 rfl) (yR rfl (m_ (.bool (decide (x < 1))) e0) (Rx rfl rfl (wX (dT y)) (Rx rfl rfl (wX (dT y)) (yR rfl (pt_ (.bool G) e0 (dT y) (eqv d1 rfl)) (yR rfl (m_ (.bool G) e0) (Rx rfl rfl (wX i) (Rx rfl rfl (wX i) (Rx rfl rfl (wX i) (Rx rfl rfl (wX i) (Rx rfl rfl (wX i) (Rx rfl rfl (wX i) ?_)))))))))))))
         refine Rx rfl rfl (wX i) (Rx rfl rfl (wX i) (Rx rfl rfl (wX i) (Rx rfl rfl (wX i) (Rx rfl rfl (wX i) (Rx rfl rfl (wX i) (Rn QSn ?_))))))
         refine Lc1 rfl ?_
         exact Lx (wX i) (Dz [20,21] [7] (Rx rfl rfl (wX i) (yR rfl (pt_ (.bool U) e0 i (eqv l8 rfl)) (Rn (Sx_ rfl rfl (wX i) rfl QSn) (a5 _ _ ⟨B,T,C,I,rfl,(b.facts (allT (allT (allT (allT allI)))))⟩)))))
        ·have d2:=someI N
         rcases iteS t with ⟨c,t⟩ | ⟨c,t⟩
         ·have l9:=someI t
          refine dR [0,1,3,7,15,31,63,127,127,127,639,1663,127,7807,15999,127,65151,130687,127,524159,1048575,2097151] [19] 1 folM ?_
          replace b:=b.drew
          refine Dn [0,1,2,3,4,5,6,7,8,9,10,11,12,13,14,15,16,17,18] [] [19] (yR rfl (m_ (iV x) e0) (yR rfl (ylss e0 rfl) (yR rfl (m_ (.bool (decide (x < 1))) e0) (Ry rfl rfl (wG (dF y)) (m_ (iV x) e0) (Ry rfl rfl (wG (dF y)) (ygtr e0 rfl) (yR rfl (pf_ (.bool G) e0 (dF y) (eqv d2 e0)) (yR rfl (m_ (.bool G) e0) (Rx rfl rfl (wX c) (Rx rfl rfl (wX c) (Rx rfl rfl (wX c) (Rx rfl rfl (wX c) (Rx rfl rfl (wX c) (Rx rfl rfl (wX c) ?_)))))))))))))
          refine Rx rfl rfl (wX c) (Rx rfl rfl (wX c) (Rx rfl rfl (wX c) (Rx rfl rfl (wX c) (Rx rfl rfl (wX c) (Rx rfl rfl (wX c) (Rn QSn ?_))))))
          refine Lc1 rfl ?_
          exact Lx (wX c) (Dz [20,21] [7] (Rx rfl rfl (wX c) (yR rfl (pt_ (.bool U) e0 c (eqv l9 rfl)) (Rn (Sx_ rfl rfl (wX c) rfl QSn) (a5 _ _ ⟨B,T,C,I,rfl,(b.facts (allT (allT (allT (allT allI)))))⟩)))))
         ·refine bE t fun q0 d3 t=>bE t fun q4 d4 t=>bE t fun q5 m0 t=>?_
          have m1:=someI t
          refine dR [0,1,3,7,15,31,63,127,127,127,639,1663,127,7807,15999,127,65151,130687,127,524159,1048575,2097151] [19] 1 folM ?_
          replace b:=b.drew
          refine Dn [0,1,2,3,4,5,6,7,8,9,10,11,12,13,14,15,16,17,18] [] [19] (yR rfl (m_ (iV x) e0) (yR rfl (ylss e0 rfl) (yR rfl (m_ (.bool (decide (x < 1))) e0) (Ry rfl rfl (wG (dF y)) (m_ (iV x) e0) (Ry rfl rfl (wG (dF y)) (ygtr e0 rfl) (yR rfl (pf_ (.bool G) e0 (dF y) (eqv d2 e0)) (yR rfl (m_ (.bool G) e0) (Ry rfl rfl (wG (bfalse c)) (m_ (iV x) e0) (Ry rfl rfl (wG (bfalse c)) (lbs_ [j.v,p.v,k.v] ST_28 (eh B) b R0) (Ry rfl rfl (wG (bfalse c)) (yFb FL_28_0 (eh B)) (Ry rfl rfl (wG (bfalse c)) (yFb FL_26_0 e0) (Ry rfl rfl (wG (bfalse c)) (lb_ j.v O_24 e0 b R0) (Ry rfl rfl (wG (bfalse c)) (m_ (iV m) (eh C)) ?_)))))))))))))
          refine Ry rfl rfl (wG (bfalse c)) (yIa SL_24 e0 e0 b (rdI (F_4 E)) d3) ?_
          obtain ⟨q6,b⟩:=iLs b (F_4 E) d3
          refine Ry rfl rfl (wG (bfalse c)) (yCt O_22 e0 b F1 rfl) (Ry rfl rfl (wG (bfalse c)) (m_ (iV z) (eh I)) (Ry rfl rfl (wG (bfalse c)) (yIa SL_22 e0 e0 b (rdI F0) d4) (Ry rfl rfl (wG (bfalse c)) (yI O_3 e0 b (rdI F0) d4) (Ry rfl rfl (wG (bfalse c)) (m_ (iV m) (eh C)) (Rn QSn ?_)))))
          refine Lc1 rfl ?_
          refine Lk (wG (bfalse c)) (yCall FN_55 (a3 e0 e0 e0)) (sparseref18_edge_ok m0 (F_6 E) (F_6 H) (F_6 A) b) ?_
          rintro _ w ⟨rfl,b⟩
          refine ⟨_,rfl,?_⟩
          exact Dz [20,21] [7] (Ry rfl rfl (wG (bfalse c)) (yneq e0 e0) (yR rfl (pf_ (.bool U) e0 (bfalse c) (eqv m1 e0)) (Rn (Sy rfl rfl (wG (bfalse c)) (m_ (iV x) e0) rfl QSn) (a5 _ _ ⟨B,T,C,I,rfl,(b.facts (allT (allT (allT (allT (allT (allT allI)))))))⟩))))
       rintro f w ⟨m2,m3,m4,m5,m6,b⟩
       refine l7 _ _ (cB (eh m6) g (fun m7 g=>?_) fun m7 g=>?_)
       ·refine sR fun _ m8=>Ya (iV 1) rfl (wK m8 (wp_ret (c7 _ _ _ (l5 _ _ _ rfl ?_))))
        cases g
        exact c5 _ _ _ _ rfl rfl (j8 _ _ rfl (b.pk 1 [] rfl) (c4 _ rfl))
       ·refine wp_skip (c7 _ _ _ (l4 _ _ (wR (Ym (iV z) (eh m5) (yY (yadd e0 rfl) (Ya (iV (wa .i64 z 1)) e0 (wN ?_)))))))
        cases g
        exact k0 _ _ _ rfl ⟨_,_,rfl,rfl,m2,m3,m4,rfl,b⟩
      ·refine wp_exit (l1 _ _ _ rfl ?_)
       cases g
       exact c5 _ _ _ _ rfl rfl (j4 _ _ B T C (b.facts (allT (allT allI))) (c4 _ rfl))
    ·refine wp_exit (h3 _ _ _ rfl ?_)
     cases o
     exact a2 _ _ _ _ rfl rfl (g7 _ _ (b.pk 1 [] rfl) (a0 _ rfl))
   have m9:∀ (f:FV) w,f 2=iV 1→St w0 ros rs w→.inr ()=b1→a9 .ret (fr 109 f) w:=by
    intro f w n0 b ho
    subst ho
    refine b0 _ _ _ (f7 _ _ _ rfl ?_)
    cases h
    exact K _ _ _ (fin1r Tryz.results24 ⟨rfl,n0⟩ ⟨rfl,b⟩)
   refine loopQ (fun s a w=>∃ (D:Int) (f:FV),D=s∧a=fr 109 f∧f 1=(pB l)∧f 4=iV (d.length:Int)∧f 5=iV D∧St w0 ros (box l 28 [j.v,p.v,k.v]::rs) w) f9 ⟨_,_,rfl,rfl,f1,f2,rfl,b⟩ ?_
   rintro _ _ w q7 ⟨D,f,rfl,rfl,V,a6,W,b⟩ u d5 q8 n1 d6
   refine seqQ fun q9 n3 n4=>sR fun _ n5=>Ym (iV D) (eh W) (Ym (iV (d.length:Int)) (eh a6) (yY (ylss e0 e0) (wK n5 ?_)))
   refine cIf e0 u (fun n6 u=>?_) fun n6 u=>?_
   ·refine wp_skip (n3 _ _ (seqQ fun r0 n7 n8=>blockQ fun _ d7=>sQ fun _ n9=>bE u fun r1 d8 u=>bE u fun r2 d9 u=>dR [0,1,0,7,15,31,0,64,192,0,960,1984,4032,8191] [] 0 folM ?_))
    replace b:=b.drew
    refine Dz [0,1,2,3,4,5,6,7,8,9,10,11,12,13] [] (yR rfl (yFb FL_28_2 (eh V)) (yR rfl (lb_ k.v O_24 e0 b R0) (yR rfl (m_ (iV D) (eh W)) (yR rfl (yIa SL_24 e0 e0 b (rdI A) d8) ?_))))
    obtain ⟨r3,b⟩:=iLs b A d8
    refine yR rfl (yCt O_22 e0 b F1 rfl) (yR rfl (yLen SL_22 e0 b (rdI F0)) (yR rfl (yFb FL_28_0 (eh V)) (yR rfl (yFb FL_26_0 e0) (yR rfl (lb_ j.v O_24 e0 b R0) (yR rfl (m_ (iV D) (eh W)) (yR rfl (yIa SL_24 e0 e0 b (rdI (F_2 E)) d9) ?_))))))
    obtain ⟨r4,b⟩:=iLs b (F_2 E) d9
    refine yR rfl (yCt O_22 e0 b F1 rfl) (yR rfl (yLen SL_22 e0 b (rdI F0)) (yR rfl (yneq e0 e0) (Rn QSn (n9 _ _ ?_))))
    rcases iteS u with ⟨a7,u⟩ | ⟨a7,u⟩
    ·refine condF e0 (nF (dT a7)) (wp_skip (d7 _ _ _ (n7 _ _ (wR (Ym (iV D) (eh W) (yY (yadd e0 rfl) (Ya (iV (wa .i64 D 1)) e0 (wN ?_))))))))
     cases u
     exact n1 _ _ _ rfl ⟨_,_,rfl,rfl,V,a6,rfl,(b.facts (allT (allT (allT (allT allI)))))⟩
    ·refine condT e0 (nT (dF a7)) (sR fun _ o0=>Ya (iV 1) rfl (wK o0 (wp_ret (d7 _ _ _ (n8 _ _ _ rfl ?_)))))
     cases u
     exact d6 _ _ _ _ rfl rfl (m9 _ _ rfl ((b.pk 1 [] rfl).facts (allT (allT (allT (allT allI))))) (d5 _ rfl))
   ·refine wp_exit (n4 _ _ _ rfl ?_)
    cases u
    exact d6 _ _ _ _ rfl rfl (g0 _ _ V a6 b (d5 _ rfl))
 ·refine condT e0 (nT (dF X)) (sR fun _ o1=>Ym (iV R) e0 (Ya (iV R) e0 (wK o1 (wp_ret (e3 _ _ _ rfl ?_)))))
  cases h
  exact K _ _ _ (fin1r Tryz.results24 ⟨rfl,rfl⟩ ⟨rfl,(b.pk 1 [] rfl)⟩)
theorem sparseref18_Match_ok {b1:L2} {o:LI} {b2:L2} {p q j:Hdr} {out:LI×Int} (m:sparseref18_Match b1 o b2=some out) (T:imm S1 p.v b1∈ros) (b3:imm I1 q.v o∈ros) (u:imm S1 j.v b2∈ros) (b:St w0 ros rs w):
  Calls Tryz.prog 12 #[.agg #[p.v,q.v,j.v]] w (fun e w=>∃ (b4:Hdr),e=.returned (.tuple #[b4.v,iV out.2])∧St w0 ros (row 3 I1 b4.v out.1::rs) w):=by
 refine enterQ Tryz.func12 rfl Tryz.ntmps12 rfl fun Q b5=>sR fun _ d8=>yBb (r_box (vals:=[p.v,q.v,j.v]) b e0 rfl) fun k w b=>Ya hnil.v rfl (Ya (iV 0) rfl (wK d8 (seqQ fun o8 d9 e1=>sR fun _ e2=>yY (lbs_ [p.v,q.v,j.v] ST_28 e0 b R0) (bE m fun H e3 m=>?_))))
 refine yC (yCall FN_24 (a1 e0)) (sparseref18_CheckWeighted_ok e3 T b3 u b) ?_
 rintro _ w ⟨rfl,b⟩
 refine ⟨_,rfl,?_⟩
 refine Ya (iV H) e0 (wK e2 (sR fun _ e4=>Ym (iV H) e0 (yY (yneq e0 rfl) (wK e4 ?_))))
 rcases iteS m with ⟨U,m⟩ | ⟨U,m⟩
 ·refine condF e0 (nF (dT U)) (wp_skip (d9 _ _ (sR fun _ e5=>yY (yFb FL_28_1 e0) (yY (lb_ q.v O_22 e0 b R0) (yY (yLen SL_22 e0 b (rdI b3)) (Ya (iV (o.length:Int)) e0 (wK e5 (sR fun _ e6=>Ya hnil.v rfl ?_))))))))
  refine wK e6 (sQ fun _ e7=>sR fun _ e8=>Ya (iV 0) rfl (wK e8 (blockQ fun e9 f0=>bE m fun f1 f2 m=>?_)))
  have f3:∀ (V:LI) (c:Hdr) (f:FV) w,f 1=(pB k)→f 5=iV (o.length:Int)→f 6=c.v→St w0 ros (box k 28 [p.v,q.v,j.v]::row 3 I1 c.v V::rs) w→V=f1→e9 (.exit 0) (fr 94 f) w:=by
   intro V c f w f4 f5 f6 b ho
   subst ho
   refine f0 _ _ _ (e7 _ _ (sQ fun _ f7=>sR fun _ f8=>Ya (iV 0) rfl (wK f8 (blockQ fun f9 g0=>bE m fun g1 g2 m=>?_))))
   have g3:∀ (W:LI) (f:FV) w,f 6=c.v→St w0 ros (row 3 I1 c.v W::rs) w→W=g1→f9 (.exit 2) (fr 94 f) w:=by
    intro W f w g4 b ho
    subst ho
    refine g0 _ _ _ (f7 _ _ (sR fun _ g5=>Ym c.v (eh g4) (Ya c.v e0 (Ya (iV 0) rfl (wK g5 (wp_ret ?_))))))
    cases m
    exact b5 _ _ _ (fin2r Tryz.results12 ⟨rfl,rfl⟩ ⟨rfl,rfl⟩ ⟨_,rfl,b⟩)
   refine loopQ (fun s a w=>∃ (x:LI) (d:Int) (f:FV),(x,d)=s∧a=fr 94 f∧f 1=(pB k)∧f 5=iV (o.length:Int)∧f 6=c.v∧f 8=iV d∧St w0 ros (box k 28 [p.v,q.v,j.v]::row 3 I1 c.v x::rs) w) g2 ⟨_,_,_,rfl,rfl,f4,f5,f6,rfl,b⟩ ?_
   rintro _ _ w g6 ⟨x,d,f,rfl,rfl,b6,X,I,E,b⟩ i g7 o9 g8 g9
   refine seqQ fun p0 h0 h1=>sR fun _ h3=>Ym (iV d) (eh E) (Ym (iV (o.length:Int)) (eh X) (yY (ylss e0 e0) (wK h3 ?_)))
   refine cIf e0 i (fun h5 i=>?_) fun h5 i=>?_
   ·refine wp_skip (h0 _ _ (sQ fun h7 h8=>?_))
    have b8:∀ (Z:LI) (f:FV) w,f 1=(pB k)→f 5=iV (o.length:Int)→f 6=c.v→f 8=iV d→St w0 ros (box k 28 [p.v,q.v,j.v]::row 3 I1 c.v Z::rs) w→sparseref18_Match_j61 d Z=some g6→h7 .normal (fr 94 f) w:=by
     intro Z f w h9 i0 i1 i2 b m
     refine h8 _ _ (wR (Ym (iV d) (eh i2) (yY (yadd e0 rfl) (Ya (iV (wa .i64 d 1)) e0 (wN ?_)))))
     cases m
     exact g8 _ _ _ rfl ⟨_,_,_,rfl,rfl,h9,i0,i1,rfl,b⟩
    refine blockQ fun _ b9=>seqQ fun p1 i3 i4=>sR fun _ i5=>Ym c.v (eh I) (Ym (iV d) (eh E) (bE i fun p2 c0 i=>yY (yIa SL_22 e0 e0 b rO1 c0) (yY (yI O_3 e0 b rO1 c0) (yY (ygeq e0 rfl) (wK i5 ?_)))))
    refine cIf e0 i (fun i6 i=>?_) fun i6 i=>?_
    ·exact wp_exit (i4 _ _ _ rfl (b9 _ _ _ (b8 _ _ _ b6 X I E b i)))
    ·refine wp_skip (i3 _ _ (sR fun _ i7=>Ym (iV d) (eh E) (Ya (iV d) e0 (Ya (iV 0) rfl (wK i7 (sQ fun _ i8=>sR fun _ i9=>Ya (iV 0) rfl (wN ?_)))))))
     refine i9 _ _ (blockQ fun j0 j1=>bE i fun j2 j3 i=>?_)
     have j4:∀ (z:Int) (f:FV) w,f 1=(pB k)→f 5=iV (o.length:Int)→f 6=c.v→f 8=iV d→f 9=iV z→St w0 ros (box k 28 [p.v,q.v,j.v]::row 3 I1 c.v x::rs) w→z=j2→j0 (.exit 4) (fr 94 f) w:=by
      intro z f w j5 j6 a0 a2 c1 b ho
      subst ho
      refine j1 _ _ _ (i8 _ _ (wR (Ym c.v (eh a0) (Ym (iV d) (eh a2) (Ym c.v (eh a0) (Ym (iV z) (eh c1) (Ym (iV z) (eh c1) (Ym (iV d) (eh a2) (bE i fun p3 c2 i=>yY (yIs SL_22 e0 e0 b rO1 c2) (yT (r_sti (cs:=[iV z]) (b.pk 2 [1,0] rfl) O_3 rfl e0 e0 rfl mkI c2) fun w b=>bE i fun p4 c3 i=>?_))))))))))
      exact yY (yIs SL_22 e0 e0 b rO0 c3) (yT (r_sti (cs:=[iV d]) b O_3 rfl e0 e0 rfl mkI c3) fun w b=>wN (b9 _ _ _ (b8 _ _ _ j5 j6 a0 a2 (b.pk 2 [1,0] rfl) i)))
     refine loopQ (fun s a w=>∃ (J A r:Int) (f:FV),(J,A,r)=s∧a=fr 94 f∧f 1=(pB k)∧f 5=iV (o.length:Int)∧f 6=c.v∧f 8=iV d∧f 9=iV J∧f 10=iV A∧f 11=iV r∧St w0 ros (box k 28 [p.v,q.v,j.v]::row 3 I1 c.v x::rs) w) j3 ⟨_,_,_,_,rfl,rfl,b6,X,I,E,rfl,rfl,rfl,b⟩ ?_
     rintro _ _ w j7 ⟨J,A,r,f,rfl,rfl,B,a3,K,C,a4,a5,F,b⟩ g j8 p5 j9 k0
     refine seqQ fun p6 k9 l0=>sR fun _ l1=>Ym (iV r) (eh F) (yY (yFb FL_28_2 (eh B)) (yY (lb_ j.v O_24 e0 b R0) (Ym (iV d) (eh C) (bE g fun p7 c4 g=>yY (yIa SL_24 e0 e0 b (rdI u) c4) ?_))))
     obtain ⟨p8,b⟩:=iLs b u c4
     refine yY (yCt O_22 e0 b F1 rfl) (yY (yLen SL_22 e0 b (rdI F0)) (yY (ylss e0 e0) (wK l1 ?_)))
     refine cIf e0 g (fun l2 g=>?_) fun l2 g=>?_
     ·refine wp_skip (k9 _ _ (sQ fun _ l3=>blockQ fun l4 l5=>sR fun _ l6=>yY (yFb FL_28_0 (eh B)) (yY (yFb FL_26_0 e0) (yY (lb_ p.v O_24 e0 b R0) (Ym (iV d) (eh C) (bE g fun p9 c5 g=>yY (yIa SL_24 e0 e0 b (rdI (F_2 T)) c5) ?_))))))
      obtain ⟨q0,b⟩:=iLs b (F_2 T) c5
      refine yY (yCt O_22 e0 b F1 rfl) (Ym (iV r) (eh F) (bE g fun G c6 g=>yY (yIa SL_22 e0 e0 b (rdI F0) c6) (yY (yI O_3 e0 b (rdI F0) c6) (Ya (iV G) e0 (wK l6 (sR fun _ l7=>Ym c.v (eh K) (Ym (iV G) e0 (bE g fun l8 c7 g=>yY (yIa SL_22 e0 e0 b rO1 c7) ?_))))))))
      refine yY (yI O_3 e0 b rO1 c7) (yY (ylss e0 rfl) (Ym (.bool (decide (l8 < 0))) e0 (bE g fun l9 t g=>?_)))
      refine joinW 11 (fun f w=>f 1=(pB k)∧f 5=iV (o.length:Int)∧f 6=c.v∧f 8=iV d∧f 9=iV J∧f 10=iV A∧f 11=iV r∧f 12=iV G∧f 75=.bool l9∧St w0 ros (box k 28 [p.v,q.v,j.v]::row 3 I1 c.v x::rs) w) (fun c8=>?_) ?_
      ·rcases iteS t with ⟨h,t⟩ | ⟨h,t⟩
       ·refine yG (dT h) (yFb FL_28_2 (eh B)) (yG (dT h) (lb_ j.v O_24 e0 b R0) (yG (dT h) (m_ (iV d) (eh C)) (bE t fun q4 d0 t=>yG (dT h) (yIa SL_24 e0 e0 b (rdI (F_4 u)) d0) ?_)))
        obtain ⟨q5,b⟩:=iLs b (F_4 u) d0
        refine yG (dT h) (yCt O_22 e0 b F1 rfl) (yG (dT h) (m_ (iV r) (eh F)) (bE t fun m0 d1 t=>yG (dT h) (yIa SL_22 e0 e0 b (rdI F0) d1) (yG (dT h) (yI O_3 e0 b (rdI F0) d1) (yG (dT h) (m_ (iV A) (eh a5)) (yG (dT h) (ygtr e0 e0) (yY (pt_ (.bool (decide (A < m0))) e0 (dT h) e0) ?_))))))
        cases t
        exact c8 _ _ ⟨B,a3,K,C,a4,a5,F,rfl,rfl,(b.facts (allT (allT (allT (allT (allT (allT allI)))))))⟩
       ·refine gN (dF h) (gN (dF h) (gN (dF h) (gN (dF h) (gN (dF h) (gN (dF h) (gN (dF h) (gN (dF h) (gN (dF h) (gN (dF h) (yY (pf_ (.bool false) e0 (dF h) rfl) ?_))))))))))
        cases t
        exact c8 _ _ ⟨B,a3,K,C,a4,a5,F,rfl,rfl,(b.facts (allT (allT (allT (allT allI)))))⟩
      rintro f w ⟨L,d2,d3,N,m1,m2,O,m3,m4,b⟩
      refine wK l7 ?_
      have d4:∀ (a6 a7:Int) (f:FV) w,f 1=(pB k)→f 5=iV (o.length:Int)→f 6=c.v→f 8=iV d→f 9=iV a6→f 10=iV a7→f 11=iV r→St w0 ros (box k 28 [p.v,q.v,j.v]::row 3 I1 c.v x::rs) w→sparseref18_Match_j68 r a6 a7=some j7→l4 .normal (fr 94 f) w:=by
       intro a6 a7 f w m5 m6 m7 m8 m9 n0 n2 b m
       refine l5 _ _ _ (l3 _ _ (wR (Ym (iV r) (eh n2) (yY (yadd e0 rfl) (Ya (iV (wa .i64 r 1)) e0 (wN ?_))))))
       cases m
       exact j9 _ _ _ rfl ⟨_,_,_,_,rfl,rfl,m5,m6,m7,m8,m9,n0,rfl,b⟩
      refine cB (eh m4) g (fun n3 g=>?_) fun n3 g=>?_
      ·refine bE g fun q6 a8 g=>bE g fun n4 R g=>dR [0,0,2,0,14,30,0,126,254,1,1023] [9,10] 2 folM ?_
       replace b:=b.drew
       refine Dn [0,1,2,3,4,5,6,7,8] [] [9] (yR rfl (m_ (iV G) (eh m3)) (yR rfl (yFb FL_28_2 (eh L)) (yR rfl (lb_ j.v O_24 e0 b R0) (yR rfl (m_ (iV d) (eh N)) (yR rfl (yIa SL_24 e0 e0 b (rdI u) a8) ?_)))))
       obtain ⟨q7,b⟩:=iLs b u a8
       refine yR rfl (yCt O_22 e0 b F1 rfl) (yR rfl (m_ (iV r) (eh O)) (yR rfl (yIa SL_22 e0 e0 b (rdI F0) R) (yR rfl (yI O_3 e0 b (rdI F0) R) (Rn QSn ?_))))
       refine Lc1 rfl ?_
       refine Ly wn (a_ (iV G) e0) (Dn [] [1,2,3,4,5,6,7,8] [10] (Rn (yS rfl (yFb FL_28_2 (eh L)) (yS rfl (lb_ j.v O_24 e0 b R0) (yS rfl (m_ (iV d) (eh N)) (yS rfl (yIa SL_24 e0 e0 b (rdI (F_2 u)) a8) (yS rfl (yCt O_22 e0 b F1 rfl) (yS rfl (m_ (iV r) (eh O)) (yS rfl (yIa SL_22 e0 e0 b (rdI F0) R) (yS rfl (yI O_3 e0 b (rdI F0) R) QSn)))))))) ?_))
       refine Lc1 rfl ?_
       exact Ly wn (a_ (iV n4) e0) (Dz [] [] (Rn QSn (d4 _ _ _ _ L d2 d3 N rfl rfl O (b.facts (allT (allT allI))) g)))
      ·exact wp_skip (d4 _ _ _ _ L d2 d3 N m1 m2 O b g)
     ·refine wp_exit (l0 _ _ _ rfl ?_)
      cases g
      exact k0 _ _ _ _ rfl rfl (j4 _ _ _ B a3 K C a4 (b.facts (allT (allT allI))) (j8 _ rfl))
   ·refine wp_exit (h1 _ _ _ rfl ?_)
    cases i
    exact g9 _ _ _ _ rfl rfl (g3 _ _ _ I (b.pk 2 [1] rfl) (g7 _ rfl))
  replace b:=b.rowNh 3 I1
  refine loopQ (fun s a w=>∃ (a9:LI) (D:Int) (f:FV) (S:Hdr),(a9,D)=s∧a=fr 94 f∧f 1=(pB k)∧f 5=iV (o.length:Int)∧f 6=S.v∧f 7=iV D∧St w0 ros (box k 28 [p.v,q.v,j.v]::row 3 I1 S.v a9::rs) w) f2 ⟨_,_,_,_,rfl,rfl,rfl,rfl,rfl,rfl,(b.pk 2 [1,0] rfl)⟩ ?_
  rintro _ _ w q8 ⟨a9,D,f,S,rfl,rfl,d5,b0,d6,d7,b⟩ y n5 q9 n6 n7
  refine seqQ fun r0 n8 n9=>sR fun _ o0=>Ym (iV D) (eh d7) (Ym (iV (o.length:Int)) (eh b0) (yY (ylss e0 e0) (wK o0 ?_)))
  refine cIf e0 y (fun o2 y=>?_) fun o2 y=>?_
  ·refine wp_skip (n8 _ _ (sQ fun _ o3=>blockQ fun _ o4=>wR (Ym S.v (eh d6) (yH (rLt (n:=1) (l:=[(-1)]) b SL_22 [iV (-1)] (bp1 rfl) rfl rfl (mks1 (cs:=[iV (-1)]) rfl mkI mks0)) fun r1 w b=>bE y fun r2 o5 y=>yH (rAp (b.pk 3 [2,0,0] rfl) SL_22 e0 e0 rO1 o5) fun o6 w b=>Ya o6.v e0 (wN (o4 _ _ _ ?_))))))
   refine o3 _ _ (wR (Ym (iV D) (eh d7) (yY (yadd e0 rfl) (Ya (iV (wa .i64 D 1)) e0 (wN ?_)))))
   cases y
   exact n6 _ _ _ rfl ⟨_,_,_,_,rfl,rfl,d5,b0,rfl,rfl,(b.pk 3 [2,0] rfl)⟩
  ·refine wp_exit (n9 _ _ _ rfl ?_)
   cases y
   exact n7 _ _ _ _ rfl rfl (f3 _ _ _ _ d5 b0 d6 b (n5 _ rfl))
 ·refine condT e0 (nT (dF U)) (sR fun _ o7=>Ym (iV H) e0 (Ya hnil.v rfl (Ya (iV H) e0 (wK o7 (wp_ret (e1 _ _ _ rfl ?_))))))
  cases m
  replace b:=b.rowNh 3 I1
  exact b5 _ _ _ (fin2r Tryz.results12 ⟨rfl,rfl⟩ ⟨rfl,rfl⟩ ⟨_,rfl,(b.pk 2 [0] rfl)⟩)
theorem sparseref18_Total_ok {p:L2} {q:LI} {r:L2} {j g k:Hdr} {out:Int} (l:sparseref18_Total p q r=some out) (X:imm S1 j.v p∈ros) (m:imm I1 g.v q∈ros) (Z:imm S1 k.v r∈ros) (b:St w0 ros rs w):
  Calls Tryz.prog 75 #[.agg #[j.v,g.v,k.v]] w (fun e w=>e=.returned (iV out)∧St w0 ros rs w):=by
 refine enterQ Tryz.func75 rfl Tryz.ntmps75 rfl fun Q y=>sR fun _ z=>yBb (r_box (vals:=[j.v,g.v,k.v]) b e0 rfl) fun t w b=>Ya (iV 0) rfl (wK z (sR fun _ A=>Ya (iV 0) rfl (wK A (sQ fun _ B=>?_))))
 refine sR fun _ C=>Ya (iV 0) rfl (wK C (blockQ fun D E=>bE l fun F G l=>?_))
 have H:∀ (h:Int) (f:FV) w,f 3=iV h→St w0 ros rs w→h=F→D (.exit 0) (fr 20 f) w:=by
  intro h f w I b ho
  subst ho
  refine E _ _ _ (B _ _ (sR fun _ J=>Ym (iV h) (eh I) (Ya (iV h) e0 (wK J (wp_ret ?_)))))
  cases l
  exact y _ _ _ (fin1r Tryz.results75 ⟨rfl,rfl⟩ ⟨rfl,b⟩)
 refine loopQ (fun s a w=>∃ (i c:Int) (f:FV),(i,c)=s∧a=fr 20 f∧f 1=(pB t)∧f 3=iV i∧f 4=iV c∧St w0 ros (box t 28 [j.v,g.v,k.v]::rs) w) G ⟨_,_,_,rfl,rfl,rfl,rfl,rfl,b⟩ ?_
 rintro _ _ w a0 ⟨i,c,f,rfl,rfl,n,u,o,b⟩ d K a1 L N
 refine seqQ fun a2 O R=>sR fun _ S=>Ym (iV c) (eh o) (yY (yFb FL_28_1 (eh n)) (yY (lb_ g.v O_22 e0 b R0) (yY (yLen SL_22 e0 b (rdI m)) (yY (ylss e0 e0) (wK S ?_)))))
 refine cIf e0 d (fun T d=>?_) fun T d=>?_
 ·refine wp_skip (O _ _ (sQ fun _ U=>blockQ fun _ V=>wR (Ym (iV i) (eh u) (yY (yFb FL_28_1 (eh n)) (yY (lb_ g.v O_22 e0 b R0) (Ym (iV c) (eh o) (bE d fun W x d=>yY (yIa SL_22 e0 e0 b (rdI m) x) (yY (yI O_3 e0 b (rdI m) x) (yY (yadd e0 e0) (Ya (iV (wa .i64 i W)) e0 ?_))))))))))
  refine wN (V _ _ _ (U _ _ (wR (Ym (iV c) (eh o) (yY (yadd e0 rfl) (Ya (iV (wa .i64 c 1)) e0 (wN ?_)))))))
  cases d
  exact L _ _ _ rfl ⟨_,_,_,rfl,rfl,n,rfl,rfl,b⟩
 ·refine wp_exit (R _ _ _ rfl ?_)
  cases d
  exact N _ _ _ _ rfl rfl (H _ _ _ u (b.pk 1 [] rfl) (K _ rfl))
theorem sparseref12_Levels_ok {g:L2} {j:Int} {k:Hdr} {out:L2} (p:sparseref12_Levels g j=some out) (S:imm S1 k.v g∈ros) (b:St w0 ros rs w):
  Calls Tryz.prog 78 #[.agg #[k.v],iV j] w (fun e w=>∃ (d5:Hdr),e=.returned (d5.v)∧St w0 ros (row 22 S1 d5.v out::rs) w):=by
 refine enterQ Tryz.func78 rfl Tryz.ntmps78 rfl fun Q d6=>sR fun _ g0=>yBb (r_box (vals:=[k.v]) b e0 rfl) fun c w b=>Ya hnil.v rfl (wK g0 (sR fun _ g1=>yY (yFb FL_26_0 e0) (yY (lb_ k.v O_24 e0 b R0) (yY (yLen SL_24 e0 b (rdI S)) (Ya (iV (g.length:Int)) e0 ?_)))))
 refine wK g1 (seqQ fun u5 g2 g3=>sR fun _ g4=>yY (lbs_ [k.v] ST_26 e0 b R0) (bE p fun K g5 p=>yC (yCall FN_54 (a1 e0)) (sparseref12_Check_ok g5 S b) ?_))
 rintro _ w ⟨rfl,b⟩
 refine ⟨_,rfl,?_⟩
 refine yY (yneq e0 rfl) (Ym (.bool (!(decide (K=0)))) e0 ?_)
 refine joinW 3 (fun f w=>f 1=iV j∧f 2=(pB c)∧f 5=iV (g.length:Int)∧f 24=.bool ((!(decide (K=0))) || (decide (j < 0)))∧St w0 ros (box c 26 [k.v]::rs) w) (fun d7=>?_) ?_
 ·rcases Bool.eq_false_or_eq_true (!(decide (K=0))) with C | C
  ·exact gN C (gN C (yY (pt_ (.bool true) e0 C rfl) (d7 _ _ ⟨rfl,rfl,rfl,(congrArg Value.bool (orT C)),b⟩)))
  ·exact yG C (m_ (iV j) e0) (yG C (ylss e0 rfl) (yY (pf_ (.bool (decide (j < 0))) e0 C e0) (d7 _ _ ⟨rfl,rfl,rfl,(congrArg Value.bool (orF C)),b⟩)))
 rintro f w ⟨a5,d8,a6,g6,b⟩
 refine Ym (.bool ((!(decide (K=0))) || (decide (j < 0)))) (eh g6) ?_
 refine joinW 4 (fun f w=>f 1=iV j∧f 2=(pB c)∧f 5=iV (g.length:Int)∧f 29=.bool (((!(decide (K=0))) || (decide (j < 0))) || (decide ((g.length:Int)≤j)))∧St w0 ros (box c 26 [k.v]::rs) w) (fun d9=>?_) ?_
 ·rcases Bool.eq_false_or_eq_true ((!(decide (K=0))) || (decide (j < 0))) with y | y
  ·exact gN y (gN y (gN y (yY (pt_ (.bool true) e0 y rfl) (d9 _ _ ⟨a5,d8,a6,(congrArg Value.bool (orT y)),b⟩))))
  ·exact yG y (m_ (iV j) (eh a5)) (yG y (m_ (iV (g.length:Int)) (eh a6)) (yG y (ygeq e0 e0) (yY (pf_ (.bool (decide ((g.length:Int)≤j))) e0 y e0) (d9 _ _ ⟨a5,d8,a6,(congrArg Value.bool (orF y)),b⟩))))
 rintro f w ⟨e1,g7,e2,g8,b⟩
 refine wK g4 (cB (eh g8) p (fun g9 p=>?_) fun g9 p=>?_)
 ·refine sR fun _ h0=>Ya hnil.v rfl (wK h0 (wp_ret (g3 _ _ _ rfl ?_)))
  cases p
  replace b:=b.rowNh 22 S1
  exact d6 _ _ _ (fin1r Tryz.results78 ⟨rfl,rfl⟩ ⟨_,rfl,(b.pk 2 [0] rfl)⟩)
 ·refine wp_skip (g2 _ _ (sR fun _ h1=>Ym (iV (g.length:Int)) (eh e2) (bE p fun u6 h3 p=>yH (rMk b SL_93 e0 h3) fun d w b=>Ya d.v e0 (wK h1 (sR fun _ h4=>Ym d.v e0 ?_)))))
  refine Ym (iV j) (eh e1) (bE p fun u7 e3 p=>yY (yIs SL_93 e0 e0 b rO0 e3) (yT (r_sti (cs:=[.bool true]) b O_4 rfl e0 rfl rfl mkB e3) fun w b=>wK h4 (sR fun _ h5=>Ym (iV j) (eh e1) (yH (rLt (n:=1) (l:=[j]) b SL_22 [iV j] (bp1 e0) rfl rfl (mks1 (cs:=[iV j]) rfl mkI mks0)) fun h6 w b=>Ya h6.v e0 (wN ?_)))))
  refine h5 _ _ (sR fun _ h7=>Ya hnil.v rfl (wK h7 (sQ fun _ h8=>blockQ fun h9 i0=>bE p fun i1 i2 p=>?_)))
  have i3:∀ (a7:L2) (N:Hdr) (f:FV) w,f 8=N.v→St w0 ros (row 22 S1 N.v a7::rs) w→a7=i1→h9 (.exit 0) (fr 107 f) w:=by
   intro a7 N f w i4 b ho
   subst ho
   refine i0 _ _ _ (h8 _ _ (sR fun _ i5=>Ym N.v (eh i4) (Ya N.v e0 (wK i5 (wp_ret ?_)))))
   cases p
   exact d6 _ _ _ (fin1r Tryz.results78 ⟨rfl,rfl⟩ ⟨_,rfl,b⟩)
  replace b:=b.rowNh 22 S1
  refine loopQ (fun s a w=>∃ (E:List Bool) (F:LI) (a8:L2) (f:FV) (m T:Hdr),(E,F,a8)=s∧a=fr 107 f∧f 2=(pB c)∧f 5=iV (g.length:Int)∧f 6=d.v∧f 7=m.v∧f 8=T.v∧St w0 ros (box c 26 [k.v]::row 4 rB d.v E::row 3 I1 m.v F::row 22 S1 T.v a8::rs) w) i2 ⟨_,_,_,_,_,_,rfl,rfl,g7,e2,rfl,rfl,rfl,(b.pk 4 [3,2,1,0] rfl)⟩ ?_
  rintro _ _ w u8 ⟨E,F,a8,f,m,T,rfl,rfl,i6,e4,i7,a9,e5,b⟩ u i8 u9 i9 j0
  refine seqQ fun v0 j3 j4=>sR fun _ j5=>Ym m.v (eh a9) (yY (yLen SL_22 e0 b rO2) (yY (ygtr e0 rfl) (wK j5 ?_)))
  refine cIf e0 u (fun j6 u=>?_) fun j6 u=>?_
  ·refine wp_skip (j3 _ _ (blockQ fun _ j7=>sR fun _ j8=>Ym T.v (eh e5) (Ym m.v (eh a9) (yH (rLt (n:=1) (l:=[F]) ((b.pk 3 [2,0,0] rfl).fz) SL_24 [m.v] (bp1 e0) rfl rfl (mks1 (cs:=[m.v]) rfl (mkS F0) mks0)) fun v1 w b=>bE u fun G j9 u=>yH (rAp (b.pk 4 [3,0,0,0] rfl) SL_24 e0 e0 rO1 j9) fun o w b=>Ya o.v e0 (wN ?_)))))
   refine j8 _ _ (sR fun _ k0=>Ym (iV (g.length:Int)) (eh e4) (bE u fun v2 l0 u=>yH (rMk b SL_93 e0 l0) fun h w b=>Ya h.v e0 (wK k0 (sQ fun _ l1=>sR fun _ l2=>Ya (iV 0) rfl ?_))))
   refine wK l2 (blockQ fun l3 l4=>bE u fun l5 l6 u=>?_)
   have l7:∀ (O:List Bool) (f:FV) w,f 2=(pB c)→f 5=iV (g.length:Int)→f 6=d.v→f 8=o.v→f 9=h.v→St w0 ros (box c 26 [k.v]::row 4 rB d.v E::row 22 S1 o.v G::row 4 rB h.v O::rs) w→O=l5→l3 (.exit 2) (fr 107 f) w:=by
    intro O f w l8 l9 m0 m1 m2 b ho
    subst ho
    refine l4 _ _ _ (l1 _ _ (sR fun _ m3=>Ya hnil.v rfl (wK m3 (sQ fun _ m4=>sR fun _ m5=>Ya (iV 0) rfl (wK m5 (blockQ fun m6 m7=>?_))))))
    refine bE u fun m8 m9 u=>?_
    have n0:∀ (b0:List Bool) (b1:LI) (R:Hdr) (f:FV) w,f 2=(pB c)→f 5=iV (g.length:Int)→f 6=d.v→f 8=o.v→f 13=R.v→St w0 ros (box c 26 [k.v]::row 4 rB d.v b0::row 22 S1 o.v G::row 3 I1 R.v b1::rs) w→(b0,b1)=m8→m6 (.exit 6) (fr 107 f) w:=by
     intro b0 b1 R f w n1 n2 n3 n4 n5 b ho
     subst ho
     refine m7 _ _ _ (m4 _ _ (wR (Ym R.v (eh n5) (Ya R.v e0 (wN (j7 _ _ _ ?_))))))
     cases u
     exact i9 _ _ _ rfl ⟨_,_,_,_,_,_,rfl,rfl,n1,n2,n3,rfl,n4,(b.pk 4 [0,0,1,0] rfl)⟩
    replace b:=b.rowNh 3 I1
    refine loopQ (fun s a w=>∃ (b2:List Bool) (b3:LI) (t:Int) (f:FV) (U:Hdr),(b2,b3,t)=s∧a=fr 107 f∧f 2=(pB c)∧f 5=iV (g.length:Int)∧f 6=d.v∧f 8=o.v∧f 9=h.v∧f 13=U.v∧f 14=iV t∧St w0 ros (box c 26 [k.v]::row 4 rB d.v b2::row 22 S1 o.v G::row 4 rB h.v O::row 3 I1 U.v b3::rs) w) m9 ⟨_,_,_,_,_,rfl,rfl,l8,l9,m0,m1,m2,rfl,rfl,(b.pk 5 [1,1,1,1,0] rfl)⟩ ?_
    rintro _ _ w n6 ⟨b2,b3,t,f,U,rfl,rfl,b5,V,W,b6,b7,b8,L,b⟩ q n7 v3 n8 n9
    refine seqQ fun v4 o0 o1=>sR fun _ o2=>Ym (iV t) (eh L) (Ym (iV (g.length:Int)) (eh V) (yY (ylss e0 e0) (wK o2 ?_)))
    refine cIf e0 q (fun o3 q=>?_) fun o3 q=>?_
    ·refine wp_skip (o0 _ _ (sQ fun _ o4=>blockQ fun o5 o6=>sR fun _ o7=>Ym h.v (eh b7) (Ym (iV t) (eh L) (bE q fun v5 e6 q=>yY (yIa SL_93 e0 e0 b rO3 e6) (yY (yB O_4 e0 b rO3 e6) (wK o7 ?_))))))
     have e7:∀ (b9:List Bool) (c0:LI) (c1:Hdr) (f:FV) w,f 2=(pB c)→f 5=iV (g.length:Int)→f 6=d.v→f 8=o.v→f 9=h.v→f 13=c1.v→f 14=iV t→St w0 ros (box c 26 [k.v]::row 4 rB d.v b9::row 22 S1 o.v G::row 4 rB h.v O::row 3 I1 c1.v c0::rs) w→sparseref12_Levels_j98 t b9 c0=some n6→o5 .normal (fr 107 f) w:=by
      intro b9 c0 c1 f w o8 o9 p0 p1 p2 p3 p4 b p
      refine o6 _ _ _ (o4 _ _ (wR (Ym (iV t) (eh p4) (yY (yadd e0 rfl) (Ya (iV (wa .i64 t 1)) e0 (wN ?_))))))
      cases p
      exact n8 _ _ _ rfl ⟨_,_,_,_,_,rfl,rfl,o8,o9,p0,p1,p2,p3,rfl,b⟩
     refine cB e0 q (fun p5 q=>?_) fun p5 q=>?_
     ·refine sR fun _ p6=>Ym U.v (eh b8) (Ym (iV t) (eh L) (yH (rLt (n:=1) (l:=[t]) b SL_22 [iV t] (bp1 e0) rfl rfl (mks1 (cs:=[iV t]) rfl mkI mks0)) fun v6 w b=>bE q fun v7 p7 q=>yH (rAp (b.pk 6 [5,0,0,0,0,0] rfl) SL_22 e0 e0 rO1 p7) fun p8 w b=>Ya p8.v e0 (wK p6 (wR (Ym d.v (eh W) ?_)))))
      exact Ym (iV t) (eh L) (bE q fun v8 e8 q=>yY (yIs SL_93 e0 e0 b rO3 e8) (yT (r_sti (cs:=[.bool true]) (b.pk 4 [3,0,0,0] rfl) O_4 rfl e0 rfl rfl mkB e8) fun w b=>wN (e7 _ _ _ _ _ b5 V W b6 b7 rfl L (b.pk 6 [3,0,2,2,0] rfl) q)))
     ·exact wp_skip (e7 _ _ _ _ _ b5 V W b6 b7 b8 L b q)
    ·refine wp_exit (o1 _ _ _ rfl ?_)
     cases q
     exact n9 _ _ _ _ rfl rfl (n0 _ _ _ _ _ b5 V W b6 b8 (b.pk 5 [0,0,0,1] rfl) (n7 _ rfl))
   refine loopQ (fun s a w=>∃ (c2:List Bool) (B:Int) (f:FV),(c2,B)=s∧a=fr 107 f∧f 2=(pB c)∧f 5=iV (g.length:Int)∧f 6=d.v∧f 7=m.v∧f 8=o.v∧f 9=h.v∧f 10=iV B∧St w0 (imm I1 m.v F::ros) (box c 26 [k.v]::row 4 rB d.v E::row 22 S1 o.v G::row 4 rB h.v c2::rs) w) l6 ⟨_,_,_,rfl,rfl,i6,e4,i7,a9,rfl,rfl,rfl,(b.pk 5 [3,3,1,0] rfl)⟩ ?_
   rintro _ _ w v9 ⟨c2,B,f,rfl,rfl,c3,e9,f0,c4,f1,f2,c5,b⟩ z p9 w1 q0 q2
   refine seqQ fun w2 q3 q4=>sR fun _ q5=>Ym (iV B) (eh c5) (Ym m.v (eh c4) (yY (yLen SL_22 e0 b (rdI F0)) (yY (ylss e0 e0) (wK q5 ?_))))
   refine cIf e0 z (fun q6 z=>?_) fun q6 z=>?_
   ·refine wp_skip (q3 _ _ (sQ fun _ q7=>blockQ fun _ q8=>sQ fun _ q9=>bE z fun w3 f3 z=>bE z fun f4 f5 z=>dR [0,1,0,0,12,28,63,127,255] [8] 1 folM ?_))
    replace b:=b.drew
    refine Dn [0,1,2,3,4,5,6,7] [] [8] (yR rfl (yFb FL_26_0 (eh c3)) (yR rfl (lb_ k.v O_24 e0 b R0) (yR rfl (m_ m.v (eh c4)) (yR rfl (m_ (iV B) (eh c5)) (yR rfl (yIa SL_22 e0 e0 b (rdI F0) f3) (yR rfl (yI O_3 e0 b (rdI F0) f3) (yR rfl (yIa SL_24 e0 e0 b (rdI (mtF S)) f5) ?_)))))))
    obtain ⟨A,b⟩:=iLs b (mtF S) f5
    refine yR rfl (yCt O_22 e0 b F1 rfl) (Rn QSn ?_)
    refine Lc1 rfl ?_
    refine Ly wn (a_ A.v e0) (Dz [] [] (Rn QSn (q9 _ _ (sR fun _ r0=>Ya (iV 0) rfl (wK r0 (blockQ fun r1 r2=>bE z fun r3 r4 z=>?_))))))
    have r6:∀ (c6:List Bool) (f:FV) w,f 2=(pB c)→f 5=iV (g.length:Int)→f 6=d.v→f 7=m.v→f 8=o.v→f 9=h.v→f 10=iV B→St w0 (imm I1 m.v F::ros) (box c 26 [k.v]::row 4 rB d.v E::row 22 S1 o.v G::row 4 rB h.v c6::rs) w→c6=r3→r1 (.exit 4) (fr 107 f) w:=by
     intro c6 f w r7 r8 r9 s0 s1 s2 s3 b ho
     subst ho
     refine r2 _ _ _ (q8 _ _ _ (q7 _ _ (wR (Ym (iV B) (eh s3) (yY (yadd e0 rfl) (Ya (iV (wa .i64 B 1)) e0 (wN ?_)))))))
     cases z
     exact q0 _ _ _ rfl ⟨_,_,_,rfl,rfl,r7,r8,r9,s0,s1,s2,rfl,b⟩
    refine loopQ (fun s a w=>∃ (c8:List Bool) (x:Int) (f:FV),(c8,x)=s∧a=fr 107 f∧f 2=(pB c)∧f 5=iV (g.length:Int)∧f 6=d.v∧f 7=m.v∧f 8=o.v∧f 9=h.v∧f 10=iV B∧f 11=A.v∧f 12=iV x∧St w0 (imm I1 m.v F::imm I1 A.v f4::ros) (box c 26 [k.v]::row 4 rB d.v E::row 22 S1 o.v G::row 4 rB h.v c8::rs) w) r4 ⟨_,_,_,rfl,rfl,c3,e9,f0,c4,f1,f2,c5,rfl,rfl,(b.facts (allC F2 (allC F0 (allT (allT (allT allI))))))⟩ ?_
    rintro _ _ w w4 ⟨c8,x,f,rfl,rfl,d0,d1,X,d2,d3,J,d4,H,I,b⟩ r s4 w5 s5 s6
    refine seqQ fun w6 s7 s8=>sR fun _ s9=>Ym (iV x) (eh I) (Ym A.v (eh H) (yY (yLen SL_22 e0 b (rdI F1)) (yY (ylss e0 e0) (wK s9 ?_))))
    refine cIf e0 r (fun t0 r=>?_) fun t0 r=>?_
    ·refine wp_skip (s7 _ _ (sQ fun _ t1=>blockQ fun _ t2=>bE r fun w7 Z r=>bE r fun w8 a0 r=>bE r fun f6 a2 r=>bE r fun a3 D r=>bE r fun t3 a4 r=>?_))
     refine joinN (n:=107) (fun f w=>f 2=(pB c)∧f 5=iV (g.length:Int)∧f 6=d.v∧f 7=m.v∧f 8=o.v∧f 9=h.v∧f 10=iV B∧f 11=A.v∧f 12=iV x∧St w0 (imm I1 m.v F::imm I1 A.v f4::ros) (box c 26 [k.v]::row 4 rB d.v E::row 22 S1 o.v G::row 4 rB h.v t3::rs) w) (fun f7=>?_) ?_
     ·rcases iteS D with ⟨i,D⟩ | ⟨i,D⟩
      ·have t4:=someI D
       refine dR [0,0,0,6,14,0,0,0,192,448,992,2016,4064,8160,8160,8160,57312,122848,262112,524256,1048544,2097120,4194303,8388607] [23] 1 folM ?_
       replace b:=b.drew
       refine Dn [0,1,2,3,4,5,6,7,8,9,10,11,12,13,14,15,16,17,18,19,20,21,22] [] [23] (yR rfl (m_ h.v (eh J)) (yR rfl (m_ A.v (eh H)) (yR rfl (m_ (iV x) (eh I)) (yR rfl (yIa SL_22 e0 e0 b (rdI F1) Z) (yR rfl (yI O_3 e0 b (rdI F1) Z) (yR rfl (m_ h.v (eh J)) (yR rfl (m_ A.v (eh H)) (yR rfl (m_ (iV x) (eh I)) (yR rfl (yIa SL_22 e0 e0 b (rdI F1) a0) (yR rfl (yI O_3 e0 b (rdI F1) a0) (yR rfl (yIa SL_93 e0 e0 b rO3 a2) (yR rfl (yB O_4 e0 b rO3 a2) (yR rfl (m_ (.bool f6) e0) ?_)))))))))))))
       refine Rx rfl rfl (wX i) (Rx rfl rfl (wX i) (Rx rfl rfl (wX i) (Rx rfl rfl (wX i) (Rx rfl rfl (wX i) (Rx rfl rfl (wX i) (Rx rfl rfl (wX i) (Rx rfl rfl (wX i) (yR rfl (pt_ (.bool a3) e0 i (eqv t4 rfl)) (yR rfl (yIs SL_93 e0 e0 b rO3 a4) (Rn QSn ?_))))))))))
       refine Lc1 rfl ?_
       replace b:=b.pk 4 [3,0,0,0] rfl
       exact LT wn (r_sti (cs:=[.bool a3]) b O_4 rfl e0 e0 rfl mkB a4) fun w b=>Dz [] [] (Rn QSn (f7 _ _ ⟨d0,d1,X,d2,d3,J,d4,H,I,(b.pk 4 [1,1,1,0] rfl)⟩))
      ·refine bE D fun w9 f8 D=>bE D fun x0 f9 D=>?_
       have t5:=someI D
       refine dR [0,0,0,6,14,0,0,0,192,448,992,2016,4064,8160,8160,8160,57312,122848,262112,524256,1048544,2097120,4194303,8388607] [23] 1 folM ?_
       replace b:=b.drew
       refine Dn [0,1,2,3,4,5,6,7,8,9,10,11,12,13,14,15,16,17,18,19,20,21,22] [] [23] (yR rfl (m_ h.v (eh J)) (yR rfl (m_ A.v (eh H)) (yR rfl (m_ (iV x) (eh I)) (yR rfl (yIa SL_22 e0 e0 b (rdI F1) Z) (yR rfl (yI O_3 e0 b (rdI F1) Z) (yR rfl (m_ h.v (eh J)) (yR rfl (m_ A.v (eh H)) (yR rfl (m_ (iV x) (eh I)) (yR rfl (yIa SL_22 e0 e0 b (rdI F1) a0) (yR rfl (yI O_3 e0 b (rdI F1) a0) (yR rfl (yIa SL_93 e0 e0 b rO3 a2) (yR rfl (yB O_4 e0 b rO3 a2) (yR rfl (m_ (.bool f6) e0) ?_)))))))))))))
       refine Ry rfl rfl (wG (bfalse i)) (m_ d.v (eh X)) (Ry rfl rfl (wG (bfalse i)) (m_ A.v (eh H)) (Ry rfl rfl (wG (bfalse i)) (m_ (iV x) (eh I)) (Ry rfl rfl (wG (bfalse i)) (yIa SL_22 e0 e0 b (rdI F1) f8) (Ry rfl rfl (wG (bfalse i)) (yI O_3 e0 b (rdI F1) f8) (Ry rfl rfl (wG (bfalse i)) (yIa SL_93 e0 e0 b rO1 f9) (Ry rfl rfl (wG (bfalse i)) (yB O_4 e0 b rO1 f9) (Ry rfl rfl (wG (bfalse i)) (ynot e0) (yR rfl (pf_ (.bool a3) e0 (bfalse i) (eqv t5 e0)) (yR rfl (yIs SL_93 e0 e0 b rO3 a4) (Rn QSn ?_))))))))))
       refine Lc1 rfl ?_
       replace b:=b.pk 4 [3,0,0,0] rfl
       exact LT wn (r_sti (cs:=[.bool a3]) b O_4 rfl e0 e0 rfl mkB a4) fun w b=>Dz [] [] (Rn QSn (f7 _ _ ⟨d0,d1,X,d2,d3,J,d4,H,I,(b.pk 4 [1,1,1,0] rfl)⟩))
     rintro f w ⟨t6,t7,t8,t9,u0,u1,u2,u3,u4,b⟩
     refine t2 _ _ _ (t1 _ _ (wR (Ym (iV x) (eh u4) (yY (yadd e0 rfl) (Ya (iV (wa .i64 x 1)) e0 (wN ?_))))))
     cases r
     exact s5 _ _ _ rfl ⟨_,_,_,rfl,rfl,t6,t7,t8,t9,u0,u1,u2,u3,rfl,b⟩
    ·refine wp_exit (s8 _ _ _ rfl ?_)
     cases r
     exact s6 _ _ _ _ rfl rfl (r6 _ _ _ d0 d1 X d2 d3 J d4 (b.facts (allC F0 (allT (allT allI)))) (s4 _ rfl))
   ·refine wp_exit (q4 _ _ _ rfl ?_)
    cases z
    exact q2 _ _ _ _ rfl rfl (l7 _ _ _ c3 e9 f0 f1 f2 (b.facts (allT allI)) (p9 _ rfl))
  ·refine wp_exit (j4 _ _ _ rfl ?_)
   cases u
   exact j0 _ _ _ _ rfl rfl (i3 _ _ _ _ e5 (b.pk 4 [3] rfl) (i8 _ rfl))
theorem sparseref12_Components_ok {j:L2} {k:Hdr} {out:L2} (m:sparseref12_Components j=some out) (O:imm S1 k.v j∈ros) (b:St w0 ros rs w):
  Calls Tryz.prog 77 #[.agg #[k.v]] w (fun e w=>∃ (c0:Hdr),e=.returned (c0.v)∧St w0 ros (row 22 S1 c0.v out::rs) w):=by
 refine enterQ Tryz.func77 rfl Tryz.ntmps77 rfl fun Q c1=>sR fun _ e7=>yBb (r_box (vals:=[k.v]) b e0 rfl) fun g w b=>Ya hnil.v rfl (wK e7 (seqQ fun s8 e8 e9=>sR fun _ f0=>yY (lbs_ [k.v] ST_26 e0 b R0) (bE m fun s9 f1 m=>yC (yCall FN_54 (a1 e0)) (sparseref12_Check_ok f1 O b) ?_)))
 rintro _ w ⟨rfl,b⟩
 refine ⟨_,rfl,?_⟩
 refine yY (yneq e0 rfl) (wK f0 ?_)
 rcases iteS m with ⟨R,m⟩ | ⟨R,m⟩
 ·refine condF e0 (nF (dT R)) (wp_skip (e8 _ _ (sR fun _ f2=>yY (yFb FL_26_0 e0) (yY (lb_ k.v O_24 e0 b R0) (yY (yLen SL_24 e0 b (rdI O)) (Ya (iV (j.length:Int)) e0 (wK f2 (sR fun _ f3=>Ym (iV (j.length:Int)) e0 ?_))))))))
  refine bE m fun t0 f4 m=>yH (rMk b SL_93 e0 f4) fun c w b=>Ya c.v e0 (wK f3 (sR fun _ f5=>Ya hnil.v rfl (wK f5 (sQ fun _ f6=>sR fun _ f7=>?_))))
  refine Ya (iV 0) rfl (wK f7 (blockQ fun f8 f9=>bE m fun g0 g1 m=>?_))
  have g2:∀ (S:L2) (D:Hdr) (f:FV) w,f 5=D.v→St w0 ros (row 22 S1 D.v S::rs) w→S=g0→f8 (.exit 0) (fr 80 f) w:=by
   intro S D f w g3 b ho
   subst ho
   refine f9 _ _ _ (f6 _ _ (sR fun _ g4=>Ym D.v (eh g3) (Ya D.v e0 (wK g4 (wp_ret ?_)))))
   cases m
   exact c1 _ _ _ (fin1r Tryz.results77 ⟨rfl,rfl⟩ ⟨_,rfl,b⟩)
  replace b:=b.rowNh 22 S1
  refine loopQ (fun s a w=>∃ (y:List Bool) (t:L2) (i:Int) (f:FV) (h:Hdr),(y,t,i)=s∧a=fr 80 f∧f 1=(pB g)∧f 3=iV (j.length:Int)∧f 4=c.v∧f 5=h.v∧f 6=iV i∧St w0 ros (box g 26 [k.v]::row 4 rB c.v y::row 22 S1 h.v t::rs) w) g1 ⟨_,_,_,_,_,rfl,rfl,rfl,rfl,rfl,rfl,rfl,(b.pk 3 [2,1,0] rfl)⟩ ?_
  rintro _ _ w g5 ⟨y,t,i,f,h,rfl,rfl,T,G,U,V,E,b⟩ d g6 t1 g7 g8
  refine seqQ fun t2 g9 h0=>sR fun _ h1=>Ym (iV i) (eh E) (Ym (iV (j.length:Int)) (eh G) (yY (ylss e0 e0) (wK h1 ?_)))
  refine cIf e0 d (fun h3 d=>?_) fun h3 d=>?_
  ·refine wp_skip (g9 _ _ (sQ fun h4 h5=>?_))
   have c2:∀ (W:List Bool) (X:L2) (Z:Hdr) (f:FV) w,f 1=(pB g)→f 3=iV (j.length:Int)→f 4=c.v→f 5=Z.v→f 6=iV i→St w0 ros (box g 26 [k.v]::row 4 rB c.v W::row 22 S1 Z.v X::rs) w→sparseref12_Components_j68 i W X=some g5→h4 .normal (fr 80 f) w:=by
    intro W X Z f w h7 h8 h9 i0 i1 b m
    refine h5 _ _ (wR (Ym (iV i) (eh i1) (yY (yadd e0 rfl) (Ya (iV (wa .i64 i 1)) e0 (wN ?_)))))
    cases m
    exact g7 _ _ _ rfl ⟨_,_,_,_,_,rfl,rfl,h7,h8,h9,i0,rfl,b⟩
   refine blockQ fun _ c3=>seqQ fun t3 i2 i3=>sR fun _ i4=>Ym c.v (eh U) (Ym (iV i) (eh E) (bE d fun t4 c4 d=>yY (yIa SL_93 e0 e0 b rO1 c4) (yY (yB O_4 e0 b rO1 c4) (wK i4 (cB e0 d (fun i5 d=>?_) fun i5 d=>?_)))))
   ·exact wp_exit (i3 _ _ _ rfl (c3 _ _ _ (c2 _ _ _ _ _ T G U V E b d)))
   ·refine wp_skip (i2 _ _ (sR fun _ i6=>yY (lbs_ [k.v] ST_26 (eh T) b R0) (Ym (iV i) (eh E) (bE d fun a0 i7 d=>yC (yCall FN_78 (a2 e0 e0)) (sparseref12_Levels_ok i7 O b) ?_))))
    rintro _ w ⟨u,rfl,b⟩
    refine ⟨_,rfl,?_⟩
    refine Ya u.v e0 (wK i6 (sR fun _ i8=>Ym (iV (j.length:Int)) (eh G) (bE d fun t5 i9 d=>yH (rMk b SL_93 e0 i9) fun o w b=>Ya o.v e0 (wK i8 (sQ fun _ j0=>sQ fun _ j1=>?_)))))
    refine wR (Ya (iV 0) rfl (wK j1 (blockQ fun j2 j3=>bE d fun j4 j5 d=>?_)))
    have j6:∀ (F:List Bool) (f:FV) w,f 1=(pB g)→f 3=iV (j.length:Int)→f 4=c.v→f 5=h.v→f 6=iV i→f 8=o.v→St w0 ros (box g 26 [k.v]::row 4 rB c.v y::row 22 S1 h.v t::row 4 rB o.v F::rs) w→F=j4→j2 (.exit 2) (fr 80 f) w:=by
     intro F f w j7 j8 j9 k0 k9 l0 b ho
     subst ho
     refine j3 _ _ _ (j0 _ _ (sR fun _ l1=>Ya hnil.v rfl (wK l1 (sQ fun _ l2=>sR fun _ l3=>Ya (iV 0) rfl (wK l3 (blockQ fun l4 l5=>?_))))))
     refine bE d fun l6 l7 d=>?_
     have l8:∀ (a3:List Bool) (H:LI) (B:Hdr) (f:FV) w,f 1=(pB g)→f 3=iV (j.length:Int)→f 4=c.v→f 5=h.v→f 6=iV i→f 11=B.v→St w0 ros (box g 26 [k.v]::row 4 rB c.v a3::row 22 S1 h.v t::row 3 I1 B.v H::rs) w→(a3,H)=l6→l4 (.exit 6) (fr 80 f) w:=by
      intro a3 H B f w l9 m0 m1 m2 m3 m4 b ho
      subst ho
      exact l5 _ _ _ (l2 _ _ (wR (Ym h.v (eh m2) (Ym B.v (eh m4) (yH (rLt (n:=1) (l:=[H]) ((b.pk 4 [3,0,0,0] rfl).fz) SL_24 [B.v] (bp1 e0) rfl rfl (mks1 (cs:=[B.v]) rfl (mkS F0) mks0)) fun t6 w b=>bE d fun t7 m5 d=>yH (rAp (b.pk 4 [3,0,0,0] rfl) SL_24 e0 e0 rO1 m5) fun m6 w b=>Ya m6.v e0 (wN (c3 _ _ _ (c2 _ _ _ _ _ l9 m0 m1 rfl m3 ((b.pk 4 [2,2,0] rfl).facts (allT allI)) d))))))))
     replace b:=b.rowNh 3 I1
     refine loopQ (fun s a w=>∃ (a4:List Bool) (a5:LI) (q:Int) (f:FV) (I:Hdr),(a4,a5,q)=s∧a=fr 80 f∧f 1=(pB g)∧f 3=iV (j.length:Int)∧f 4=c.v∧f 5=h.v∧f 6=iV i∧f 8=o.v∧f 11=I.v∧f 12=iV q∧St w0 ros (box g 26 [k.v]::row 4 rB c.v a4::row 22 S1 h.v t::row 4 rB o.v F::row 3 I1 I.v a5::rs) w) l7 ⟨_,_,_,_,_,rfl,rfl,j7,j8,j9,k0,k9,l0,rfl,rfl,(b.pk 5 [1,1,1,1,0] rfl)⟩ ?_
     rintro _ _ w m7 ⟨a4,a5,q,f,I,rfl,rfl,a6,J,K,a7,a8,a9,b0,C,b⟩ p m8 t8 m9 n0
     refine seqQ fun t9 n1 n2=>sR fun _ n3=>Ym (iV q) (eh C) (Ym (iV (j.length:Int)) (eh J) (yY (ylss e0 e0) (wK n3 ?_)))
     refine cIf e0 p (fun n4 p=>?_) fun n4 p=>?_
     ·refine wp_skip (n1 _ _ (sQ fun _ n5=>blockQ fun n6 n7=>sR fun _ n8=>Ym o.v (eh a9) (Ym (iV q) (eh C) (bE p fun u0 c6 p=>yY (yIa SL_93 e0 e0 b rO3 c6) (yY (yB O_4 e0 b rO3 c6) (wK n8 ?_))))))
      have c7:∀ (b1:List Bool) (b2:LI) (b4:Hdr) (f:FV) w,f 1=(pB g)→f 3=iV (j.length:Int)→f 4=c.v→f 5=h.v→f 6=iV i→f 8=o.v→f 11=b4.v→f 12=iV q→St w0 ros (box g 26 [k.v]::row 4 rB c.v b1::row 22 S1 h.v t::row 4 rB o.v F::row 3 I1 b4.v b2::rs) w→sparseref12_Components_j75 q b1 b2=some m7→n6 .normal (fr 80 f) w:=by
       intro b1 b2 b4 f w n9 o0 o1 o2 o3 o4 o5 o6 b m
       refine n7 _ _ _ (n5 _ _ (wR (Ym (iV q) (eh o6) (yY (yadd e0 rfl) (Ya (iV (wa .i64 q 1)) e0 (wN ?_))))))
       cases m
       exact m9 _ _ _ rfl ⟨_,_,_,_,_,rfl,rfl,n9,o0,o1,o2,o3,o4,o5,rfl,b⟩
      refine cB e0 p (fun o7 p=>?_) fun o7 p=>?_
      ·refine sR fun _ o8=>Ym I.v (eh b0) (Ym (iV q) (eh C) (yH (rLt (n:=1) (l:=[q]) b SL_22 [iV q] (bp1 e0) rfl rfl (mks1 (cs:=[iV q]) rfl mkI mks0)) fun u1 w b=>bE p fun u2 o9 p=>yH (rAp (b.pk 6 [5,0,0,0,0,0] rfl) SL_22 e0 e0 rO1 o9) fun p0 w b=>Ya p0.v e0 (wK o8 (wR (Ym c.v (eh K) ?_)))))
       exact Ym (iV q) (eh C) (bE p fun u3 c8 p=>yY (yIs SL_93 e0 e0 b rO3 c8) (yT (r_sti (cs:=[.bool true]) (b.pk 4 [3,0,0,0] rfl) O_4 rfl e0 rfl rfl mkB c8) fun w b=>wN (c7 _ _ _ _ _ a6 J K a7 a8 a9 rfl C (b.pk 6 [3,0,2,2,0] rfl) p)))
      ·exact wp_skip (c7 _ _ _ _ _ a6 J K a7 a8 a9 b0 C b p)
     ·refine wp_exit (n2 _ _ _ rfl ?_)
      cases p
      exact n0 _ _ _ _ rfl rfl (l8 _ _ _ _ _ a6 J K a7 a8 b0 (b.pk 5 [0,0,0,1] rfl) (m8 _ rfl))
    refine loopQ (fun s a w=>∃ (b5:List Bool) (x:Int) (f:FV),(b5,x)=s∧a=fr 80 f∧f 1=(pB g)∧f 3=iV (j.length:Int)∧f 4=c.v∧f 5=h.v∧f 6=iV i∧f 7=u.v∧f 8=o.v∧f 9=iV x∧St w0 ros (box g 26 [k.v]::row 4 rB c.v y::row 22 S1 h.v t::row 22 S1 u.v a0::row 4 rB o.v b5::rs) w) j5 ⟨_,_,_,rfl,rfl,T,G,U,V,E,rfl,rfl,rfl,(b.pk 5 [2,2,2,1,0] rfl)⟩ ?_
    rintro _ _ w u4 ⟨b5,x,f,rfl,rfl,c9,d0,d1,d2,d3,d4,d5,d6,b⟩ z p1 u5 p2 p3
    refine seqQ fun u6 p4 p5=>sR fun _ p6=>Ym (iV x) (eh d6) (Ym u.v (eh d4) (yY (yLen SL_24 e0 b rO3) (yY (ylss e0 e0) (wK p6 ?_))))
    refine cIf e0 z (fun p7 z=>?_) fun p7 z=>?_
    ·refine wp_skip (p4 _ _ (sQ fun _ p8=>blockQ fun _ p9=>sR fun _ q0=>Ya (iV 0) rfl (wK q0 (blockQ fun q2 q3=>bE z fun q4 q5 z=>?_))))
     have q6:∀ (b6:List Bool) (f:FV) w,f 1=(pB g)→f 3=iV (j.length:Int)→f 4=c.v→f 5=h.v→f 6=iV i→f 7=u.v→f 8=o.v→f 9=iV x→St w0 ros (box g 26 [k.v]::row 4 rB c.v y::row 22 S1 h.v t::row 22 S1 u.v a0::row 4 rB o.v b6::rs) w→b6=q4→q2 (.exit 4) (fr 80 f) w:=by
      intro b6 f w q7 q8 q9 r0 r1 r2 r3 r5 b ho
      subst ho
      refine q3 _ _ _ (p9 _ _ _ (p8 _ _ (wR (Ym (iV x) (eh r5) (yY (yadd e0 rfl) (Ya (iV (wa .i64 x 1)) e0 (wN ?_)))))))
      cases z
      exact p2 _ _ _ rfl ⟨_,_,_,rfl,rfl,q7,q8,q9,r0,r1,r2,r3,rfl,b⟩
     refine loopQ (fun s a w=>∃ (b7:List Bool) (A:Int) (f:FV),(b7,A)=s∧a=fr 80 f∧f 1=(pB g)∧f 3=iV (j.length:Int)∧f 4=c.v∧f 5=h.v∧f 6=iV i∧f 7=u.v∧f 8=o.v∧f 9=iV x∧f 10=iV A∧St w0 ros (box g 26 [k.v]::row 4 rB c.v y::row 22 S1 h.v t::row 22 S1 u.v a0::row 4 rB o.v b7::rs) w) q5 ⟨_,_,_,rfl,rfl,c9,d0,d1,d2,d3,d4,d5,d6,rfl,b⟩ ?_
     rintro _ _ w u7 ⟨b7,A,f,rfl,rfl,d7,d8,d9,e1,e2,L,b8,N,b9,b⟩ r r6 u8 r7 r8
     refine seqQ fun u9 r9 s0=>sR fun _ s1=>Ym (iV A) (eh b9) (Ym u.v (eh L) (Ym (iV x) (eh N) (bE r fun v0 e3 r=>yY (yIa SL_24 e0 e0 b rO3 e3) ?_)))
     obtain ⟨v1,s2,b⟩:=rLs b rO3 e3
     refine yY (yCe O_22 e0 s2 rfl) (yY (yLen SL_22 e0 b (rdI F0)) (yY (ylss e0 e0) (wK s1 ?_)))
     refine cIf e0 r (fun s3 r=>?_) fun s3 r=>?_
     ·refine wp_skip (r9 _ _ (sQ fun _ s4=>blockQ fun _ s5=>wR (Ym o.v (eh b8) (Ym u.v (eh L) (Ym (iV x) (eh N) (bE r fun v2 e4 r=>yY (yIa SL_24 e0 e0 b rO3 e4) ?_))))))
      obtain ⟨v3,s6,b⟩:=rLs b rO3 e4
      refine yY (yCe O_22 e0 s6 rfl) (Ym (iV A) (eh b9) (bE r fun v4 e5 r=>yY (yIa SL_22 e0 e0 b (rdI F0) e5) (yY (yI O_3 e0 b (rdI F0) e5) (bE r fun v5 e6 r=>yY (yIs SL_93 e0 e0 b rO4 e6) (yT (r_sti (cs:=[.bool true]) (b.pk 5 [4,0,0,0,0] rfl) O_4 rfl e0 rfl rfl mkB e6) fun w b=>wN (s5 _ _ _ (s4 _ _ (wR (Ym (iV A) (eh b9) ?_)))))))))
      refine yY (yadd e0 rfl) (Ya (iV (wa .i64 A 1)) e0 (wN ?_))
      cases r
      exact r7 _ _ _ rfl ⟨_,_,_,rfl,rfl,d7,d8,d9,e1,e2,L,b8,N,rfl,((b.pk 5 [1,1,1,1,0] rfl).facts (allT (allT allI)))⟩
     ·refine wp_exit (s0 _ _ _ rfl ?_)
      cases r
      exact r8 _ _ _ _ rfl rfl (q6 _ _ _ d7 d8 d9 e1 e2 L b8 N (b.facts (allT allI)) (r6 _ rfl))
    ·refine wp_exit (p5 _ _ _ rfl ?_)
     cases z
     exact p3 _ _ _ _ rfl rfl (j6 _ _ _ c9 d0 d1 d2 d3 d5 (b.pk 5 [0,0,0,1] rfl) (p1 _ rfl))
  ·refine wp_exit (h0 _ _ _ rfl ?_)
   cases d
   exact g8 _ _ _ _ rfl rfl (g2 _ _ _ _ V (b.pk 3 [2] rfl) (g6 _ rfl))
 ·refine condT e0 (nT (dF R)) (sR fun _ s7=>Ya hnil.v rfl (wK s7 (wp_ret (e9 _ _ _ rfl ?_))))
  cases m
  replace b:=b.rowNh 22 S1
  exact c1 _ _ _ (fin1r Tryz.results77 ⟨rfl,rfl⟩ ⟨_,rfl,(b.pk 2 [0] rfl)⟩)
theorem sparseref12_Peripheral_ok {z:L2} {i:Int} {d:Hdr} {out:Int} (k:sparseref12_Peripheral z i=some out) (q:imm S1 d.v z∈ros) (b:St w0 ros rs w):
  Calls Tryz.prog 79 #[.agg #[d.v],iV i] w (fun e w=>e=.returned (iV out)∧St w0 ros rs w):=by
 refine enterQ Tryz.func79 rfl Tryz.ntmps79 rfl fun Q J=>sR fun _ a5=>yBb (r_box (vals:=[d.v]) b e0 rfl) fun j w b=>Ya (iV 0) rfl (wK a5 (seqQ fun h0 a6 a7=>sR fun _ a8=>yY (lbs_ [d.v] ST_26 e0 b R0) (bE k fun r a9 k=>yC (yCall FN_54 (a1 e0)) (sparseref12_Check_ok a9 q b) ?_)))
 rintro _ w ⟨rfl,b⟩
 refine ⟨_,rfl,?_⟩
 refine yY (yneq e0 rfl) (Ym (.bool (!(decide (r=0)))) e0 ?_)
 refine joinW 3 (fun f w=>f 1=iV i∧f 2=(pB j)∧f 15=.bool ((!(decide (r=0))) || (decide (i < 0)))∧St w0 ros (box j 26 [d.v]::rs) w) (fun K=>?_) ?_
 ·rcases Bool.eq_false_or_eq_true (!(decide (r=0))) with n | n
  ·exact gN n (gN n (yY (pt_ (.bool true) e0 n rfl) (K _ _ ⟨rfl,rfl,(congrArg Value.bool (orT n)),b⟩)))
  ·exact yG n (m_ (iV i) e0) (yG n (ylss e0 rfl) (yY (pf_ (.bool (decide (i < 0))) e0 n e0) (K _ _ ⟨rfl,rfl,(congrArg Value.bool (orF n)),b⟩)))
 rintro f w ⟨B,C,b0,b⟩
 refine Ym (.bool ((!(decide (r=0))) || (decide (i < 0)))) (eh b0) ?_
 refine joinW 6 (fun f w=>f 1=iV i∧f 2=(pB j)∧f 22=.bool (((!(decide (r=0))) || (decide (i < 0))) || (decide ((z.length:Int)≤i)))∧St w0 ros (box j 26 [d.v]::rs) w) (fun L=>?_) ?_
 ·rcases Bool.eq_false_or_eq_true ((!(decide (r=0))) || (decide (i < 0))) with g | g
  ·exact gN g (gN g (gN g (gN g (gN g (yY (pt_ (.bool true) e0 g rfl) (L _ _ ⟨B,C,(congrArg Value.bool (orT g)),b⟩))))))
  ·exact yG g (m_ (iV i) (eh B)) (yG g (yFb FL_26_0 (eh C)) (yG g (lb_ d.v O_24 e0 b R0) (yG g (yLen SL_24 e0 b (rdI q)) (yG g (ygeq e0 e0) (yY (pf_ (.bool (decide ((z.length:Int)≤i))) e0 g e0) (L _ _ ⟨B,C,(congrArg Value.bool (orF g)),b⟩))))))
 rintro f w ⟨b1,b2,b3,b⟩
 refine wK a8 (cB (eh b3) k (fun b5 k=>?_) fun b5 k=>?_)
 ·refine sR fun _ b6=>Ya (iV (-1)) rfl (wK b6 (wp_ret (a7 _ _ _ rfl ?_)))
  cases k
  exact J _ _ _ (fin1r Tryz.results79 ⟨rfl,rfl⟩ ⟨rfl,(b.pk 1 [] rfl)⟩)
 ·refine wp_skip (a6 _ _ (blockQ fun b7 b8=>bE k fun b9 c0 k=>?_))
  have c1:∀ (D:Int) (f:FV) w,f 4=iV D→St w0 ros rs w→D=b9→b7 .ret (fr 70 f) w:=by
   intro D f w c2 b ho
   subst ho
   refine b8 _ _ _ ?_
   cases k
   exact J _ _ _ (fin1r Tryz.results79 ⟨rfl,c2⟩ ⟨rfl,b⟩)
  refine loopQ (fun s a w=>∃ (o:Int) (f:FV),o=s∧a=fr 70 f∧f 1=iV o∧f 2=(pB j)∧St w0 ros (box j 26 [d.v]::rs) w) c0 ⟨_,_,rfl,rfl,b1,b2,b⟩ ?_
  rintro _ _ w h1 ⟨o,f,rfl,rfl,N,O,b⟩ h c3 h3 c4 c5
  refine blockQ fun _ R=>sR fun _ c6=>yY (lbs_ [d.v] ST_26 (eh O) b R0) (Ym (iV o) (eh N) (bE h fun E c8 h=>yC (yCall FN_78 (a2 e0 e0)) (sparseref12_Levels_ok c8 q b) ?_))
  rintro _ w ⟨l,rfl,b⟩
  refine ⟨_,rfl,?_⟩
  refine Ya l.v e0 (wK c6 (sR fun _ d0=>Ym l.v e0 (Ym l.v e0 (yY (yLen SL_24 e0 b rO0) (yY (ysub e0 rfl) (bE h fun S T h=>yY (yIa SL_24 e0 e0 b rO0 T) ?_))))))
  obtain ⟨p,d1,b⟩:=rLs b rO0 T
  refine yY (yCe O_22 e0 d1 rfl) (Ya p.v e0 (wK d0 (sR fun _ d2=>Ym p.v e0 (bE h fun d3 U h=>yY (yIa SL_22 e0 rfl b (rdI F0) U) (yY (yI O_3 e0 b (rdI F0) U) (Ya (iV d3) e0 (wK d2 (sQ fun _ d4=>?_))))))))
  refine sR fun _ d5=>Ya (iV 1) rfl (wK d5 (blockQ fun d6 d7=>bE h fun d8 d9 h=>?_))
  have e1:∀ (t:Int) (f:FV) w,f 1=iV o→f 2=(pB j)→f 5=l.v→f 7=iV t→St w0 ros (box j 26 [d.v]::row 22 S1 l.v E::rs) w→t=d8→d6 (.exit 2) (fr 70 f) w:=by
   intro t f w e2 V e3 W b ho
   subst ho
   refine d7 _ _ _ (d4 _ _ (seqQ fun h4 e4 e5=>sR fun _ e6=>yY (lbs_ [d.v] ST_26 (eh V) b R0) (Ym (iV t) (eh W) (bE h fun h5 e7 h=>yC (yCall FN_78 (a2 e0 e0)) (sparseref12_Levels_ok e7 q b) ?_))))
   rintro _ w ⟨h6,rfl,b⟩
   refine ⟨_,rfl,?_⟩
   refine yY (yLen SL_24 e0 b rO0) (Ym l.v (eh e3) (yY (yLen SL_24 e0 b rO2) (yY (yleq e0 e0) (wK e6 ?_))))
   refine cIf e0 h (fun e8 h=>?_) fun e8 h=>?_
   ·refine sR fun _ e9=>Ym (iV o) (eh e2) (Ya (iV o) e0 (wK e9 (wp_ret (e5 _ _ _ rfl (R _ _ _ ?_)))))
    cases h
    exact c5 _ _ _ _ rfl rfl (c1 _ _ _ rfl (b.pk 3 [] rfl) (c3 _ rfl))
   ·refine wp_skip (e4 _ _ (wR (Ym (iV t) (eh W) (Ya (iV t) e0 (wN (R _ _ _ ?_))))))
    cases h
    exact c4 _ _ _ rfl ⟨_,_,rfl,rfl,rfl,V,(b.pk 3 [1] rfl)⟩
  refine loopQ (fun s a w=>∃ (A m:Int) (f:FV),(A,m)=s∧a=fr 70 f∧f 1=iV o∧f 2=(pB j)∧f 5=l.v∧f 6=p.v∧f 7=iV A∧f 8=iV m∧St w0 (imm I1 p.v S::ros) (box j 26 [d.v]::row 22 S1 l.v E::rs) w) d9 ⟨_,_,_,rfl,rfl,N,O,rfl,rfl,rfl,rfl,(b.pk 2 [1,0] rfl)⟩ ?_
  rintro _ _ w f0 ⟨A,m,f,rfl,rfl,F,u,G,x,H,y,b⟩ c f1 h7 f2 f3
  refine seqQ fun h8 f4 f5=>sR fun _ f6=>Ym (iV m) (eh y) (Ym p.v (eh x) (yY (yLen SL_22 e0 b (rdI F0)) (yY (ylss e0 e0) (wK f6 ?_))))
  refine cIf e0 c (fun f7 c=>?_) fun f7 c=>?_
  ·refine wp_skip (f4 _ _ (sQ fun _ f8=>blockQ fun f9 g0=>sQ fun _ g1=>bE c fun h9 X c=>bE c fun i0 Z c=>bE c fun i1 a0 c=>dR [0,1,0,0,12,28,63,127,255,0,512,0,3584,7680,15872,32767] [] 0 folM ?_))
   replace b:=b.drew
   refine Dz [0,1,2,3,4,5,6,7,8,9,10,11,12,13,14,15] [] (yR rfl (yFb FL_26_0 (eh u)) (yR rfl (lb_ d.v O_24 e0 b R0) (yR rfl (m_ p.v (eh x)) (yR rfl (m_ (iV m) (eh y)) (yR rfl (yIa SL_22 e0 e0 b (rdI F0) X) (yR rfl (yI O_3 e0 b (rdI F0) X) (yR rfl (yIa SL_24 e0 e0 b (rdI (mtF q)) Z) ?_)))))))
   obtain ⟨i2,b⟩:=iLs b (mtF q) Z
   refine yR rfl (yCt O_22 e0 b F1 rfl) (yR rfl (yLen SL_22 e0 b (rdI F0)) (yR rfl (yFb FL_26_0 (eh u)) (yR rfl (lb_ d.v O_24 e0 b R0) (yR rfl (m_ (iV A) (eh H)) (yR rfl (yIa SL_24 e0 e0 b (rdI (F_3 q)) a0) ?_)))))
   obtain ⟨i3,b⟩:=iLs b (F_3 q) a0
   refine yR rfl (yCt O_22 e0 b F1 rfl) (yR rfl (yLen SL_22 e0 b (rdI F0)) (yR rfl (ylss e0 e0) (Rn QSn (g1 _ _ ?_))))
   have a3:∀ (I:Int) (f:FV) w,f 1=iV o→f 2=(pB j)→f 5=l.v→f 6=p.v→f 7=iV I→f 8=iV m→St w0 (imm I1 p.v S::ros) (box j 26 [d.v]::row 22 S1 l.v E::rs) w→sparseref12_Peripheral_j15 m I=some f0→f9 .normal (fr 70 f) w:=by
    intro I f w g2 g3 g4 g5 g6 g7 b k
    refine g0 _ _ _ (f8 _ _ (wR (Ym (iV m) (eh g7) (yY (yadd e0 rfl) (Ya (iV (wa .i64 m 1)) e0 (wN ?_))))))
    cases k
    exact f2 _ _ _ rfl ⟨_,_,_,rfl,rfl,g2,g3,g4,g5,g6,rfl,b⟩
   refine cIf e0 c (fun g8 c=>?_) fun g8 c=>?_
   ·exact wR (Ym p.v (eh x) (Ym (iV m) (eh y) (bE c fun g9 a4 c=>yY (yIa SL_22 e0 e0 b (rdI F4) a4) (yY (yI O_3 e0 b (rdI F4) a4) (Ya (iV g9) e0 (wN (a3 _ _ _ F u G x rfl y (b.facts (allC F4 (allT (allT (allT (allT (allT allI))))))) c)))))))
   ·exact wp_skip (a3 _ _ _ F u G x H y (b.facts (allC F4 (allT (allT (allT (allT (allT allI))))))) c)
  ·refine wp_exit (f5 _ _ _ rfl ?_)
   cases c
   exact f3 _ _ _ _ rfl rfl (e1 _ _ _ F u G H (b.facts (allT allI)) (f1 _ rfl))
end Go.Proofs.YthpeajepbffinaaGreat
