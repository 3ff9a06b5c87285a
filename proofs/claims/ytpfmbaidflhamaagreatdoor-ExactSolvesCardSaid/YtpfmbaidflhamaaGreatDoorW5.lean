/- Walks: each function computes its model, printed. -/
import Derived.Test.YtpfmbaidflhamaaGreatDoorW4
namespace Go.Proofs.YtpfmbaidflhamaaGreatDoor
open Go Sx M
set_option maxRecDepth 100000
set_option maxHeartbeats 40000000
set_option linter.unusedVariables false
attribute [local irreducible] wpList Code.wp Calls DR QR QS LA LS St
variable {w0:World} {ros:List Fact} {rs:List Res} {w:World}
theorem sparseref07_Shape_ok {n:LI} {h:Hdr} {out:Int} (i:sparseref07_Shape n=some out) (j:imm I1 h.v n∈ros) (b:St w0 ros rs w):
  Calls Tryz.prog 51 #[h.v] w (fun e w=>e=.returned (iV out)∧St w0 ros rs w):=by
 refine enterQ Tryz.func51 rfl Tryz.ntmps51 rfl fun Q p=>sR fun _ I=>Ya (iV 0) rfl (wK I (seqQ fun b4 J K=>sR fun _ L=>Ya (iV 0) rfl (wK L (blockQ fun u x=>bE i fun y N i=>?_))))
 have O:∀ (f:FV) w,f 0=h.v→St w0 ros rs w→.inl ()=y→u (.exit 0) (fr 32 f) w:=by
  intro f w q b ho
  subst ho
  refine x _ _ _ (J _ _ (seqQ fun b5 R S=>sR fun _ T=>Ym h.v (eh q) (yY (yLen SL_48 e0 b (rdI j)) (yY (ygtr e0 rfl) (Ym (.bool (decide ((200:Int) < (n.length:Int)))) e0 (bE i fun U k i=>?_))))))
  refine joinW 10 (fun f w=>f 31=.bool U∧St w0 ros rs w) (fun z=>?_) ?_
  ·rcases iteS k with ⟨c,k⟩ | ⟨c,k⟩
   ·refine gN (dT c) (gN (dT c) (gN (dT c) (gN (dT c) (Gn (wxu rfl rfl rfl) rfl (Gn (wxu rfl rfl rfl) rfl (Gn (wxu rfl rfl rfl) rfl (Gn (wxu rfl rfl rfl) rfl (gN (dT c) (yY (pt_ (.bool true) e0 (dT c) rfl) ?_)))))))))
    cases k
    exact z _ _ ⟨rfl,b⟩
   ·refine yG (dF c) (m_ h.v (eh q)) (yG (dF c) (yLen SL_48 e0 b (rdI j)) (yG (dF c) (ygtr e0 rfl) (yG (dF c) (m_ (.bool (decide ((0:Int) < (n.length:Int)))) e0) (bE k fun A l k=>?_))))
    refine joinW 5 (fun f w=>f 21=.bool (decide ((200:Int) < (n.length:Int)))∧f 30=.bool A∧St w0 ros rs w) (fun B=>?_) ?_
    ·rcases iteS l with ⟨g,l⟩ | ⟨g,l⟩
     ·refine yG (dT g) (m_ h.v (eh q)) (bE l fun V C l=>yG (dT g) (yIa SL_48 e0 rfl b (rdI j) C) (yG (dT g) (yI O_3 e0 b (rdI j) C) (yG (dT g) (ygtr e0 rfl) (yG (dF c) (pt_ (.bool (decide ((200:Int) < V))) e0 (dT g) e0) ?_))))
      cases l
      exact B _ _ ⟨rfl,rfl,b⟩
     ·refine gN (dF g) (gN (dF g) (gN (dF g) (gN (dF g) (yG (dF c) (pf_ (.bool false) e0 (dF g) rfl) ?_))))
      cases l
      exact B _ _ ⟨rfl,rfl,b⟩
    rintro f w ⟨W,X,b⟩
    refine yY (pf_ (.bool A) (eh W) (dF c) (eh X)) ?_
    cases k
    exact z _ _ ⟨rfl,b⟩
  rintro f w ⟨Z,b⟩
  refine wK T (cB (eh Z) i (fun a0 i=>?_) fun a0 i=>?_)
  ·refine sR fun _ a1=>Ya (iV 6) rfl (wK a1 (wp_ret (S _ _ _ rfl ?_)))
   cases i
   exact p _ _ _ (fin1r Tryz.results51 ⟨rfl,rfl⟩ ⟨rfl,b⟩)
  ·refine wp_skip (R _ _ (sR fun _ a2=>Ya (iV 0) rfl (wK a2 (wp_ret ?_))))
   cases i
   exact p _ _ _ (fin1r Tryz.results51 ⟨rfl,rfl⟩ ⟨rfl,b⟩)
 have a3:∀ (f:FV) w,f 2=iV 5→St w0 ros rs w→.inr ()=y→u .ret (fr 32 f) w:=by
  intro f w a4 b ho
  subst ho
  refine x _ _ _ (K _ _ _ rfl ?_)
  cases i
  exact p _ _ _ (fin1r Tryz.results51 ⟨rfl,a4⟩ ⟨rfl,b⟩)
 refine loopQ (fun s a w=>∃ (m:Int) (f:FV),m=s∧a=fr 32 f∧f 0=h.v∧f 3=iV m∧St w0 ros rs w) N ⟨_,_,rfl,rfl,rfl,rfl,b⟩ ?_
 rintro _ _ w b6 ⟨m,f,rfl,rfl,o,r,b⟩ d D b7 a5 E
 refine seqQ fun b8 a6 a7=>sR fun _ a8=>Ym (iV m) (eh r) (Ym h.v (eh o) (yY (yLen SL_48 e0 b (rdI j)) (yY (ylss e0 e0) (wK a8 ?_))))
 refine cIf e0 d (fun a9 d=>?_) fun a9 d=>?_
 ·refine wp_skip (a6 _ _ (seqQ fun b9 b0 b1=>blockQ fun _ F=>sQ fun _ b2=>bE d fun c0 G d=>bE d fun c1 H d=>dR [0,0,3,7,0,16,48,127] [] 0 folM ?_))
  replace b:=b.drew
  refine Dz [0,1,2,3,4,5,6,7] [] (yR rfl (m_ h.v (eh o)) (yR rfl (m_ (iV m) (eh r)) (yR rfl (yIa SL_48 e0 e0 b (rdI j) G) (yR rfl (yI O_3 e0 b (rdI j) G) (yR rfl (m_ h.v (eh o)) (yR rfl (yIa SL_48 e0 rfl b (rdI j) H) (yR rfl (yI O_3 e0 b (rdI j) H) (yR rfl (yneq e0 e0) (Rn QSn (b2 _ _ ?_))))))))))
  rcases iteS d with ⟨t,d⟩ | ⟨t,d⟩
  ·refine condF e0 (nF (dT t)) (wp_skip (F _ _ _ (b0 _ _ (wR (Ym (iV m) (eh r) (yY (yadd e0 rfl) (Ya (iV (wa .i64 m 1)) e0 (wN ?_))))))))
   cases d
   exact a5 _ _ _ rfl ⟨_,_,rfl,rfl,o,rfl,b⟩
  ·refine condT e0 (nT (dF t)) (sR fun _ b3=>Ya (iV 5) rfl (wK b3 (wp_ret (F _ _ _ (b1 _ _ _ rfl ?_)))))
   cases d
   exact E _ _ _ _ rfl rfl (a3 _ _ rfl b (D _ rfl))
 ·refine wp_exit (a7 _ _ _ rfl ?_)
  cases d
  exact E _ _ _ _ rfl rfl (O _ _ o b (D _ rfl))
theorem sparseref08_Cols_ok {f:List (List (Bool×LI))} {c:Hdr} {out:Int} (b:sparseref08_Cols f=some out) (d:imm (rS (rP rB (rS (rI .u32)))) c.v f∈ros) (a:St w0 ros rs w):
  Calls Tryz.prog 13 #[c.v] w (fun e w=>e=.returned (iV out)∧St w0 ros rs w):=by
 refine enterQ Tryz.func13 rfl Tryz.ntmps13 rfl fun Q g=>sR fun _ i=>Ya (iV 0) rfl (wK i (seqQ fun q j k=>sR fun _ l=>Ym c.v e0 (yY (yLen SL_22 e0 a (rdI d)) (yY (yeql e0 rfl) (wK l ?_)))))
 refine cIf e0 b (fun m b=>?_) fun m b=>?_
 ·refine sR fun _ n=>Ya (iV 0) rfl (wK n (wp_ret (k _ _ _ rfl ?_)))
  cases b
  exact g _ _ _ (fin1r Tryz.results13 ⟨rfl,rfl⟩ ⟨rfl,a⟩)
 ·refine wp_skip (j _ _ (sR fun _ o=>Ym c.v e0 (bE b fun p h b=>yY (yIa SL_22 e0 rfl a (rdI d) h) ?_)))
  obtain ⟨r,a⟩:=iLs a d h
  refine yY (yCt O_32 e0 a F1 rfl) (yY (yLen SL_32 e0 a (rdI F0)) (Ya (iV (p.length:Int)) e0 (wK o (wp_ret ?_))))
  cases b
  exact g _ _ _ (fin1r Tryz.results13 ⟨rfl,rfl⟩ ⟨rfl,(a.facts (allT (allT allI)))⟩)
theorem sparseref08_Check_ok {q:List (List (Bool×LI))} {h:Hdr} {out:Int} (c:sparseref08_Check q=some out) (k:imm (rS (rP rB (rS (rI .u32)))) h.v q∈ros) (b:St w0 ros rs w):
  Calls Tryz.prog 12 #[h.v] w (fun e w=>e=.returned (iV out)∧St w0 ros rs w):=by
 refine enterQ Tryz.func12 rfl Tryz.ntmps12 rfl fun Q r=>sR fun _ D=>Ya (iV 0) rfl (wK D (sR fun _ E=>Ya hnil.v rfl (wK E (sQ fun _ F=>sR fun _ G=>?_))))
 refine Ya (iV 0) rfl (wK G (blockQ fun H I=>bE c fun J K c=>?_))
 have L:∀ (t:LI) (m:Hdr) (f:FV) w,f 0=h.v→f 3=m.v→St w0 ros (row 3 I1 m.v t::rs) w→t=J→H (.exit 0) (fr 30 f) w:=by
  intro t m f w z N b ho
  subst ho
  refine I _ _ _ (F _ _ (seqQ fun b9 O R=>sR fun _ S=>Ym m.v (eh N) (bE c fun c0 T c=>?_)))
  replace b:=b.fz
  refine yC (yCall FN_51 (a1 e0)) (sparseref07_Shape_ok T F0 b) ?_
  rintro _ w ⟨rfl,b⟩
  refine ⟨_,rfl,?_⟩
  refine yY (yeql e0 rfl) (wK S ?_)
  refine cIf e0 c (fun U c=>?_) fun U c=>?_
  ·refine sR fun _ V=>Ya (iV 5) rfl (wK V (wp_ret (R _ _ _ rfl ?_)))
   cases c
   exact r _ _ _ (fin1r Tryz.results12 ⟨rfl,rfl⟩ ⟨rfl,(b.facts (allT allI))⟩)
  ·refine wp_skip (O _ _ (seqQ fun c1 W X=>sR fun _ Z=>Ym h.v (eh z) (yY (yLen SL_22 e0 b (rdI (mtF k))) (yY (ygtr e0 rfl) (Ym (.bool (decide ((16:Int) < (q.length:Int)))) e0 (bE c fun a0 i c=>?_))))))
   refine joinW 4 (fun f w=>f 29=.bool a0∧St w0 ros rs w) (fun A=>?_) ?_
   ·rcases iteS i with ⟨d,i⟩ | ⟨d,i⟩
    ·refine gN (dT d) (gN (dT d) (gN (dT d) (yY (pt_ (.bool true) e0 (dT d) rfl) ?_)))
     cases i
     exact A _ _ ⟨rfl,(b.facts (allT allI))⟩
    ·refine yG (dF d) (m_ h.v (eh z)) (bE i fun a2 a3 i=>Yc (wG (dF d)) rfl (yCall FN_13 (a1 e0)) (sparseref08_Cols_ok a3 (mtF k) b) ?_)
     rintro _ w ⟨rfl,b⟩
     refine ⟨_,rfl,?_⟩
     refine yG (dF d) (ygtr e0 rfl) (yY (pf_ (.bool (decide ((16:Int) < a2))) e0 (dF d) e0) ?_)
     cases i
     exact A _ _ ⟨rfl,(b.facts (allT allI))⟩
   rintro f w ⟨a4,b⟩
   refine wK Z (cB (eh a4) c (fun a5 c=>?_) fun a5 c=>?_)
   ·refine sR fun _ a6=>Ya (iV 6) rfl (wK a6 (wp_ret (X _ _ _ rfl ?_)))
    cases c
    exact r _ _ _ (fin1r Tryz.results12 ⟨rfl,rfl⟩ ⟨rfl,b⟩)
   ·refine wp_skip (W _ _ (sR fun _ a7=>Ya (iV 0) rfl (wK a7 (wp_ret ?_))))
    cases c
    exact r _ _ _ (fin1r Tryz.results12 ⟨rfl,rfl⟩ ⟨rfl,b⟩)
 replace b:=b.rowNh 3 I1
 refine loopQ (fun s a w=>∃ (u:LI) (j:Int) (f:FV) (o:Hdr),(u,j)=s∧a=fr 30 f∧f 0=h.v∧f 3=o.v∧f 4=iV j∧St w0 ros (row 3 I1 o.v u::rs) w) K ⟨_,_,_,_,rfl,rfl,rfl,rfl,rfl,b⟩ ?_
 rintro _ _ w c2 ⟨u,j,f,o,rfl,rfl,p,B,x,b⟩ g a8 c3 a9 b0
 refine seqQ fun c4 b1 b2=>sR fun _ b3=>Ym (iV j) (eh x) (Ym h.v (eh p) (yY (yLen SL_22 e0 b (rdI k)) (yY (ylss e0 e0) (wK b3 ?_))))
 refine cIf e0 g (fun b4 g=>?_) fun b4 g=>?_
 ·refine wp_skip (b1 _ _ (sQ fun _ b5=>blockQ fun _ b6=>wR (Ym o.v (eh B) (Ym h.v (eh p) (Ym (iV j) (eh x) (bE g fun y C g=>yY (yIa SL_22 e0 e0 b (rdI k) C) ?_))))))
  obtain ⟨c5,b⟩:=iLs b k C
  refine yY (yCt O_32 e0 b F1 rfl) (yY (yLen SL_32 e0 b (rdI F0)) (yH (rLt (n:=1) (l:=[(y.length:Int)]) b SL_48 [iV (y.length:Int)] (bp1 e0) rfl rfl (mks1 (cs:=[iV (y.length:Int)]) rfl mkI mks0)) fun c6 w b=>bE g fun c7 b7 g=>yH (rAp (b.k11) SL_48 e0 e0 rO1 b7) fun b8 w b=>Ya b8.v e0 (wN (b6 _ _ _ (b5 _ _ (wR (Ym (iV j) (eh x) (yY (yadd e0 rfl) ?_))))))))
  refine Ya (iV (wa .i64 j 1)) e0 (wN ?_)
  cases g
  exact a9 _ _ _ rfl ⟨_,_,_,_,rfl,rfl,p,rfl,rfl,((b.k12).facts (allT (allT allI)))⟩
 ·refine wp_exit (b2 _ _ _ rfl ?_)
  cases g
  exact b0 _ _ _ _ rfl rfl (L _ _ _ _ p B b (a8 _ rfl))
theorem sparseref08_Transpose_ok {D:List (List (Bool×LI))} {h:Hdr} {out:(List (List (Bool×LI)))} (x:sparseref08_Transpose D=some out) (q:imm (rS (rP rB (rS (rI .u32)))) h.v D∈ros) (b:St w0 ros rs w):
  Calls Tryz.prog 33 #[h.v] w (fun e w=>∃ (E:Hdr),e=.returned (E.v)∧St w0 ros (row 32 (rS (rP rB (rS (rI .u32)))) E.v out::rs) w):=by
 refine enterQ Tryz.func33 rfl Tryz.ntmps33 rfl fun Q N=>sR fun _ O=>Ya hnil.v rfl (wK O (sR fun _ R=>Ya hnil.v rfl (wK R (sQ fun _ S=>sR fun _ T=>?_))))
 refine Ya (iV 0) rfl (wK T (blockQ fun U V=>bE x fun W X x=>?_))
 have Z:∀ (y:List (List (Bool×LI))) (m:Hdr) (f:FV) w,f 3=m.v→St w0 ros (row 32 (rS (rP rB (rS (rI .u32)))) m.v y::rs) w→y=W→U (.exit 0) (fr 34 f) w:=by
  intro y m f w a0 b ho
  subst ho
  refine V _ _ _ (S _ _ (sR fun _ a2=>Ym m.v (eh a0) (Ya m.v e0 (wK a2 (wp_ret ?_)))))
  cases x
  exact N _ _ _ (fin1r Tryz.results33 ⟨rfl,rfl⟩ ⟨_,rfl,b⟩)
 replace b:=b.rowNh 32 (rS (rP rB (rS (rI .u32))))
 refine loopQ (fun s a w=>∃ (o:List (List (Bool×LI))) (g:Int) (f:FV) (i:Hdr),(o,g)=s∧a=fr 34 f∧f 0=h.v∧f 3=i.v∧f 4=iV g∧St w0 ros (row 32 (rS (rP rB (rS (rI .u32)))) i.v o::rs) w) X ⟨_,_,_,_,rfl,rfl,rfl,rfl,rfl,b⟩ ?_
 rintro _ _ w d8 ⟨o,g,f,i,rfl,rfl,F,G,H,b⟩ c a3 d9 a4 a5
 refine seqQ fun e1 a6 a7=>sR fun _ a8=>Ym (iV g) (eh H) (Ym h.v (eh F) (bE c fun e2 a9 c=>yC (yCall FN_13 (a1 e0)) (sparseref08_Cols_ok a9 q b) ?_))
 rintro _ w ⟨rfl,b⟩
 refine ⟨_,rfl,?_⟩
 refine yY (ylss e0 e0) (wK a8 ?_)
 refine cIf e0 c (fun b0 c=>?_) fun b0 c=>?_
 ·refine wp_skip (a6 _ _ (sQ fun _ b1=>blockQ fun _ b2=>sR fun _ b3=>Ya hnil.v rfl (wK b3 (sQ fun _ b4=>sR fun _ b5=>Ya (iV 0) rfl (wN ?_)))))
  refine b5 _ _ (blockQ fun b6 b7=>bE c fun b8 b9 c=>?_)
  have c0:∀ (r:List (Bool×LI)) (k:Hdr) (f:FV) w,f 0=h.v→f 3=i.v→f 4=iV g→f 5=k.v→St w0 ros (row 32 (rS (rP rB (rS (rI .u32)))) i.v o::row 31 (rP rB (rS (rI .u32))) k.v r::rs) w→r=b8→b6 (.exit 2) (fr 34 f) w:=by
   intro r k f w c1 c2 c3 c4 b ho
   subst ho
   refine b7 _ _ _ (b4 _ _ (wR (Ym i.v (eh c2) (Ym k.v (eh c4) (yH (rLt (n:=1) (l:=[r]) ((b.k11).fz) SL_22 [k.v] (bp1 e0) rfl rfl (mks1 (cs:=[k.v]) rfl (mkS F0) mks0)) fun e3 w b=>bE c fun e4 c5 c=>yH (rAp (b.k11) SL_22 e0 e0 rO1 c5) fun c6 w b=>Ya c6.v e0 (wN (b2 _ _ _ (b1 _ _ ?_))))))))
   refine wR (Ym (iV g) (eh c3) (yY (yadd e0 rfl) (Ya (iV (wa .i64 g 1)) e0 (wN ?_))))
   cases c
   exact a4 _ _ _ rfl ⟨_,_,_,_,rfl,rfl,c1,rfl,rfl,((b.k12).facts (allT allI))⟩
  replace b:=b.rowNh 31 (rP rB (rS (rI .u32)))
  refine loopQ (fun s a w=>∃ (z:List (Bool×LI)) (j:Int) (f:FV) (t:Hdr),(z,j)=s∧a=fr 34 f∧f 0=h.v∧f 3=i.v∧f 4=iV g∧f 5=t.v∧f 6=iV j∧St w0 ros (row 32 (rS (rP rB (rS (rI .u32)))) i.v o::row 31 (rP rB (rS (rI .u32))) t.v z::rs) w) b9 ⟨_,_,_,_,rfl,rfl,F,G,H,rfl,rfl,(b.k11)⟩ ?_
  rintro _ _ w e5 ⟨z,j,f,t,rfl,rfl,u,I,A,J,B,b⟩ d c7 e6 c8 c9
  refine seqQ fun e7 d0 d1=>sR fun _ d2=>Ym (iV j) (eh B) (Ym h.v (eh u) (yY (yLen SL_22 e0 b (rdI q)) (yY (ylss e0 e0) (wK d2 ?_))))
  refine cIf e0 d (fun d3 d=>?_) fun d3 d=>?_
  ·refine wp_skip (d0 _ _ (sQ fun _ d4=>blockQ fun _ d5=>wR (Ym t.v (eh J) (Ym h.v (eh u) (Ym (iV j) (eh B) (bE d fun e8 K d=>yY (yIa SL_22 e0 e0 b (rdI q) K) ?_))))))
   obtain ⟨e9,b⟩:=iLs b q K
   refine yY (yCt O_32 e0 b F1 rfl) (Ym (iV g) (eh A) (bE d fun p L d=>yY (yIa SL_32 e0 e0 b (rdI F0) L) ?_))
   obtain ⟨f0,f1,b⟩:=iLd b F0 L
   obtain ⟨f2,f3,rfl,b⟩:=b.eltP
   obtain ⟨rfl,b⟩:=b.eltB
   obtain ⟨C,rfl,b⟩:=b.eltS
   refine yY (yCtn (cs:=[.bool p.1,C.v]) ST_31 rfl e0 b F1) (yH (rLt (n:=1) (l:=[(p.1,p.2)]) b SL_32 [.agg #[.bool p.1,C.v]] (bp1 e0) rfl rfl (mks1 (cs:=[.bool p.1,C.v]) rfl (mkP mkB (mkS F0)) mks0)) fun f4 w b=>bE d fun f5 d6 d=>yH (rAp (b.k1f) SL_32 e0 e0 rO1 d6) fun d7 w b=>Ya d7.v e0 (wN (d5 _ _ _ (d4 _ _ (wR (Ym (iV j) (eh B) (yY (yadd e0 rfl) (Ya (iV (wa .i64 j 1)) e0 ?_))))))))
   refine wN ?_
   cases d
   exact c8 _ _ _ rfl ⟨_,_,_,_,rfl,rfl,u,I,A,rfl,rfl,((b.k2d).facts (allT (allT (allT (allT allI)))))⟩
  ·refine wp_exit (d1 _ _ _ rfl ?_)
   cases d
   exact c9 _ _ _ _ rfl rfl (c0 _ _ _ _ u I A J b (c7 _ rfl))
 ·refine wp_exit (a7 _ _ _ rfl ?_)
  cases c
  exact a5 _ _ _ _ rfl rfl (Z _ _ _ _ G b (a3 _ rfl))
theorem sparseref01_mulMag_ok {F G:LI} {l h:Hdr} {out:LI} (m:sparseref01_mulMag F G=some out) (x:imm (rI .u32) l.v F∈ros) (n:imm (rI .u32) h.v G∈ros) (b:St w0 ros rs w):
  Calls Tryz.prog 115 #[l.v,h.v] w (fun e w=>∃ (H:Hdr),e=.returned (H.v)∧St w0 ros (row 103 (rI .u32) H.v out::rs) w):=by
 refine enterQ Tryz.func115 rfl Tryz.ntmps115 rfl fun Q X=>sR fun _ Z=>Ya hnil.v rfl (wK Z (sR fun _ a0=>Ym l.v e0 (yY (yLen SL_29 e0 b (rdI x)) (Ym h.v e0 (yY (yLen SL_29 e0 b (rdI n)) (yY (yadd e0 e0) (bE m fun e3 a1 m=>?_)))))))
 refine yH (rMk b SL_29 e0 a1) fun c w b=>Ya c.v e0 (wK a0 (sQ fun _ a2=>sR fun _ a3=>Ya (iV 0) rfl (wK a3 (blockQ fun a4 a5=>bE m fun a6 a7 m=>?_))))
 have a8:∀ (A:LI) (f:FV) w,f 5=c.v→St w0 ros (row 103 (rI .u32) c.v A::rs) w→A=a6→a4 (.exit 0) (fr 66 f) w:=by
  intro A f w a9 b ho
  subst ho
  refine a5 _ _ _ (a2 _ _ (sR fun _ b0=>Ym c.v (eh a9) (Ya c.v e0 (wK b0 (wp_ret ?_)))))
  cases m
  exact X _ _ _ (fin1r Tryz.results115 ⟨rfl,rfl⟩ ⟨_,rfl,b⟩)
 refine loopQ (fun s a w=>∃ (B:LI) (g:Int) (f:FV),(B,g)=s∧a=fr 66 f∧f 0=l.v∧f 1=h.v∧f 5=c.v∧f 6=iV g∧St w0 ros (row 103 (rI .u32) c.v B::rs) w) a7 ⟨_,_,_,rfl,rfl,rfl,rfl,rfl,rfl,b⟩ ?_
 rintro _ _ w e4 ⟨B,g,f,rfl,rfl,I,b1,J,K,b⟩ i b2 e5 b3 b4
 refine seqQ fun e6 b5 b6=>sR fun _ b7=>Ym (iV g) (eh K) (Ym l.v (eh I) (yY (yLen SL_29 e0 b (rdI x)) (yY (ylss e0 e0) (wK b7 ?_))))
 refine cIf e0 i (fun b8 i=>?_) fun b8 i=>?_
 ·refine wp_skip (b5 _ _ (sQ fun _ b9=>blockQ fun _ c0=>sR fun _ c1=>Ya (.int .u64 0) rfl (wK c1 (sQ fun _ c2=>sR fun _ c3=>Ya (iV 0) rfl (wN ?_)))))
  refine c3 _ _ (blockQ fun c4 c5=>bE i fun c6 c7 i=>?_)
  have c8:∀ (C:LI) (o:Int) (f:FV) w,f 0=l.v→f 1=h.v→f 5=c.v→f 6=iV g→f 7=.int .u64 o→St w0 ros (row 103 (rI .u32) c.v C::rs) w→(C,o)=c6→c4 (.exit 2) (fr 66 f) w:=by
   intro C o f w c9 L N O d0 b ho
   subst ho
   refine c5 _ _ _ (c2 _ _ (wR (Ym c.v (eh N) (Ym (iV g) (eh O) (Ym h.v (eh L) (yY (yLen SL_29 e0 b (rdI n)) (yY (yadd e0 e0) (Ym (.int .u64 o) (eh d0) (yY (ycv (k':=.u32) (by kernel_rfl) (by kernel_rfl) e0) (bE i fun e7 R i=>yY (yIs SL_29 e0 e0 b rO0 R) (yT (r_sti (cs:=[.int .u32 (wc .u32 o)]) b O_103 rfl e0 e0 rfl mkI R) fun w b=>?_)))))))))))
   refine wN (c0 _ _ _ (b9 _ _ (wR (Ym (iV g) (eh O) (yY (yadd e0 rfl) (Ya (iV (wa .i64 g 1)) e0 (wN ?_)))))))
   cases i
   exact b3 _ _ _ rfl ⟨_,_,_,rfl,rfl,c9,L,N,rfl,b⟩
  refine loopQ (fun s a w=>∃ (D:LI) (j k:Int) (f:FV),(D,j,k)=s∧a=fr 66 f∧f 0=l.v∧f 1=h.v∧f 5=c.v∧f 6=iV g∧f 7=.int .u64 j∧f 8=iV k∧St w0 ros (row 103 (rI .u32) c.v D::rs) w) c7 ⟨_,_,_,_,rfl,rfl,I,b1,J,K,rfl,rfl,b⟩ ?_
  rintro _ _ w e8 ⟨D,j,k,f,rfl,rfl,E,y,z,p,S,q,b⟩ d d1 e9 d2 d3
  refine seqQ fun f0 d4 d5=>sR fun _ d6=>Ym (iV k) (eh q) (Ym h.v (eh y) (yY (yLen SL_29 e0 b (rdI n)) (yY (ylss e0 e0) (wK d6 ?_))))
  refine cIf e0 d (fun d7 d=>?_) fun d7 d=>?_
  ·refine wp_skip (d4 _ _ (sQ fun _ d8=>blockQ fun _ d9=>sQ fun _ e1=>bE d fun r T d=>bE d fun t U d=>bE d fun u V d=>dR [0,0,0,6,14,30,0,0,192,448,960,2046,4095,0,0,0,49152,122880,253952,516096,1048575,2097151] [21] 1 folM ?_))
   replace b:=b.drew
   refine Dn [0,1,2,3,4,5,6,7,8,9,10,11,12,13,14,15,16,17,18,19,20] [] [21] (yR rfl (m_ (.int .u64 j) (eh S)) (yR rfl (m_ l.v (eh E)) (yR rfl (m_ (iV g) (eh p)) (yR rfl (yIa SL_29 e0 e0 b (rdI x) T) (yR rfl (yI O_103 e0 b (rdI x) T) (yR rfl (ycv (k':=.u64) (by kernel_rfl) (by kernel_rfl) e0) (yR rfl (m_ h.v (eh y)) (yR rfl (m_ (iV k) (eh q)) (yR rfl (yIa SL_29 e0 e0 b (rdI n) U) (yR rfl (yI O_103 e0 b (rdI n) U) (yR rfl (ycv (k':=.u64) (by kernel_rfl) (by kernel_rfl) e0) (yR rfl (ymul e0 e0) (yR rfl (yadd e0 e0) ?_)))))))))))))
   refine yR rfl (m_ c.v (eh z)) (yR rfl (m_ (iV g) (eh p)) (yR rfl (m_ (iV k) (eh q)) (yR rfl (yadd e0 e0) (yR rfl (yIa SL_29 e0 e0 b rO0 V) (yR rfl (yI O_103 e0 b rO0 V) (yR rfl (ycv (k':=.u64) (by kernel_rfl) (by kernel_rfl) e0) (yR rfl (yadd e0 e0) (Rn QSn ?_))))))))
   refine Lc1 rfl ?_
   refine Ly wn (a_ (.int .u64 (wa .u64 (wa .u64 j (wm .u64 (wc .u64 r) (wc .u64 t))) (wc .u64 u))) e0) (Dz [] [] (Rn QSn (e1 _ _ (sR fun _ e2=>Ym c.v (eh z) (Ym (iV g) (eh p) (Ym (iV k) (eh q) (yY (yadd e0 e0) (Ym (.int .u64 (wa .u64 (wa .u64 j (wm .u64 (wc .u64 r) (wc .u64 t))) (wc .u64 u))) e0 (yY (ycv (k':=.u32) (by kernel_rfl) (by kernel_rfl) e0) (bE d fun f1 W d=>yY (yIs SL_29 e0 e0 b rO0 W) ?_))))))))))
   refine yT (r_sti (cs:=[.int .u32 (wc .u32 (wa .u64 (wa .u64 j (wm .u64 (wc .u64 r) (wc .u64 t))) (wc .u64 u)))]) b O_103 rfl e0 e0 rfl mkI W) fun w b=>wK e2 (wR (Ym (.int .u64 (wa .u64 (wa .u64 j (wm .u64 (wc .u64 r) (wc .u64 t))) (wc .u64 u))) e0 (yY (yshrc e0 rfl) (Ya (.int .u64 (wsrc .u64 (wa .u64 (wa .u64 j (wm .u64 (wc .u64 r) (wc .u64 t))) (wc .u64 u)) 32)) e0 (wN (d9 _ _ _ (d8 _ _ (wR (Ym (iV k) (eh q) (yY (yadd e0 rfl) ?_))))))))))
   refine Ya (iV (wa .i64 k 1)) e0 (wN ?_)
   cases d
   exact d2 _ _ _ rfl ⟨_,_,_,_,rfl,rfl,E,y,z,p,rfl,rfl,b⟩
  ·refine wp_exit (d5 _ _ _ rfl ?_)
   cases d
   exact d3 _ _ _ _ rfl rfl (c8 _ _ _ _ E y z p S b (d1 _ rfl))
 ·refine wp_exit (b6 _ _ _ rfl ?_)
  cases i
  exact b4 _ _ _ _ rfl rfl (a8 _ _ _ J b (b2 _ rfl))
theorem sparseref01_Mul_ok {c:Bool} {h:LI} {d:Bool} {i:LI} {g f:Hdr} {out:Bool×LI} (b:sparseref01_Mul c h d i=some out) (m:imm (rI .u32) g.v h∈ros) (n:imm (rI .u32) f.v i∈ros) (a:St w0 ros rs w):
  Calls Tryz.prog 86 #[.agg #[.bool c,g.v],.agg #[.bool d,f.v]] w (fun e w=>∃ (j:Hdr),e=.returned (.agg #[.bool out.1,j.v])∧St w0 ros (row 103 (rI .u32) j.v out.2::rs) w):=by
 refine enterQ Tryz.func86 rfl Tryz.ntmps86 rfl fun Q o=>sR fun _ p=>yBb (r_box (vals:=[.bool c,g.v]) a e0 rfl) fun x w a=>yBb (r_box (vals:=[.bool d,f.v]) a e0 rfl) fun y w a=>yBb (rAl a ZT_31) fun z w a=>wK p (sQ fun _ q=>bE b fun A r b=>bE b fun B s b=>?_)
 refine bE b fun C t b=>bE b fun k u b=>dR [0,1,0,4,15,0,32,96,0,256,992,2016,4095,8191] [7,10,11,12,13] 5 folM ?_
 replace a:=a.drew
 refine Dn [0,1,2,3,4,5,6,8,9] [] [7] (yR rfl (yFb FL_31_0 e0) (yR rfl (lb_ (.bool c) O_4 e0 a R2) (yR rfl (yFb FL_31_0 e0) (yR rfl (lb_ (.bool d) O_4 e0 a R1) (yR rfl (yneb (by kernel_rfl) e0 e0) (yR rfl (yFb FL_31_1 e0) (yR rfl (lb_ g.v O_29 e0 a R2) (yR rfl (yFb FL_31_1 e0) (yR rfl (lb_ f.v O_29 e0 a R1) (Rn QSn ?_))))))))))
 refine Lc1 rfl ?_
 refine Lk wn (yCall FN_116 (a1 e0)) (sparseref01_trim_ok r m a) ?_
 rintro _ w ⟨D,rfl,a⟩
 refine ⟨_,rfl,?_⟩
 refine Dn [] [0,1,2,3,4,8,9] [10] (Rn (yS rfl (yFb FL_31_0 e0) (yS rfl (lb_ (.bool c) O_4 e0 a R3) (yS rfl (yFb FL_31_0 e0) (yS rfl (lb_ (.bool d) O_4 e0 a R2) (yS rfl (yneb (by kernel_rfl) e0 e0) (yS rfl (yFb FL_31_1 e0) (yS rfl (lb_ f.v O_29 e0 a R2) QSn))))))) ?_)
 refine Lc1 rfl ?_
 refine Lk wn (yCall FN_116 (a1 e0)) (sparseref01_trim_ok s n a) ?_
 rintro _ w ⟨E,rfl,a⟩
 refine ⟨_,rfl,?_⟩
 refine Dn [] [0,1,2,3,4] [11] (Rn (yS rfl (yFb FL_31_0 e0) (yS rfl (lb_ (.bool c) O_4 e0 a R4) (yS rfl (yFb FL_31_0 e0) (yS rfl (lb_ (.bool d) O_4 e0 a R3) (yS rfl (yneb (by kernel_rfl) e0 e0) QSn))))) ?_)
 refine Lc1 rfl ?_
 replace a:=((a.k11).fz).fz
 refine Lk wn (yCall FN_115 (a2 e0 e0)) (sparseref01_mulMag_ok t F1 F0 a) ?_
 rintro _ w ⟨F,rfl,a⟩
 refine ⟨_,rfl,?_⟩
 refine Dn [] [0,1,2,3,4] [12] (Rn (yS rfl (yFb FL_31_0 e0) (yS rfl (lb_ (.bool c) O_4 e0 a R3) (yS rfl (yFb FL_31_0 e0) (yS rfl (lb_ (.bool d) O_4 e0 a R2) (yS rfl (yneb (by kernel_rfl) e0 e0) QSn))))) ?_)
 refine Lc1 rfl ?_
 replace a:=a.fz
 refine Lk wn (yCall FN_110 (a2 e0 e0)) (sparseref01_make1_ok u F0 a) ?_
 rintro _ w ⟨l,rfl,a⟩
 refine ⟨_,rfl,?_⟩
 refine Dn [] [] [13] (Rn QSn ?_)
 refine Lc1 rfl ?_
 replace a:=a.k11
 refine LT wn (r_stbn (vals':=[.bool k.1,l.v]) (us:=[.bool k.1,l.v]) a ST_31 e0 e0 rfl rfl (one_of rfl) rfl) fun w a=>Dz [] [] (Rn QSn (q _ _ (wp_ret ?_)))
 cases b
 exact o _ _ _ (fin1r Tryz.results86 (rcs2 rfl rfl a R0 ST_31 rfl) ⟨_,rfl,((a.k2p).facts (allT (allT (allT allI))))⟩)
theorem sparseref01_addMag_ok {G B:LI} {i j:Hdr} {out:LI} (c:sparseref01_addMag G B=some out) (u:imm (rI .u32) i.v G∈ros) (x:imm (rI .u32) j.v B∈ros) (b:St w0 ros rs w):
  Calls Tryz.prog 142 #[i.v,j.v] w (fun e w=>∃ (H:Hdr),e=.returned (H.v)∧St w0 ros (row 103 (rI .u32) H.v out::rs) w):=by
 refine enterQ Tryz.func142 rfl Tryz.ntmps142 rfl fun Q U=>sR fun _ V=>Ya hnil.v rfl (wK V (sR fun _ W=>Ya hnil.v rfl (wK W (sR fun _ X=>Ya (.int .u64 0) rfl ?_))))
 refine wK X (sQ fun _ Z=>sR fun _ a0=>Ya (iV 0) rfl (wK a0 (blockQ fun a1 a2=>bE c fun a3 a4 c=>?_)))
 have a5:∀ (C:LI) (m:Int) (y:Hdr) (f:FV) w,f 5=y.v→f 6=.int .u64 m→St w0 ros (row 103 (rI .u32) y.v C::rs) w→(C,m)=a3→a1 (.exit 0) (fr 51 f) w:=by
  intro C m y f w a6 a7 b ho
  subst ho
  refine a2 _ _ _ (Z _ _ (sR fun _ a8=>Ym y.v (eh a6) (Ym (.int .u64 m) (eh a7) (yY (ycv (k':=.u32) (by kernel_rfl) (by kernel_rfl) e0) (yH (rLt (n:=1) (l:=[wc .u32 m]) b SL_29 [.int .u32 (wc .u32 m)] (bp1 e0) rfl rfl (mks1 (cs:=[.int .u32 (wc .u32 m)]) rfl mkI mks0)) fun d7 w b=>bE c fun d8 a9 c=>yH (rAp (b.k11) SL_29 e0 e0 rO1 a9) fun b0 w b=>Ya b0.v e0 (wN ?_))))))
  refine a8 _ _ (wp_ret ?_)
  cases c
  exact U _ _ _ (fin1r Tryz.results142 ⟨rfl,rfl⟩ ⟨_,rfl,(b.k12)⟩)
 replace b:=b.rowNh 103 (rI .u32)
 refine loopQ (fun s a w=>∃ (o:LI) (p d:Int) (f:FV) (k:Hdr),(o,p,d)=s∧a=fr 51 f∧f 0=i.v∧f 1=j.v∧f 5=k.v∧f 6=.int .u64 p∧f 7=iV d∧St w0 ros (row 103 (rI .u32) k.v o::rs) w) a4 ⟨_,_,_,_,_,rfl,rfl,rfl,rfl,rfl,rfl,rfl,b⟩ ?_
 rintro _ _ w I ⟨o,p,d,f,k,rfl,rfl,q,D,E,F,r,b⟩ g b1 d9 b2 b3
 refine seqQ fun e1 b4 b5=>sR fun _ b6=>Ym (iV d) (eh r) (Ym i.v (eh q) (yY (yLen SL_29 e0 b (rdI u)) (Ym j.v (eh D) (yY (yLen SL_29 e0 b (rdI x)) (yY (ymax e0 e0) (yY (ylss e0 e0) (wK b6 ?_)))))))
 refine cIf e0 g (fun b7 g=>?_) fun b7 g=>?_
 ·refine wp_skip (b4 _ _ (sQ fun _ b8=>blockQ fun _ b9=>sQ fun c0 c1=>sR fun _ c2=>Ym (iV d) (eh r) (Ym i.v (eh q) (yY (yLen SL_29 e0 b (rdI u)) (yY (ylss e0 e0) (wK c2 ?_))))))
  have J:∀ (t:Int) (f:FV) w,f 0=i.v→f 1=j.v→f 5=k.v→f 6=.int .u64 t→f 7=iV d→St w0 ros (row 103 (rI .u32) k.v o::rs) w→sparseref01_addMag_j6 d B o t=some I→c0 .normal (fr 51 f) w:=by
   intro t f w K z L N A b c
   refine c1 _ _ (sQ fun c3 c4=>sR fun _ c5=>Ym (iV d) (eh A) (Ym j.v (eh z) (yY (yLen SL_29 e0 b (rdI x)) (yY (ylss e0 e0) (wK c5 ?_)))))
   have O:∀ (h:Int) (f:FV) w,f 0=i.v→f 1=j.v→f 5=k.v→f 6=.int .u64 h→f 7=iV d→St w0 ros (row 103 (rI .u32) k.v o::rs) w→sparseref01_addMag_j7 o d h=some I→c3 .normal (fr 51 f) w:=by
    intro h f w c6 c7 c8 R c9 b c
    refine c4 _ _ (sR fun _ d0=>Ym k.v (eh c8) (Ym (.int .u64 h) (eh R) (yY (ycv (k':=.u32) (by kernel_rfl) (by kernel_rfl) e0) (yH (rLt (n:=1) (l:=[wc .u32 h]) b SL_29 [.int .u32 (wc .u32 h)] (bp1 e0) rfl rfl (mks1 (cs:=[.int .u32 (wc .u32 h)]) rfl mkI mks0)) fun e2 w b=>bE c fun e3 d1 c=>yH (rAp (b.k11) SL_29 e0 e0 rO1 d1) fun d2 w b=>Ya d2.v e0 (wK d0 ?_)))))
    refine wR (Ym (.int .u64 h) (eh R) (yY (yshrc e0 rfl) (Ya (.int .u64 (wsrc .u64 h 32)) e0 (wN (b9 _ _ _ (b8 _ _ (wR (Ym (iV d) (eh c9) (yY (yadd e0 rfl) (Ya (iV (wa .i64 d 1)) e0 (wN ?_)))))))))))
    cases c
    exact b2 _ _ _ rfl ⟨_,_,_,_,_,rfl,rfl,c6,c7,rfl,rfl,rfl,(b.k12)⟩
   refine cIf e0 c (fun d3 c=>?_) fun d3 c=>?_
   ·exact wR (Ym (.int .u64 t) (eh N) (Ym j.v (eh z) (Ym (iV d) (eh A) (bE c fun d4 S c=>yY (yIa SL_29 e0 e0 b (rdI x) S) (yY (yI O_103 e0 b (rdI x) S) (yY (ycv (k':=.u64) (by kernel_rfl) (by kernel_rfl) e0) (yY (yadd e0 e0) (Ya (.int .u64 (wa .u64 t (wc .u64 d4))) e0 (wN (O _ _ _ K z L rfl A b c))))))))))
   ·exact wp_skip (O _ _ _ K z L N A b c)
  refine cIf e0 g (fun d5 g=>?_) fun d5 g=>?_
  ·exact wR (Ym (.int .u64 p) (eh F) (Ym i.v (eh q) (Ym (iV d) (eh r) (bE g fun d6 T g=>yY (yIa SL_29 e0 e0 b (rdI u) T) (yY (yI O_103 e0 b (rdI u) T) (yY (ycv (k':=.u64) (by kernel_rfl) (by kernel_rfl) e0) (yY (yadd e0 e0) (Ya (.int .u64 (wa .u64 p (wc .u64 d6))) e0 (wN (J _ _ _ q D E rfl r b g))))))))))
  ·exact wp_skip (J _ _ _ q D E F r b g)
 ·refine wp_exit (b5 _ _ _ rfl ?_)
  cases g
  exact b3 _ _ _ _ rfl rfl (a5 _ _ _ _ _ E F b (b1 _ rfl))
theorem sparseref01_cmpMag_ok {n z:LI} {h i:Hdr} {out:Int} (d:sparseref01_cmpMag n z=some out) (j:imm (rI .u32) h.v n∈ros) (k:imm (rI .u32) i.v z∈ros) (b:St w0 ros rs w):
  Calls Tryz.prog 143 #[h.v,i.v] w (fun e w=>e=.returned (iV out)∧St w0 ros rs w):=by
 refine enterQ Tryz.func143 rfl Tryz.ntmps143 rfl fun Q m=>sR fun _ K=>Ya (iV 0) rfl (wK K (seqQ fun b7 L A=>sR fun _ N=>Ym h.v e0 (yY (yLen SL_29 e0 b (rdI j)) (Ym i.v e0 (yY (yLen SL_29 e0 b (rdI k)) (yY (yneq e0 e0) ?_))))))
 refine wK N ?_
 rcases iteS d with ⟨o,d⟩ | ⟨o,d⟩
 ·refine condF e0 (nF (dT o)) (wp_skip (L _ _ (seqQ fun b8 O R=>sR fun _ S=>Ym h.v e0 (yY (yLen SL_29 e0 b (rdI j)) (yY (ysub e0 rfl) (Ya (iV (ws .i64 (n.length:Int) 1)) e0 (wK S (blockQ fun B C=>bE d fun D T d=>?_))))))))
  have U:∀ (f:FV) w,St w0 ros rs w→.inl ()=D→B (.exit 0) (fr 41 f) w:=by
   intro f w b ho
   subst ho
   refine C _ _ _ (O _ _ (sR fun _ V=>Ya (iV 0) rfl (wK V (wp_ret ?_))))
   cases d
   exact m _ _ _ (fin1r Tryz.results143 ⟨rfl,rfl⟩ ⟨rfl,b⟩)
  have E:∀ (p:Int) (f:FV) w,f 4=iV p→St w0 ros rs w→.inr p=D→B .ret (fr 41 f) w:=by
   intro p f w W b ho
   subst ho
   refine C _ _ _ (R _ _ _ rfl ?_)
   cases d
   exact m _ _ _ (fin1r Tryz.results143 ⟨rfl,W⟩ ⟨rfl,b⟩)
  refine loopQ (fun s a w=>∃ (g:Int) (f:FV),g=s∧a=fr 41 f∧f 0=h.v∧f 1=i.v∧f 5=iV g∧St w0 ros rs w) T ⟨_,_,rfl,rfl,rfl,rfl,rfl,b⟩ ?_
  rintro _ _ w b9 ⟨g,f,rfl,rfl,q,r,l,b⟩ c t c0 X u
  refine seqQ fun c1 Z a0=>sR fun _ a1=>Ym (iV g) (eh l) (yY (ygeq e0 rfl) (wK a1 ?_))
  refine cIf e0 c (fun a2 c=>?_) fun a2 c=>?_
  ·refine wp_skip (Z _ _ (seqQ fun c2 a3 F=>blockQ fun _ x=>sQ fun _ a4=>bE c fun c3 G c=>bE c fun c4 H c=>dR [0,0,3,7,0,0,48,112,255] [] 0 folM ?_))
   replace b:=b.drew
   refine Dz [0,1,2,3,4,5,6,7,8] [] (yR rfl (m_ h.v (eh q)) (yR rfl (m_ (iV g) (eh l)) (yR rfl (yIa SL_29 e0 e0 b (rdI j) G) (yR rfl (yI O_103 e0 b (rdI j) G) (yR rfl (m_ i.v (eh r)) (yR rfl (m_ (iV g) (eh l)) (yR rfl (yIa SL_29 e0 e0 b (rdI k) H) (yR rfl (yI O_103 e0 b (rdI k) H) (yR rfl (yneq e0 e0) (Rn QSn (a4 _ _ ?_)))))))))))
   rcases iteS c with ⟨y,c⟩ | ⟨y,c⟩
   ·refine condF e0 (nF (dT y)) (wp_skip (x _ _ _ (a3 _ _ (wR (Ym (iV g) (eh l) (yY (ysub e0 rfl) (Ya (iV (ws .i64 g 1)) e0 (wN ?_))))))))
    cases c
    exact X _ _ _ rfl ⟨_,_,rfl,rfl,q,r,rfl,b⟩
   ·refine condT e0 (nT (dF y)) (seqQ fun c6 a5 a6=>sQ fun _ a7=>bE c fun c7 I c=>bE c fun c8 J c=>dR [0,0,3,7,0,0,48,112,255] [] 0 folM ?_)
    replace b:=b.drew
    refine Dz [0,1,2,3,4,5,6,7,8] [] (yR rfl (m_ h.v (eh q)) (yR rfl (m_ (iV g) (eh l)) (yR rfl (yIa SL_29 e0 e0 b (rdI j) I) (yR rfl (yI O_103 e0 b (rdI j) I) (yR rfl (m_ i.v (eh r)) (yR rfl (m_ (iV g) (eh l)) (yR rfl (yIa SL_29 e0 e0 b (rdI k) J) (yR rfl (yI O_103 e0 b (rdI k) J) (yR rfl (ylss e0 e0) (Rn QSn (a7 _ _ ?_)))))))))))
    refine cIf e0 c (fun a8 c=>?_) fun a8 c=>?_
    ·refine sR fun _ a9=>Ya (iV (-1)) rfl (wK a9 (wp_ret (a6 _ _ _ rfl (x _ _ _ (F _ _ _ rfl ?_)))))
     cases c
     exact u _ _ _ _ rfl rfl (E _ _ _ rfl b (t _ rfl))
    ·refine wp_skip (a5 _ _ (sR fun _ b0=>Ya (iV 1) rfl (wK b0 (wp_ret (x _ _ _ (F _ _ _ rfl ?_))))))
     cases c
     exact u _ _ _ _ rfl rfl (E _ _ _ rfl b (t _ rfl))
  ·refine wp_exit (a0 _ _ _ rfl ?_)
   cases c
   exact u _ _ _ _ rfl rfl (U _ _ b (t _ rfl))
 ·refine condT e0 (nT (dF o)) (seqQ fun c9 b1 b2=>sR fun _ b3=>Ym h.v e0 (yY (yLen SL_29 e0 b (rdI j)) (Ym i.v e0 (yY (yLen SL_29 e0 b (rdI k)) (yY (ylss e0 e0) (wK b3 ?_))))))
  refine cIf e0 d (fun b4 d=>?_) fun b4 d=>?_
  ·refine sR fun _ b5=>Ya (iV (-1)) rfl (wK b5 (wp_ret (b2 _ _ _ rfl (A _ _ _ rfl ?_))))
   cases d
   exact m _ _ _ (fin1r Tryz.results143 ⟨rfl,rfl⟩ ⟨rfl,b⟩)
  ·refine wp_skip (b1 _ _ (sR fun _ b6=>Ya (iV 1) rfl (wK b6 (wp_ret (A _ _ _ rfl ?_)))))
   cases d
   exact m _ _ _ (fin1r Tryz.results143 ⟨rfl,rfl⟩ ⟨rfl,b⟩)
theorem sparseref01_subMag_ok {B C:LI} {j k:Hdr} {out:LI} (h:sparseref01_subMag B C=some out) (u:imm (rI .u32) j.v B∈ros) (x:imm (rI .u32) k.v C∈ros) (b:St w0 ros rs w):
  Calls Tryz.prog 144 #[j.v,k.v] w (fun e w=>∃ (D:Hdr),e=.returned (D.v)∧St w0 ros (row 103 (rI .u32) D.v out::rs) w):=by
 refine enterQ Tryz.func144 rfl Tryz.ntmps144 rfl fun Q I=>sR fun _ J=>Ya hnil.v rfl (wK J (sR fun _ K=>Ya hnil.v rfl (wK K (sR fun _ L=>Ya (.int .u64 0) rfl ?_))))
 refine wK L (sQ fun _ N=>sR fun _ O=>Ya (iV 0) rfl (wK O (blockQ fun R S=>bE h fun T U h=>?_)))
 have V:∀ (y:LI) (p:Hdr) (f:FV) w,f 5=p.v→St w0 ros (row 103 (rI .u32) p.v y::rs) w→y=T→R (.exit 0) (fr 41 f) w:=by
  intro y p f w W b ho
  subst ho
  refine S _ _ _ (N _ _ (sR fun _ X=>Ym p.v (eh W) (Ya p.v e0 (wK X (wp_ret ?_)))))
  cases h
  exact I _ _ _ (fin1r Tryz.results144 ⟨rfl,rfl⟩ ⟨_,rfl,b⟩)
 replace b:=b.rowNh 103 (rI .u32)
 refine loopQ (fun s a w=>∃ (q:LI) (i d:Int) (f:FV) (m:Hdr),(q,i,d)=s∧a=fr 41 f∧f 0=j.v∧f 1=k.v∧f 5=m.v∧f 6=.int .u64 i∧f 7=iV d∧St w0 ros (row 103 (rI .u32) m.v q::rs) w) U ⟨_,_,_,_,_,rfl,rfl,rfl,rfl,rfl,rfl,rfl,b⟩ ?_
 rintro _ _ w Z ⟨q,i,d,f,m,rfl,rfl,r,t,z,a0,o,b⟩ c a1 c3 a2 a3
 refine seqQ fun c4 a4 a5=>sR fun _ a6=>Ym (iV d) (eh o) (Ym j.v (eh r) (yY (yLen SL_29 e0 b (rdI u)) (yY (ylss e0 e0) (wK a6 ?_))))
 refine cIf e0 c (fun a7 c=>?_) fun a7 c=>?_
 ·refine wp_skip (a4 _ _ (sQ fun _ a8=>blockQ fun _ a9=>sR fun _ b0=>Ym j.v (eh r) (Ym (iV d) (eh o) (bE c fun A E c=>yY (yIa SL_29 e0 e0 b (rdI u) E) (yY (yI O_103 e0 b (rdI u) E) (yY (ycv (k':=.u64) (by kernel_rfl) (by kernel_rfl) e0) (Ym (.int .u64 i) (eh a0) (yY (ysub e0 e0) ?_))))))))
  refine Ya (.int .u64 (ws .u64 (wc .u64 A) i)) e0 (wK b0 (sQ fun b1 b2=>sR fun _ b3=>Ym (iV d) (eh o) (Ym k.v (eh t) (yY (yLen SL_29 e0 b (rdI x)) (yY (ylss e0 e0) (wK b3 ?_))))))
  have F:∀ (g:Int) (f:FV) w,f 0=j.v→f 1=k.v→f 5=m.v→f 7=iV d→f 8=.int .u64 g→St w0 ros (row 103 (rI .u32) m.v q::rs) w→sparseref01_subMag_j4 q d g=some Z→b1 .normal (fr 41 f) w:=by
   intro g f w b4 b5 b6 b7 G b h
   refine b2 _ _ (sR fun _ b8=>Ym m.v (eh b6) (Ym (.int .u64 g) (eh G) (yY (ycv (k':=.u32) (by kernel_rfl) (by kernel_rfl) e0) (yH (rLt (n:=1) (l:=[wc .u32 g]) b SL_29 [.int .u32 (wc .u32 g)] (bp1 e0) rfl rfl (mks1 (cs:=[.int .u32 (wc .u32 g)]) rfl mkI mks0)) fun c5 w b=>bE h fun c6 b9 h=>yH (rAp (b.k11) SL_29 e0 e0 rO1 b9) fun c0 w b=>Ya c0.v e0 (wK b8 ?_)))))
   refine wR (Ym (.int .u64 g) (eh G) (yY (yshrc e0 rfl) (Ya (.int .u64 (wsrc .u64 g 63)) e0 (wN (a9 _ _ _ (a8 _ _ (wR (Ym (iV d) (eh b7) (yY (yadd e0 rfl) (Ya (iV (wa .i64 d 1)) e0 (wN ?_)))))))))))
   cases h
   exact a2 _ _ _ rfl ⟨_,_,_,_,_,rfl,rfl,b4,b5,rfl,rfl,rfl,(b.k12)⟩
  refine cIf e0 c (fun c1 c=>?_) fun c1 c=>?_
  ·exact wR (Ym (.int .u64 (ws .u64 (wc .u64 A) i)) e0 (Ym k.v (eh t) (Ym (iV d) (eh o) (bE c fun c2 H c=>yY (yIa SL_29 e0 e0 b (rdI x) H) (yY (yI O_103 e0 b (rdI x) H) (yY (ycv (k':=.u64) (by kernel_rfl) (by kernel_rfl) e0) (yY (ysub e0 e0) (Ya (.int .u64 (ws .u64 (ws .u64 (wc .u64 A) i) (wc .u64 c2))) e0 (wN (F _ _ _ r t z o rfl b c))))))))))
  ·exact wp_skip (F _ _ _ r t z o rfl b c)
 ·refine wp_exit (a5 _ _ _ rfl ?_)
  cases c
  exact a3 _ _ _ _ rfl rfl (V _ _ _ _ z b (a1 _ rfl))
theorem sparseref01_Add_ok {c:Bool} {k:LI} {d:Bool} {l:LI} {i f:Hdr} {out:Bool×LI} (b:sparseref01_Add c k d l=some out) (t:imm (rI .u32) i.v k∈ros) (u:imm (rI .u32) f.v l∈ros) (a:St w0 ros rs w):
  Calls Tryz.prog 111 #[.agg #[.bool c,i.v],.agg #[.bool d,f.v]] w (fun e w=>∃ (m:Hdr),e=.returned (.agg #[.bool out.1,m.v])∧St w0 ros (row 103 (rI .u32) m.v out.2::rs) w):=by
 refine enterQ Tryz.func111 rfl Tryz.ntmps111 rfl fun Q j=>sR fun _ x=>yBb (r_box (vals:=[.bool c,i.v]) a e0 rfl) fun W w a=>yBb (r_box (vals:=[.bool d,f.v]) a e0 rfl) fun X w a=>yBb (rAl a ZT_31) fun Z w a=>wK x (sQ fun _ y=>bE b fun a0 z b=>bE b fun a3 A b=>?_)
 refine dR [0,1,3,0,8,31,63,127] [2,5,6,7] 4 folM ?_
 replace a:=a.drew
 refine Dn [0,1,3,4] [] [2] (yR rfl (yFb FL_31_1 e0) (yR rfl (lb_ i.v O_29 e0 a R2) (yR rfl (yFb FL_31_1 e0) (yR rfl (lb_ f.v O_29 e0 a R1) (Rn QSn ?_)))))
 refine Lc1 rfl ?_
 refine Lk wn (yCall FN_116 (a1 e0)) (sparseref01_trim_ok z t a) ?_
 rintro _ w ⟨g,rfl,a⟩
 refine ⟨_,rfl,?_⟩
 refine Dn [] [3,4] [5] (Rn (yS rfl (yFb FL_31_1 e0) (yS rfl (lb_ f.v O_29 e0 a R2) QSn)) ?_)
 refine Lc1 rfl ?_
 refine Lk wn (yCall FN_116 (a1 e0)) (sparseref01_trim_ok A u a) ?_
 rintro _ w ⟨h,rfl,a⟩
 refine ⟨_,rfl,?_⟩
 refine Dn [] [] [6] (Rn QSn ?_)
 refine Lc1 rfl ?_
 refine Ly wn (a_ g.v e0) (Dn [] [] [7] (Rn QSn ?_))
 refine Lc1 rfl ?_
 refine Ly wn (a_ h.v e0) (Dz [] [] (Rn QSn (y _ _ (seqQ fun a4 B C=>sR fun _ D=>yY (yFb FL_31_0 e0) (yY (lb_ (.bool c) O_4 e0 a R4) (yY (yFb FL_31_0 e0) (yY (lb_ (.bool d) O_4 e0 a R3) (yY (yeqb (by kernel_rfl) e0 e0) (wK D (cB e0 b (fun E b=>?_) fun E b=>?_))))))))))
 ·refine sQ fun _ F=>bE b fun a5 G b=>bE b fun n H b=>dR [0,1,0,0,12,31,63] [4,5,6] 3 folM ?_
  replace a:=a.drew
  refine Dn [0,1,2,3] [] [4] (yR rfl (yFb FL_31_0 e0) (yR rfl (lb_ (.bool c) O_4 e0 a R4) (yR rfl (m_ g.v e0) (yR rfl (m_ h.v e0) (Rn QSn ?_)))))
  refine Lc1 rfl ?_
  replace a:=((a.k11).fz).fz
  refine Lk wn (yCall FN_142 (a2 e0 e0)) (sparseref01_addMag_ok G F1 F0 a) ?_
  rintro _ w ⟨a6,rfl,a⟩
  refine ⟨_,rfl,?_⟩
  refine Dn [] [0,1] [5] (Rn (yS rfl (yFb FL_31_0 e0) (yS rfl (lb_ (.bool c) O_4 e0 a R3) QSn)) ?_)
  refine Lc1 rfl ?_
  replace a:=a.fz
  refine Lk wn (yCall FN_110 (a2 e0 e0)) (sparseref01_make1_ok H F0 a) ?_
  rintro _ w ⟨o,rfl,a⟩
  refine ⟨_,rfl,?_⟩
  refine Dn [] [] [6] (Rn QSn ?_)
  refine Lc1 rfl ?_
  replace a:=a.k11
  refine LT wn (r_stbn (vals':=[.bool n.1,o.v]) (us:=[.bool n.1,o.v]) a ST_31 e0 e0 rfl rfl (one_of rfl) rfl) fun w a=>Dz [] [] (Rn QSn (F _ _ (wp_ret (C _ _ _ rfl ?_))))
  cases b
  exact j _ _ _ (fin1r Tryz.results111 (rcs2 rfl rfl a R0 ST_31 rfl) ⟨_,rfl,((a.k2p).facts (allT (allT (allT allI))))⟩)
 ·refine wp_skip (B _ _ (seqQ fun a7 I J=>sR fun _ K=>Ym g.v e0 (Ym h.v e0 (bE b fun a8 L b=>?_))))
  replace a:=((a.k11).fz).fz
  refine yC (yCall FN_143 (a2 e0 e0)) (sparseref01_cmpMag_ok L F1 F0 a) ?_
  rintro _ w ⟨rfl,a⟩
  refine ⟨_,rfl,?_⟩
  refine yY (ygeq e0 rfl) (wK K ?_)
  refine cIf e0 b (fun N b=>?_) fun N b=>?_
  ·refine sQ fun _ O=>bE b fun a9 R b=>bE b fun p S b=>dR [0,1,0,0,12,31,63] [4,5,6] 3 folM ?_
   replace a:=a.drew
   refine Dn [0,1,2,3] [] [4] (yR rfl (yFb FL_31_0 e0) (yR rfl (lb_ (.bool c) O_4 e0 a R2) (yR rfl (m_ g.v e0) (yR rfl (m_ h.v e0) (Rn QSn ?_)))))
   refine Lc1 rfl ?_
   refine Lk wn (yCall FN_144 (a2 e0 e0)) (sparseref01_subMag_ok R F1 F0 a) ?_
   rintro _ w ⟨b0,rfl,a⟩
   refine ⟨_,rfl,?_⟩
   refine Dn [] [0,1] [5] (Rn (yS rfl (yFb FL_31_0 e0) (yS rfl (lb_ (.bool c) O_4 e0 a R3) QSn)) ?_)
   refine Lc1 rfl ?_
   replace a:=a.fz
   refine Lk wn (yCall FN_110 (a2 e0 e0)) (sparseref01_make1_ok S F0 a) ?_
   rintro _ w ⟨q,rfl,a⟩
   refine ⟨_,rfl,?_⟩
   refine Dn [] [] [6] (Rn QSn ?_)
   refine Lc1 rfl ?_
   replace a:=a.k11
   refine LT wn (r_stbn (vals':=[.bool p.1,q.v]) (us:=[.bool p.1,q.v]) a ST_31 e0 e0 rfl rfl (one_of rfl) rfl) fun w a=>Dz [] [] (Rn QSn (O _ _ (wp_ret (J _ _ _ rfl ?_))))
   cases b
   exact j _ _ _ (fin1r Tryz.results111 (rcs2 rfl rfl a R0 ST_31 rfl) ⟨_,rfl,((a.k2p).facts (allT (allT (allT allI))))⟩)
  ·refine wp_skip (I _ _ (sQ fun _ T=>bE b fun b1 U b=>bE b fun r V b=>dR [0,1,0,0,12,31,63] [4,5,6] 3 folM ?_))
   replace a:=a.drew
   refine Dn [0,1,2,3] [] [4] (yR rfl (yFb FL_31_0 e0) (yR rfl (lb_ (.bool d) O_4 e0 a R1) (yR rfl (m_ h.v e0) (yR rfl (m_ g.v e0) (Rn QSn ?_)))))
   refine Lc1 rfl ?_
   refine Lk wn (yCall FN_144 (a2 e0 e0)) (sparseref01_subMag_ok U F0 F1 a) ?_
   rintro _ w ⟨b2,rfl,a⟩
   refine ⟨_,rfl,?_⟩
   refine Dn [] [0,1] [5] (Rn (yS rfl (yFb FL_31_0 e0) (yS rfl (lb_ (.bool d) O_4 e0 a R2) QSn)) ?_)
   refine Lc1 rfl ?_
   replace a:=a.fz
   refine Lk wn (yCall FN_110 (a2 e0 e0)) (sparseref01_make1_ok V F0 a) ?_
   rintro _ w ⟨s,rfl,a⟩
   refine ⟨_,rfl,?_⟩
   refine Dn [] [] [6] (Rn QSn ?_)
   refine Lc1 rfl ?_
   replace a:=a.k11
   refine LT wn (r_stbn (vals':=[.bool r.1,s.v]) (us:=[.bool r.1,s.v]) a ST_31 e0 e0 rfl rfl (one_of rfl) rfl) fun w a=>Dz [] [] (Rn QSn (T _ _ (wp_ret ?_)))
   cases b
   exact j _ _ _ (fin1r Tryz.results111 (rcs2 rfl rfl a R0 ST_31 rfl) ⟨_,rfl,((a.k2p).facts (allT (allT (allT allI))))⟩)
theorem sparseref08_Dot_ok {y z:List (Bool×LI)} {i m:Hdr} {out:Bool×LI} (q:sparseref08_Dot y z=some out) (r:imm (rP rB (rS (rI .u32))) i.v y∈ros) (A:imm (rP rB (rS (rI .u32))) m.v z∈ros) (b:St w0 ros rs w):
  Calls Tryz.prog 74 #[i.v,m.v] w (fun e w=>∃ (B:Hdr),e=.returned (.agg #[.bool out.1,B.v])∧St w0 ros (row 103 (rI .u32) B.v out.2::rs) w):=by
 refine enterQ Tryz.func74 rfl Tryz.ntmps74 rfl fun Q J=>sR fun _ K=>yBb (rAl b ZT_31) fun n w b=>wK K (sR fun _ L=>yY (ybuild (us:=[.bool false,hnil.v]) [] SO_31 bp0 rfl) (yBb (rAl b ZT_31) fun o w b=>yT (r_stbn (vals':=[.bool false,hnil.v]) (us:=[.bool false,hnil.v]) b ST_31 e0 e0 rfl rfl (one_of rfl) rfl) fun w b=>?_))
 refine wK L (sQ fun _ N=>sR fun _ O=>Ya (iV 0) rfl (wK O (blockQ fun R S=>bE q fun T U q=>?_)))
 have V:∀ (g:Bool) (t:LI) (h:Hdr) (f:FV) w,f 4=(pB n)→f 5=(pB o)→St w0 ros (box n 31 [.bool false,hnil.v]::row 103 (rI .u32) h.v t::box o 31 [.bool g,h.v]::rs) w→(g,t)=T→R (.exit 0) (fr 26 f) w:=by
  intro g t h f w C W b ho
  subst ho
  refine S _ _ _ (N _ _ (sR fun _ X=>yY (lbs_ [.bool g,h.v] ST_31 (eh W) b R2) (yT (r_stbn (vals':=[.bool g,h.v]) (us:=[.bool g,h.v]) b ST_31 (eh C) e0 rfl rfl (one_of rfl) rfl) fun w b=>wK X (wp_ret ?_))))
  cases q
  exact J _ _ _ (fin1r Tryz.results74 (rcs2 rfl C b R0 ST_31 rfl) ⟨_,rfl,(b.k1u)⟩)
 replace b:=b.rowNh 103 (rI .u32)
 refine loopQ (fun s a w=>∃ (j:Bool) (u:LI) (d:Int) (f:FV) (k:Hdr),(j,u,d)=s∧a=fr 26 f∧f 0=i.v∧f 1=m.v∧f 4=(pB n)∧f 5=(pB o)∧f 6=iV d∧St w0 ros (box n 31 [.bool false,hnil.v]::row 103 (rI .u32) k.v u::box o 31 [.bool j,k.v]::rs) w) U ⟨_,_,_,_,_,rfl,rfl,rfl,rfl,rfl,rfl,rfl,(b.k1f)⟩ ?_
 rintro _ _ w b7 ⟨j,u,d,f,k,rfl,rfl,x,D,E,l,p,b⟩ c Z b8 a0 a1
 refine seqQ fun b9 a3 a4=>sR fun _ a5=>Ym (iV d) (eh p) (Ym i.v (eh x) (yY (yLen SL_32 e0 b (rdI r)) (yY (ylss e0 e0) (wK a5 ?_))))
 refine cIf e0 c (fun a6 c=>?_) fun a6 c=>?_
 ·refine wp_skip (a3 _ _ (sQ fun _ a7=>blockQ fun _ a8=>bE c fun a9 F c=>bE c fun b0 G c=>bE c fun c0 b1 c=>bE c fun H b2 c=>dR [0,0,0,6,14,0,0,96,224,510,1023,2047] [9,10,11] 3 folM ?_))
  replace b:=b.drew
  refine Dn [0,1,2,3,4,5,6,7,8] [] [9] (yR rfl (lbs_ [.bool j,k.v] ST_31 (eh l) b R2) (yR rfl (m_ i.v (eh x)) (yR rfl (m_ (iV d) (eh p)) (yR rfl (yIa SL_32 e0 e0 b (rdI r) F) ?_))))
  obtain ⟨c1,c2,b⟩:=iLd b r F
  obtain ⟨c3,c4,rfl,b⟩:=b.eltP
  obtain ⟨rfl,b⟩:=b.eltB
  obtain ⟨b3,rfl,b⟩:=b.eltS
  refine yR rfl (yCtn (cs:=[.bool a9.1,b3.v]) ST_31 rfl e0 b F1) (yR rfl (m_ m.v (eh D)) (yR rfl (m_ (iV d) (eh p)) (yR rfl (yIa SL_32 e0 e0 b (rdI (F_2 A)) G) ?_)))
  obtain ⟨c5,c6,b⟩:=iLd b (F_2 A) G
  obtain ⟨c7,c8,rfl,b⟩:=b.eltP
  obtain ⟨rfl,b⟩:=b.eltB
  obtain ⟨b4,rfl,b⟩:=b.eltS
  refine yR rfl (yCtn (cs:=[.bool b0.1,b4.v]) ST_31 rfl e0 b F1) (Rn QSn ?_)
  refine Lc1 rfl ?_
  refine Lk wn (yCall FN_86 (a2 e0 e0)) (sparseref01_Mul_ok b1 F2 F0 b) ?_
  rintro _ w ⟨c9,rfl,b⟩
  refine ⟨_,rfl,?_⟩
  refine Dn [] [0] [10] (Rn (yS rfl (lbs_ [.bool j,k.v] ST_31 (eh l) b R3) QSn) ?_)
  refine Lc1 rfl ?_
  replace b:=((b.k1f).fz).fz
  refine Lk wn (yCall FN_111 (a2 e0 e0)) (sparseref01_Add_ok b2 F1 F0 b) ?_
  rintro _ w ⟨I,rfl,b⟩
  refine ⟨_,rfl,?_⟩
  refine Dn [] [] [11] (Rn QSn ?_)
  refine Lc1 rfl ?_
  replace b:=b.k1f
  refine LT wn (r_stbn (vals':=[.bool H.1,I.v]) (us:=[.bool H.1,I.v]) b ST_31 (eh l) e0 rfl rfl (one_of rfl) rfl) fun w b=>Dz [] [] (Rn QSn (a8 _ _ _ (a7 _ _ (wR (Ym (iV d) (eh p) (yY (yadd e0 rfl) (Ya (iV (wa .i64 d 1)) e0 (wN ?_))))))))
  cases c
  exact a0 _ _ _ rfl ⟨_,_,_,_,_,rfl,rfl,x,D,E,l,rfl,((b.k2c).facts (allT (allT (allT (allT (allT (allT allI)))))))⟩
 ·refine wp_exit (a4 _ _ _ rfl ?_)
  cases c
  exact a1 _ _ _ _ rfl rfl (V _ _ _ _ _ E l b (Z _ rfl))
theorem sparseref08_Times_ok {u:List (List (Bool×LI))} {x:List (Bool×LI)} {g i:Hdr} {out:(List (Bool×LI))} (m:sparseref08_Times u x=some out) (o:imm (rS (rP rB (rS (rI .u32)))) g.v u∈ros) (D:imm (rP rB (rS (rI .u32))) i.v x∈ros) (b:St w0 ros rs w):
  Calls Tryz.prog 30 #[g.v,i.v] w (fun e w=>∃ (y:Hdr),e=.returned (y.v)∧St w0 ros (row 31 (rP rB (rS (rI .u32))) y.v out::rs) w):=by
 refine enterQ Tryz.func30 rfl Tryz.ntmps30 rfl fun Q E=>sR fun _ F=>Ya hnil.v rfl (wK F (sR fun _ G=>Ya hnil.v rfl (wK G (sQ fun _ H=>sR fun _ I=>?_))))
 refine Ya (iV 0) rfl (wK I (blockQ fun J K=>bE m fun L N m=>?_))
 have O:∀ (p:List (Bool×LI)) (h:Hdr) (f:FV) w,f 5=h.v→St w0 ros (row 31 (rP rB (rS (rI .u32))) h.v p::rs) w→p=L→J (.exit 0) (fr 23 f) w:=by
  intro p h f w R b ho
  subst ho
  refine K _ _ _ (H _ _ (sR fun _ S=>Ym h.v (eh R) (Ya h.v e0 (wK S (wp_ret ?_)))))
  cases m
  exact E _ _ _ (fin1r Tryz.results30 ⟨rfl,rfl⟩ ⟨_,rfl,b⟩)
 replace b:=b.rowNh 31 (rP rB (rS (rI .u32)))
 refine loopQ (fun s a w=>∃ (q:List (Bool×LI)) (d:Int) (f:FV) (j:Hdr),(q,d)=s∧a=fr 23 f∧f 0=g.v∧f 1=i.v∧f 5=j.v∧f 6=iV d∧St w0 ros (row 31 (rP rB (rS (rI .u32))) j.v q::rs) w) N ⟨_,_,_,_,rfl,rfl,rfl,rfl,rfl,rfl,b⟩ ?_
 rintro _ _ w a7 ⟨q,d,f,j,rfl,rfl,r,z,A,t,b⟩ c T a8 U V
 refine seqQ fun a9 W X=>sR fun _ Z=>Ym (iV d) (eh t) (Ym g.v (eh r) (yY (yLen SL_22 e0 b (rdI o)) (yY (ylss e0 e0) (wK Z ?_))))
 refine cIf e0 c (fun a0 c=>?_) fun a0 c=>?_
 ·refine wp_skip (W _ _ (sQ fun _ a1=>blockQ fun _ a3=>wR (Ym j.v (eh A) (Ym g.v (eh r) (Ym (iV d) (eh t) (bE c fun b0 B c=>yY (yIa SL_22 e0 e0 b (rdI o) B) ?_))))))
  obtain ⟨b1,b⟩:=iLs b o B
  refine yY (yCt O_32 e0 b F1 rfl) (Ym i.v (eh z) (bE c fun k a4 c=>yC (yCall FN_74 (a2 e0 e0)) (sparseref08_Dot_ok a4 F0 (F_2 D) b) ?_))
  rintro _ w ⟨C,rfl,b⟩
  refine ⟨_,rfl,?_⟩
  refine yH (rLt (n:=1) (l:=[(k.1,k.2)]) b.fz SL_32 [.agg #[.bool k.1,C.v]] (bp1 e0) rfl rfl (mks1 (cs:=[.bool k.1,C.v]) rfl (mkP mkB (mkS F0)) mks0)) fun b2 w b=>bE c fun b3 a5 c=>yH (rAp (b.k11) SL_32 e0 e0 rO1 a5) fun a6 w b=>Ya a6.v e0 (wN (a3 _ _ _ (a1 _ _ (wR (Ym (iV d) (eh t) (yY (yadd e0 rfl) (Ya (iV (wa .i64 d 1)) e0 (wN ?_))))))))
  cases c
  exact U _ _ _ rfl ⟨_,_,_,_,rfl,rfl,r,z,rfl,rfl,((b.k12).facts (allT (allT (allT allI))))⟩
 ·refine wp_exit (X _ _ _ rfl ?_)
  cases c
  exact V _ _ _ _ rfl rfl (O _ _ _ _ A b (T _ rfl))
theorem sparseref08_Product_ok {u x:List (List (Bool×LI))} {g m:Hdr} {out:(List (List (Bool×LI)))} (h:sparseref08_Product u x=some out) (o:imm (rS (rP rB (rS (rI .u32)))) g.v u∈ros) (D:imm (rS (rP rB (rS (rI .u32)))) m.v x∈ros) (b:St w0 ros rs w):
  Calls Tryz.prog 46 #[g.v,m.v] w (fun e w=>∃ (y:Hdr),e=.returned (y.v)∧St w0 ros (row 32 (rS (rP rB (rS (rI .u32)))) y.v out::rs) w):=by
 refine enterQ Tryz.func46 rfl Tryz.ntmps46 rfl fun Q E=>sR fun _ F=>Ya hnil.v rfl (wK F (sR fun _ G=>Ym m.v e0 (bE h fun H I h=>yC (yCall FN_33 (a1 e0)) (sparseref08_Transpose_ok I D b) ?_)))
 rintro _ w ⟨j,rfl,b⟩
 refine ⟨_,rfl,?_⟩
 refine Ya j.v e0 (wK G (sR fun _ J=>Ya hnil.v rfl (wK J (sQ fun _ K=>sR fun _ L=>Ya (iV 0) rfl (wK L ?_)))))
 refine blockQ fun N O=>bE h fun R S h=>?_
 have T:∀ (p:List (List (Bool×LI))) (i:Hdr) (f:FV) w,f 6=i.v→St w0 ros (row 32 (rS (rP rB (rS (rI .u32)))) i.v p::rs) w→p=R→N (.exit 0) (fr 26 f) w:=by
  intro p i f w U b ho
  subst ho
  refine O _ _ _ (K _ _ (sR fun _ V=>Ym i.v (eh U) (Ya i.v e0 (wK V (wp_ret ?_)))))
  cases h
  exact E _ _ _ (fin1r Tryz.results46 ⟨rfl,rfl⟩ ⟨_,rfl,b⟩)
 replace b:=b.fz.rowNh 32 (rS (rP rB (rS (rI .u32))))
 refine loopQ (fun s a w=>∃ (q:List (List (Bool×LI))) (d:Int) (f:FV) (k:Hdr),(q,d)=s∧a=fr 26 f∧f 0=g.v∧f 5=j.v∧f 6=k.v∧f 7=iV d∧St w0 (imm (rS (rP rB (rS (rI .u32)))) j.v H::ros) (row 32 (rS (rP rB (rS (rI .u32)))) k.v q::rs) w) S ⟨_,_,_,_,rfl,rfl,rfl,rfl,rfl,rfl,b⟩ ?_
 rintro _ _ w b2 ⟨q,d,f,k,rfl,rfl,r,z,A,t,b⟩ c W b3 X Z
 refine seqQ fun b4 a0 a3=>sR fun _ a4=>Ym (iV d) (eh t) (Ym g.v (eh r) (yY (yLen SL_22 e0 b (rdI (mtF o))) (yY (ylss e0 e0) (wK a4 ?_))))
 refine cIf e0 c (fun a5 c=>?_) fun a5 c=>?_
 ·refine wp_skip (a0 _ _ (sQ fun _ a6=>blockQ fun _ a7=>wR (Ym k.v (eh A) (Ym j.v (eh z) (Ym g.v (eh r) (Ym (iV d) (eh t) (bE c fun b5 B c=>yY (yIa SL_22 e0 e0 b (rdI (mtF o)) B) ?_)))))))
  obtain ⟨b6,b⟩:=iLs b (mtF o) B
  refine yY (yCt O_32 e0 b F1 rfl) (bE c fun a8 a9 c=>yC (yCall FN_30 (a2 e0 e0)) (sparseref08_Times_ok a9 F2 F0 b) ?_)
  rintro _ w ⟨C,rfl,b⟩
  refine ⟨_,rfl,?_⟩
  refine yH (rLt (n:=1) (l:=[a8]) b.fz SL_22 [C.v] (bp1 e0) rfl rfl (mks1 (cs:=[C.v]) rfl (mkS F0) mks0)) fun b7 w b=>bE c fun b8 b0 c=>yH (rAp (b.k11) SL_22 e0 e0 rO1 b0) fun b1 w b=>Ya b1.v e0 (wN (a7 _ _ _ (a6 _ _ (wR (Ym (iV d) (eh t) (yY (yadd e0 rfl) (Ya (iV (wa .i64 d 1)) e0 (wN ?_))))))))
  cases c
  exact X _ _ _ rfl ⟨_,_,_,_,rfl,rfl,r,z,rfl,rfl,((b.k12).facts (allC F3 (allT (allT (allT (allT allI))))))⟩
 ·refine wp_exit (a3 _ _ _ rfl ?_)
  cases c
  exact Z _ _ _ _ rfl rfl (T _ _ _ _ A (b.facts (allT allI)) (W _ rfl))
theorem sparseref01_Norm_ok {b:Bool} {f:LI} {c:Hdr} {out:Bool×LI} (d:sparseref01_Norm b f=some out) (j:imm (rI .u32) c.v f∈ros) (a:St w0 ros rs w):
  Calls Tryz.prog 78 #[.agg #[.bool b,c.v]] w (fun e w=>∃ (g:Hdr),e=.returned (.agg #[.bool out.1,g.v])∧St w0 ros (row 103 (rI .u32) g.v out.2::rs) w):=by
 refine enterQ Tryz.func78 rfl Tryz.ntmps78 rfl fun Q k=>sR fun _ l=>yBb (r_box (vals:=[.bool b,c.v]) a e0 rfl) fun o w a=>yBb (rAl a ZT_31) fun p w a=>wK l (sR fun _ m=>yY (yFb FL_31_0 e0) (yY (lb_ (.bool b) O_4 e0 a R1) (yY (yFb FL_31_1 e0) ?_)))
 refine yY (lb_ c.v O_29 e0 a R1) (bE d fun h n d=>yC (yCall FN_110 (a2 e0 e0)) (sparseref01_make1_ok n j a) ?_)
 rintro _ w ⟨i,rfl,a⟩
 refine ⟨_,rfl,?_⟩
 refine yT (r_stbn (vals':=[.bool h.1,i.v]) (us:=[.bool h.1,i.v]) (a.k11) ST_31 e0 e0 rfl rfl (one_of rfl) rfl) fun w a=>wK m (wp_ret ?_)
 cases d
 exact k _ _ _ (fin1r Tryz.results78 (rcs2 rfl rfl a R0 ST_31 rfl) ⟨_,rfl,(a.k1u)⟩)
end Go.Proofs.YtpfmbaidflhamaaGreatDoor
