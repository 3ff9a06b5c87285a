/- Walks: each function computes its model, printed. -/
import Derived.Test.YthpeajepbffinaaGreatW7
namespace Go.Proofs.YthpeajepbffinaaGreat
open Go Sx M
set_option maxRecDepth 100000
set_option maxHeartbeats 40000000
set_option linter.unusedVariables false
attribute [local irreducible] wpList Code.wp Calls DR QR QS LA LS St
variable {w0:World} {ros:List Fact} {rs:List Res} {w:World}
theorem sparseref09_Range_ok {p:LI} {j:Int} {h:Hdr} {out:Bool} (n:sparseref09_Range p j=some out) (k:imm I1 h.v p∈ros) (c:St w0 ros rs w):
  Calls Tryz.prog 68 #[h.v,iV j] w (fun e w=>e=.returned (.bool out)∧St w0 ros rs w):=by
 refine enterQ Tryz.func68 rfl Tryz.ntmps68 rfl fun Q q=>sR fun _ B=>Ya (.bool false) rfl (wK B (seqQ fun a2 C D=>sR fun _ E=>Ya (iV 0) rfl (wK E (blockQ fun _ r=>bE n fun a3 F n=>?_))))
 refine loopQ (fun s a w=>∃ (g:Int) (f:FV),g=s∧a=fr 25 f∧f 0=h.v∧f 1=iV j∧f 5=iV g∧St w0 ros rs w) F ⟨_,_,rfl,rfl,rfl,rfl,rfl,c⟩ ?_
 rintro _ _ w a4 ⟨g,f,rfl,rfl,l,o,m,c⟩ d t a5 G u
 refine seqQ fun a6 H I=>sR fun _ J=>Ym (iV g) (eh m) (Ym h.v (eh l) (yY (yLen SL_22 e0 c (rdI k)) (yY (ylss e0 e0) (wK J ?_))))
 refine cIf e0 d (fun K d=>?_) fun K d=>?_
 ·refine wp_skip (H _ _ (seqQ fun a7 L N=>blockQ fun _ x=>sR fun _ O=>Ym h.v (eh l) (Ym (iV g) (eh m) (bE d fun R y d=>yY (yIa SL_22 e0 e0 c (rdI k) y) (yY (yI O_3 e0 c (rdI k) y) (yY (ylss e0 rfl) (Ym (.bool (decide (R < 0))) e0 (bE d fun S i d=>?_))))))))
  refine joinW 7 (fun f w=>f 0=h.v∧f 1=iV j∧f 5=iV g∧f 24=.bool S∧St w0 ros rs w) (fun z=>?_) ?_
  ·rcases iteS i with ⟨b,i⟩ | ⟨b,i⟩
   ·refine gN (dT b) (gN (dT b) (gN (dT b) (gN (dT b) (gN (dT b) (gN (dT b) (yY (pt_ (.bool true) e0 (dT b) rfl) ?_))))))
    cases i
    exact z _ _ ⟨l,o,m,rfl,c⟩
   refine yG (dF b) (m_ h.v (eh l)) (yG (dF b) (m_ (iV g) (eh m)) (bE i fun T A i=>yG (dF b) (yIa SL_22 e0 e0 c (rdI k) A) (yG (dF b) (yI O_3 e0 c (rdI k) A) (yG (dF b) (m_ (iV j) (eh o)) (yG (dF b) (ygeq e0 e0) (yY (pf_ (.bool (decide (j≤T))) e0 (dF b) e0) ?_))))))
   cases i
   exact z _ _ ⟨l,o,m,rfl,c⟩
  rintro f w ⟨U,V,W,X,c⟩
  refine wK O (cB (eh X) d (fun Z d=>?_) fun Z d=>?_)
  ·refine sR fun _ a0=>Ya (.bool false) rfl (wK a0 (wp_ret (x _ _ _ (N _ _ _ rfl ?_))))
   cases d
   refine u _ _ _ _ rfl rfl ?_
   obtain rfl:=t _ rfl
   refine r _ _ _ (D _ _ _ rfl ?_)
   cases n
   exact q _ _ _ (fin1r Tryz.results68 ⟨rfl,rfl⟩ ⟨rfl,c⟩)
  refine wp_skip (x _ _ _ (L _ _ (wR (Ym (iV g) (eh W) (yY (yadd e0 rfl) (Ya (iV (wa .i64 g 1)) e0 (wN ?_)))))))
  cases d
  exact G _ _ _ rfl ⟨_,_,rfl,rfl,U,V,rfl,c⟩
 refine wp_exit (I _ _ _ rfl ?_)
 cases d
 refine u _ _ _ _ rfl rfl ?_
 obtain rfl:=t _ rfl
 refine r _ _ _ (C _ _ (sR fun _ a1=>Ya (.bool true) rfl (wK a1 (wp_ret ?_))))
 cases n
 exact q _ _ _ (fin1r Tryz.results68 ⟨rfl,rfl⟩ ⟨rfl,c⟩)
theorem sparseref09_Twice_ok {l:LI} {g:Hdr} {out:Bool} (i:sparseref09_Twice l=some out) (h:imm I1 g.v l∈ros) (b:St w0 ros rs w):
  Calls Tryz.prog 69 #[g.v] w (fun e w=>e=.returned (.bool out)∧St w0 ros rs w):=by
 refine enterQ Tryz.func69 rfl Tryz.ntmps69 rfl fun Q m=>sR fun _ k1=>Ya (.bool false) rfl (wK k1 (seqQ fun N u x=>sR fun _ y=>Ya (iV 0) rfl (wK y (blockQ fun _ n=>bE i fun O z i=>?_))))
 refine loopQ (fun s a w=>∃ (d:Int) (f:FV),d=s∧a=fr 18 f∧f 0=g.v∧f 3=iV d∧St w0 ros rs w) z ⟨_,_,rfl,rfl,rfl,rfl,b⟩ ?_
 rintro _ _ w R ⟨d,f,rfl,rfl,j,k,b⟩ c o S A p
 refine seqQ fun T B C=>sR fun _ D=>Ym (iV d) (eh k) (Ym g.v (eh j) (yY (yLen SL_22 e0 b (rdI h)) (yY (ylss e0 e0) (wK D ?_))))
 refine cIf e0 c (fun E c=>?_) fun E c=>?_
 ·refine wp_skip (B _ _ (seqQ fun U F G=>blockQ fun _ q=>sQ fun _ H=>bE c fun V r c=>bE c fun W t c=>bE c fun X I c=>dR [0,0,3,0,0,24,56,127] [7] 1 folM ?_))
  replace b:=b.drew
  refine Dn [0,1,2,3,4,5,6] [] [7] (yR rfl (m_ g.v (eh j)) (yR rfl (m_ (iV d) (eh k)) (yR rfl (ySl (k1:=.i64) SL_22 e0 b (rdI h) (.inr ⟨rfl,rfl⟩) (.inl (congrArg some e0)) r) ?_)))
  replace b:=b.sub h r
  refine yR rfl (m_ g.v (eh j)) (yR rfl (m_ (iV d) (eh k)) (yR rfl (yIa SL_22 e0 e0 b (rdI (mtF h)) t) (yR rfl (yI O_3 e0 b (rdI (mtF h)) t) (Rn QSn ?_))))
  refine Lc1 rfl ?_
  refine Lk wn (yCall FN_37 (a2 e0 e0)) (sparsekit_In_ok I F0 b) ?_
  rintro _ w ⟨rfl,b⟩
  refine ⟨_,rfl,?_⟩
  refine Dz [] [] (Rn QSn (H _ _ (cB e0 c (fun J c=>?_) fun J c=>?_)))
  ·refine sR fun _ K=>Ya (.bool true) rfl (wK K (wp_ret (q _ _ _ (G _ _ _ rfl ?_))))
   cases c
   refine p _ _ _ _ rfl rfl ?_
   obtain rfl:=o _ rfl
   refine n _ _ _ (x _ _ _ rfl ?_)
   cases i
   exact m _ _ _ (fin1r Tryz.results69 ⟨rfl,rfl⟩ ⟨rfl,(b.facts (allT allI))⟩)
  refine wp_skip (q _ _ _ (F _ _ (wR (Ym (iV d) (eh k) (yY (yadd e0 rfl) (Ya (iV (wa .i64 d 1)) e0 (wN ?_)))))))
  cases c
  exact A _ _ _ rfl ⟨_,_,rfl,rfl,j,rfl,(b.facts (allT allI))⟩
 refine wp_exit (C _ _ _ rfl ?_)
 cases c
 refine p _ _ _ _ rfl rfl ?_
 obtain rfl:=o _ rfl
 refine n _ _ _ (u _ _ (sR fun _ L=>Ya (.bool false) rfl (wK L (wp_ret ?_))))
 cases i
 exact m _ _ _ (fin1r Tryz.results69 ⟨rfl,rfl⟩ ⟨rfl,b⟩)
theorem sparseref12_empty_ok {h:Int} {out:(List (List Bool))} (i:sparseref12_empty h=some out) (b:St w0 ros rs w):
  Calls Tryz.prog 71 #[iV h] w (fun e w=>∃ (p:Hdr) (q:List Hdr),e=.returned (p.v)∧St w0 ros (row 93 rH p.v q::fam 4 rB q out::rs) w):=by
 refine enterQ Tryz.func71 rfl Tryz.ntmps71 rfl fun Q x=>sR fun _ y=>Ya hnil.v rfl (wK y (sR fun _ z=>Ya hnil.v rfl (wK z (sQ fun _ A=>sR fun _ B=>?_))))
 refine Ya (iV 0) rfl (wK B (blockQ fun _ C=>bE i fun V D i=>?_))
 replace b:=((b.rowNh 93 rH).fNew 4 rB).pk 2 [1,0] rfl
 refine loopQ (fun s a w=>∃ (j:List (List Bool)) (d:Int) (f:FV) (g:Hdr) (k:List Hdr),(j,d)=s∧a=fr 16 f∧f 0=iV h∧f 3=g.v∧f 4=iV d∧St w0 ros (row 93 rH g.v k::fam 4 rB k j::rs) w) D ⟨_,_,_,_,_,rfl,rfl,rfl,rfl,rfl,b⟩ ?_
 rintro _ _ w W ⟨j,d,f,g,k,rfl,rfl,m,r,t,b⟩ c E X F G
 refine seqQ fun Z H I=>sR fun _ J=>Ym (iV d) (eh t) (Ym (iV h) (eh m) (yY (ylss e0 e0) (wK J ?_)))
 refine cIf e0 c (fun K c=>?_) fun K c=>?_
 ·refine wp_skip (H _ _ (sQ fun _ L=>blockQ fun _ N=>wR (Ym g.v (eh r) (Ym (iV h) (eh m) (bE c fun O R c=>yH (rMk b SL_93 e0 R) fun o w b=>yH (rLt (n:=1) (l:=[o]) b SLH_98 [o.v] (bp1 e0) rfl rfl (mks1 rfl (mkF rfl) mks0)) fun a0 w b=>bE c fun a1 u c=>?_)))))
  replace b:=b.pk 3 [2,0,0] rfl
  obtain ⟨a2,ey39,S⟩:=app_rep u (b.famL R3) (show [o].length=[O].length from rfl)
  refine yH (rAp b SLH_98 e0 e0 rO1 S) fun T w b=>?_
  replace b:=(b.pk 4 [2,2,0,0] rfl).fPush
  rw [← ey39,← (app_some u).1] at b
  refine Ya T.v e0 (wN (N _ _ _ (L _ _ (wR (Ym (iV d) (eh t) (yY (yadd e0 rfl) (Ya (iV (wa .i64 d 1)) e0 (wN ?_))))))))
  cases c
  exact F _ _ _ rfl ⟨_,_,_,_,_,rfl,rfl,m,rfl,rfl,(b.pk 3 [1,0] rfl)⟩
 refine wp_exit (I _ _ _ rfl ?_)
 cases c
 refine G _ _ _ _ rfl rfl ?_
 obtain rfl:=E _ rfl
 refine C _ _ _ (A _ _ (sR fun _ U=>Ym g.v (eh r) (Ya g.v e0 (wK U (wp_ret ?_)))))
 cases i
 exact x _ _ _ (fin1r Tryz.results71 ⟨rfl,rfl⟩ ⟨_,_,rfl,b⟩)
theorem sparseref12_FromTable_ok {L:List (List Bool)} {k:Hdr} {out:L2} (D:sparseref12_FromTable L=some out) (A:imm SB k.v L∈ros) (b:St w0 ros rs w):
  Calls Tryz.prog 67 #[k.v] w (fun e w=>∃ (N:Hdr),e=.returned (.agg #[N.v])∧St w0 ros (row 22 S1 N.v out::rs) w):=by
 refine enterQ Tryz.func67 rfl Tryz.ntmps67 rfl fun Q a8=>sR fun _ a9=>yBb (rAl b ZT_26) fun p w b=>wK a9 (sR fun _ b0=>yBb (rAl b ZT_26) fun q w b=>wK b0 (sQ fun _ b1=>?_))
 refine sR fun _ b2=>Ya (iV 0) rfl (wK b2 (blockQ fun _ b5=>bE D fun g8 b6 D=>?_))
 replace b:=b.rowNh 22 S1
 refine loopQ (fun s a w=>∃ (u:L2) (h:Int) (f:FV) (i:Hdr),(u,h)=s∧a=fr 51 f∧f 0=k.v∧f 2=(pB p)∧f 3=(pB q)∧f 4=iV h∧St w0 ros (box p 26 [hnil.v]::row 22 S1 i.v u::box q 26 [i.v]::rs) w) b6 ⟨_,_,_,_,rfl,rfl,rfl,rfl,rfl,rfl,(b.pk 3 [2,0,0] rfl)⟩ ?_
 rintro _ _ w g9 ⟨u,h,f,i,rfl,rfl,O,G,R,S,b⟩ r b7 h0 b8 b9
 refine seqQ fun h1 c0 c1=>sR fun _ c2=>Ym (iV h) (eh S) (Ym k.v (eh O) (yY (yLen SL_98 e0 b (rdI A)) (yY (ylss e0 e0) (wK c2 ?_))))
 refine cIf e0 r (fun c3 r=>?_) fun c3 r=>?_
 ·refine wp_skip (c0 _ _ (sQ fun _ c4=>blockQ fun _ c5=>sR fun _ c6=>Ya hnil.v rfl (wK c6 (sQ fun _ c7=>sR fun _ c8=>Ya (iV 0) rfl (wN ?_)))))
  refine c8 _ _ (blockQ fun _ c9=>bE r fun h3 d0 r=>?_)
  replace b:=b.rowNh 3 I1
  refine loopQ (fun s a w=>∃ (B:LI) (d:Int) (f:FV) (m:Hdr),(B,d)=s∧a=fr 51 f∧f 0=k.v∧f 2=(pB p)∧f 3=(pB q)∧f 4=iV h∧f 5=m.v∧f 6=iV d∧St w0 ros (box p 26 [hnil.v]::row 22 S1 i.v u::box q 26 [i.v]::row 3 I1 m.v B::rs) w) d0 ⟨_,_,_,_,rfl,rfl,O,G,R,S,rfl,rfl,(b.pk 4 [1,1,1,0] rfl)⟩ ?_
  rintro _ _ w d1 ⟨B,d,f,m,rfl,rfl,x,E,C,y,F,z,b⟩ j d2 h4 d3 d4
  refine seqQ fun h5 d5 d6=>sR fun _ d7=>Ym (iV d) (eh z) (Ym k.v (eh x) (yY (yLen SL_98 e0 b (rdI A)) (yY (ylss e0 e0) (wK d7 ?_))))
  refine cIf e0 j (fun d8 j=>?_) fun d8 j=>?_
  ·refine wp_skip (d5 _ _ (sQ fun _ d9=>blockQ fun e1 e2=>sR fun _ e3=>Ym (iV h) (eh y) (Ym (iV d) (eh z) (yY (yneq e0 e0) (Ym (.bool (!(decide (h=d)))) e0 (bE j fun e4 o j=>?_))))))
   refine joinW 17 (fun f w=>f 0=k.v∧f 2=(pB p)∧f 3=(pB q)∧f 4=iV h∧f 5=m.v∧f 6=iV d∧f 39=.bool e4∧St w0 ros (box p 26 [hnil.v]::row 22 S1 i.v u::box q 26 [i.v]::row 3 I1 m.v B::rs) w) (fun T=>?_) ?_
   ·rcases iteS o with ⟨c,o⟩ | ⟨c,o⟩
    ·refine gN (nF (dT c)) (gN (nF (dT c)) (gN (nF (dT c)) (gN (nF (dT c)) (gN (nF (dT c)) (gN (nF (dT c)) (gN (nF (dT c)) (gN (nF (dT c)) (Gn (wxu rfl rfl rfl) rfl (Gn (wxu rfl rfl rfl) rfl (Gn (wxu rfl rfl rfl) rfl (Gn (wxu rfl rfl rfl) rfl (Gn (wxu rfl rfl rfl) rfl (Gn (wxu rfl rfl rfl) rfl ?_)))))))))))))
     refine Gn (wxu rfl rfl rfl) rfl (gN (nF (dT c)) (yY (pf_ (.bool false) e0 (nF (dT c)) rfl) ?_))
     cases o
     exact T _ _ ⟨x,E,C,y,F,z,rfl,b⟩
    refine yG (nT (dF c)) (m_ k.v (eh x)) (yG (nT (dF c)) (m_ (iV h) (eh y)) (bE o fun e5 U o=>yG (nT (dF c)) (yIa SL_98 e0 e0 b (rdI A) U) ?_))
    obtain ⟨V,b⟩:=iLs b A U
    refine yG (nT (dF c)) (yCt O_93 e0 b F1 rfl) (yG (nT (dF c)) (m_ (iV d) (eh z)) (bE o fun H W o=>yG (nT (dF c)) (yIa SL_93 e0 e0 b (rdI F0) W) (yG (nT (dF c)) (yB O_4 e0 b (rdI F0) W) (yG (nT (dF c)) (m_ (.bool H) e0) (bE o fun X t o=>?_)))))
    refine joinW 8 (fun f w=>f 0=k.v∧f 2=(pB p)∧f 3=(pB q)∧f 4=iV h∧f 5=m.v∧f 6=iV d∧f 22=.bool (!(decide (h=d)))∧f 23=k.v∧f 24=iV h∧f 26=V.v∧f 27=iV d∧f 29=.bool H∧f 30=.bool H∧f 38=.bool X∧St w0 (imm rB V.v e5::ros) (box p 26 [hnil.v]::row 22 S1 i.v u::box q 26 [i.v]::row 3 I1 m.v B::rs) w) (fun Z=>?_) ?_
    ·rcases iteS t with ⟨g,t⟩ | ⟨g,t⟩
     ·refine gN g (gN g (gN g (gN g (gN g (gN g (gN g (yG (nT (dF c)) (pt_ (.bool true) e0 g rfl) ?_)))))))
      cases t
      exact Z _ _ ⟨x,E,C,y,F,z,rfl,rfl,rfl,rfl,rfl,rfl,rfl,rfl,(b.facts (allC F0 (allT (allT allI))))⟩
     refine yG (bfalse g) (m_ k.v (eh x)) (yG (bfalse g) (m_ (iV d) (eh z)) (bE t fun h6 a0 t=>yG (bfalse g) (yIa SL_98 e0 e0 b (rdI (F_2 A)) a0) ?_))
     obtain ⟨h7,b⟩:=iLs b (F_2 A) a0
     refine yG (bfalse g) (yCt O_93 e0 b F1 rfl) (yG (bfalse g) (m_ (iV h) (eh y)) (bE t fun e6 a1 t=>yG (bfalse g) (yIa SL_93 e0 e0 b (rdI F0) a1) (yG (bfalse g) (yB O_4 e0 b (rdI F0) a1) (yG (nT (dF c)) (pf_ (.bool e6) e0 (bfalse g) e0) ?_))))
     cases t
     exact Z _ _ ⟨x,E,C,y,F,z,rfl,rfl,rfl,rfl,rfl,rfl,rfl,rfl,(b.facts (allC F2 (allT (allT (allT (allT allI))))))⟩
    rintro f w ⟨e7,e8,e9,f0,f1,f2,f3,h8,h9,i0,i1,i2,i3,f4,b⟩
    refine yY (pt_ (.bool X) (eh f3) (nT (dF c)) (eh f4)) ?_
    cases o
    exact T _ _ ⟨e7,e8,e9,f0,f1,f2,rfl,(b.facts (allT allI))⟩
   rintro f w ⟨a2,a3,a4,a5,a6,I,f5,b⟩
   refine wK e3 ?_
   have a7:∀ (J:LI) (K:Hdr) (f:FV) w,f 0=k.v→f 2=(pB p)→f 3=(pB q)→f 4=iV h→f 5=K.v→f 6=iV d→St w0 ros (box p 26 [hnil.v]::row 22 S1 i.v u::box q 26 [i.v]::row 3 I1 K.v J::rs) w→sparseref12_FromTable_j40 d J=some d1→e1 .normal (fr 51 f) w:=by
    intro J K f w f6 f7 f8 f9 g0 g1 b D
    refine e2 _ _ _ (d9 _ _ (wR (Ym (iV d) (eh g1) (yY (yadd e0 rfl) (Ya (iV (wa .i64 d 1)) e0 (wN ?_))))))
    cases D
    exact d3 _ _ _ rfl ⟨_,_,_,_,rfl,rfl,f6,f7,f8,f9,g0,rfl,b⟩
   refine cB (eh f5) j (fun g2 j=>?_) fun g2 j=>?_
   ·exact wR (Ym m.v (eh a6) (Ym (iV d) (eh I) (yH (rLt (n:=1) (l:=[d]) b SL_22 [iV d] (bp1 e0) rfl rfl (mks1 (cs:=[iV d]) rfl mkI mks0)) fun i4 w b=>bE j fun i5 g3 j=>yH (rAp (b.pk 5 [4,0,0,0,0] rfl) SL_22 e0 e0 rO1 g3) fun g4 w b=>Ya g4.v e0 (wN (a7 _ _ _ _ a2 a3 a4 a5 rfl I (b.pk 5 [2,2,2,0] rfl) j)))))
   exact wp_skip (a7 _ _ _ _ a2 a3 a4 a5 a6 I b j)
  refine wp_exit (d6 _ _ _ rfl ?_)
  cases j
  refine d4 _ _ _ _ rfl rfl ?_
  obtain rfl:=d2 _ rfl
  refine c9 _ _ _ (c7 _ _ (wR (yY (yFb FL_26_0 (eh C)) (yY (lb_ i.v O_24 e0 b R2) (Ym m.v (eh F) (yH (rLt (n:=1) (l:=[B]) ((b.pk 4 [3,0,0,0] rfl).fz) SL_24 [m.v] (bp1 e0) rfl rfl (mks1 (cs:=[m.v]) rfl (mkS F0) mks0)) fun i6 w b=>bE r fun i7 g5 r=>yH (rAp (b.pk 3 [2,0,0] rfl) SL_24 e0 e0 rO1 g5) fun g6 w b=>yY (yFb FL_26_0 (eh C)) (yT (r_stb1 (vals':=[g6.v]) (b.pk 4 [3,0,0,0] rfl) O_24 e0 e0 rfl rfl rfl rfl) fun w b=>?_)))))))
  refine wN (c5 _ _ _ (c4 _ _ (wR (Ym (iV h) (eh y) (yY (yadd e0 rfl) (Ya (iV (wa .i64 h 1)) e0 (wN ?_)))))))
  cases r
  exact b8 _ _ _ rfl ⟨_,_,_,_,rfl,rfl,x,E,C,rfl,((b.pk 4 [3,1,0] rfl).facts (allT allI))⟩
 refine wp_exit (c1 _ _ _ rfl ?_)
 cases r
 refine b9 _ _ _ _ rfl rfl ?_
 obtain rfl:=b7 _ rfl
 refine b5 _ _ _ (b1 _ _ (sR fun _ g7=>yY (lbs_ [i.v] ST_26 (eh R) b R2) (yT (r_stbn (vals':=[i.v]) (us:=[i.v]) b ST_26 (eh G) e0 rfl rfl (one_of rfl) rfl) fun w b=>wK g7 (wp_ret ?_))))
 cases D
 exact a8 _ _ _ (fin1r Tryz.results67 (rcs2 rfl G b R0 ST_26 rfl) ⟨_,rfl,(b.pk 3 [1] rfl)⟩)
theorem sparseref12_Induced_ok {L:L2} {N:LI} {m g:Hdr} {out:L2×Int} (c:sparseref12_Induced L N=some out) (B:imm S1 m.v L∈ros) (h:imm I1 g.v N∈ros) (b:St w0 ros rs w):
  Calls Tryz.prog 38 #[.agg #[m.v],g.v] w (fun e w=>∃ (O:Hdr),e=.returned (.tuple #[.agg #[O.v],iV out.2])∧St w0 ros (row 22 S1 O.v out.1::rs) w):=by
 refine enterQ Tryz.func38 rfl Tryz.ntmps38 rfl fun Q q=>sR fun _ a4=>yBb (r_box (vals:=[m.v]) b e0 rfl) fun g0 w b=>yBb (rAl b ZT_26) fun r w b=>Ya (iV 0) rfl (wK a4 (seqQ fun g1 a5 a6=>sR fun _ a7=>yY (lbs_ [m.v] ST_26 e0 b R1) ?_))
 refine bE c fun t a8 c=>yC (yCall FN_54 (a1 e0)) (sparseref12_Check_ok a8 B b) ?_
 rintro _ w ⟨rfl,b⟩
 refine ⟨_,rfl,?_⟩
 refine Ya (iV t) e0 (wK a7 (sR fun _ a9=>Ym (iV t) e0 (yY (yneq e0 rfl) (wK a9 ?_))))
 rcases iteS c with ⟨C,c⟩ | ⟨C,c⟩
 ·refine condF e0 (nF (dT C)) (wp_skip (a5 _ _ (seqQ fun g2 b0 b1=>sR fun _ b2=>Ym g.v e0 (yY (yFb FL_26_0 e0) (yY (lb_ m.v O_24 e0 b R1) (yY (yLen SL_24 e0 b (rdI B)) (bE c fun g3 b3 c=>yC (yCall FN_68 (a2 e0 e0)) (sparseref09_Range_ok b3 h b) ?_)))))))
  rintro _ w ⟨rfl,b⟩
  refine ⟨_,rfl,?_⟩
  refine yY (ynot e0) (wK b2 ?_)
  rcases iteS c with ⟨D,c⟩ | ⟨D,c⟩
  ·refine condF e0 (nF D) (wp_skip (b0 _ _ (seqQ fun g4 b4 b7=>sR fun _ b8=>Ym g.v e0 (bE c fun g5 b9 c=>yC (yCall FN_69 (a1 e0)) (sparseref09_Twice_ok b9 h b) ?_))))
   rintro _ w ⟨rfl,b⟩
   refine ⟨_,rfl,?_⟩
   refine wK b8 (cB e0 c (fun c0 c=>?_) fun c0 c=>?_)
   ·refine sR fun _ c1=>yY (ybuild (us:=[hnil.v]) [] SO_26 bp0 rfl) (yT (r_stbn (vals':=[hnil.v]) (us:=[hnil.v]) b ST_26 e0 e0 rfl rfl (one_of rfl) rfl) fun w b=>Ya (iV 90) rfl (wK c1 (wp_ret (b7 _ _ _ rfl ?_))))
    cases c
    replace b:=b.rowNh 22 S1
    exact q _ _ _ (fin2r Tryz.results38 (rcs2 rfl rfl b R1 ST_26 rfl) ⟨rfl,rfl⟩ ⟨_,rfl,(b.pk 3 [0] rfl)⟩)
   refine wp_skip (b4 _ _ (sR fun _ c2=>yY (lbs_ [m.v] ST_26 e0 b R1) (bE c fun R c3 c=>yC (yCall FN_70 (a1 e0)) (sparseref12_Table_ok c3 B b) ?_)))
   rintro _ w ⟨n,u,rfl,b⟩
   refine ⟨_,rfl,?_⟩
   refine Ya n.v e0 (wK c2 (sR fun _ c4=>Ym g.v e0 (yY (yLen SL_22 e0 b (rdI h)) (bE c fun g6 c5 c=>yC (yCall FN_71 (a1 e0)) (sparseref12_empty_ok c5 b) ?_))))
   rintro _ w ⟨k,x,rfl,b⟩
   refine ⟨_,rfl,?_⟩
   refine Ya k.v e0 (wK c4 (sQ fun _ c6=>sR fun _ c7=>Ya (iV 0) rfl (wK c7 (blockQ fun _ c9=>bE c fun g7 d0 c=>?_))))
   refine loopQ (fun s a w=>∃ (E:List (List Bool)) (i:Int) (f:FV),(E,i)=s∧a=fr 65 f∧f 1=g.v∧f 4=(pB r)∧f 7=n.v∧f 8=k.v∧f 9=iV i∧St w0 ros (box r 26 [hnil.v]::row 93 rH n.v u::fam 4 rB u R::row 93 rH k.v x::fam 4 rB x E::rs) w) d0 ⟨_,_,_,rfl,rfl,rfl,rfl,rfl,rfl,rfl,(b.pk 6 [4,2,2,0,0] rfl)⟩ ?_
   rintro _ _ w g8 ⟨E,i,f,rfl,rfl,S,F,d1,T,U,b⟩ l d2 g9 d3 d4
   refine seqQ fun h0 d5 d6=>sR fun _ d7=>Ym (iV i) (eh U) (Ym g.v (eh S) (yY (yLen SL_22 e0 b (rdI h)) (yY (ylss e0 e0) (wK d7 ?_))))
   refine cIf e0 l (fun d8 l=>?_) fun d8 l=>?_
   ·refine wp_skip (d5 _ _ (sQ fun _ d9=>blockQ fun _ e1=>sR fun _ e2=>Ya (iV 0) rfl (wK e2 (blockQ fun _ e3=>bE l fun h1 e4 l=>?_))))
    refine loopQ (fun s a w=>∃ (G:List (List Bool)) (j:Int) (f:FV),(G,j)=s∧a=fr 65 f∧f 1=g.v∧f 4=(pB r)∧f 7=n.v∧f 8=k.v∧f 9=iV i∧f 10=iV j∧St w0 ros (box r 26 [hnil.v]::row 93 rH n.v u::fam 4 rB u R::row 93 rH k.v x::fam 4 rB x G::rs) w) e4 ⟨_,_,_,rfl,rfl,S,F,d1,T,U,rfl,b⟩ ?_
    rintro _ _ w h3 ⟨G,j,f,rfl,rfl,o,V,H,I,y,z,b⟩ d e5 h5 e6 e7
    refine seqQ fun h6 e8 e9=>sR fun _ f0=>Ym (iV j) (eh z) (Ym g.v (eh o) (yY (yLen SL_22 e0 b (rdI h)) (yY (ylss e0 e0) (wK f0 ?_))))
    refine cIf e0 d (fun f1 d=>?_) fun f1 d=>?_
    ·refine wp_skip (e8 _ _ (sQ fun _ f2=>blockQ fun _ f3=>bE d fun h7 J d=>bE d fun h8 W d=>bE d fun h9 K d=>bE d fun i0 X d=>bE d fun f4 Z d=>bE d fun i1 a0 d=>bE d fun i2 f5 d=>dR [0,0,3,7,0,0,0,0,192,448,992,2016,0,0,12288,28672,65504,131040,262143,524287] [19] 1 folM ?_))
     replace b:=b.drew
     refine Dn [0,1,2,3,4,5,6,7,8,9,10,11,12,13,14,15,16,17,18] [] [19] (yR rfl (m_ k.v (eh I)) (yR rfl (m_ (iV i) (eh y)) ?_))
     obtain ⟨i3,p⟩:=b.famI R4 J
     refine yR rfl (yIa SLH_98 e0 e0 b rO3 p) (yR rfl (yF1 O_93 e0 b rO3 p rfl) (yR rfl (m_ (iV j) (eh z)) (yR rfl (m_ n.v (eh H)) (yR rfl (m_ g.v (eh o)) (yR rfl (m_ (iV i) (eh y)) (yR rfl (yIa SL_22 e0 e0 b (rdI h) W) (yR rfl (yI O_3 e0 b (rdI h) W) ?_)))))))
     obtain ⟨i4,A⟩:=b.famI R2 K
     refine yR rfl (yIa SLH_98 e0 e0 b rO1 A) (yR rfl (yF1 O_93 e0 b rO1 A rfl) (yR rfl (m_ g.v (eh o)) (yR rfl (m_ (iV j) (eh z)) (yR rfl (yIa SL_22 e0 e0 b (rdI h) X) (yR rfl (yI O_3 e0 b (rdI h) X) (yR rfl (yIa SL_93 e0 e0 b (rdF R2 A K) Z) (yR rfl (yB O_4 e0 b (rdF R2 A K) Z) (yR rfl (yIs SL_93 e0 e0 b (rdF R4 p J) a0) (Rn QSn ?_)))))))))
     refine Lc1 rfl ?_
     replace b:=b.pk 5 [4,0,0,0,0] rfl
     refine LT wn (r_sti (cs:=[.bool f4]) (b.foc p J) O_4 rfl e0 e0 rfl mkB a0) fun w b=>?_
     replace b:=b.unfoc' p f5
     refine Dz [] [] (Rn QSn (f3 _ _ _ (f2 _ _ (wR (Ym (iV j) (eh z) (yY (yadd e0 rfl) (Ya (iV (wa .i64 j 1)) e0 (wN ?_))))))))
     cases d
     exact e6 _ _ _ rfl ⟨_,_,_,rfl,rfl,o,V,H,I,y,rfl,(b.pk 5 [1,1,1,1,0] rfl)⟩
    refine wp_exit (e9 _ _ _ rfl ?_)
    cases d
    refine e7 _ _ _ _ rfl rfl ?_
    obtain rfl:=e5 _ rfl
    refine e3 _ _ _ (e1 _ _ _ (d9 _ _ (wR (Ym (iV i) (eh y) (yY (yadd e0 rfl) (Ya (iV (wa .i64 i 1)) e0 (wN ?_)))))))
    cases l
    exact d3 _ _ _ rfl ⟨_,_,_,rfl,rfl,o,V,H,I,rfl,b⟩
   refine wp_exit (d6 _ _ _ rfl ?_)
   cases l
   refine d4 _ _ _ _ rfl rfl ?_
   obtain rfl:=d2 _ rfl
   refine c9 _ _ _ (c6 _ _ (sR fun _ f6=>Ym k.v (eh T) (bE c fun i5 f7 c=>?_)))
   replace b:=(b.pk 5 [3,3,0,0,0] rfl).ffz
   refine yC (yCall FN_67 (a1 e0)) (sparseref12_FromTable_ok f7 F0 b) ?_
   rintro _ w ⟨a3,rfl,b⟩
   refine ⟨_,rfl,?_⟩
   refine yT (r_stbn (vals':=[a3.v]) (us:=[a3.v]) (b.pk 2 [1,0] rfl) ST_26 (eh F) e0 rfl rfl (one_of rfl) rfl) fun w b=>Ya (iV 0) rfl (wK f6 (wp_ret ?_))
   cases c
   exact q _ _ _ (fin2r Tryz.results38 (rcs2 rfl F b R0 ST_26 rfl) ⟨rfl,rfl⟩ ⟨_,rfl,((b.pk 4 [1] rfl).facts (allT allI))⟩)
  refine condT e0 (nT (bfalse D)) (sR fun _ f8=>yY (ybuild (us:=[hnil.v]) [] SO_26 bp0 rfl) (yT (r_stbn (vals':=[hnil.v]) (us:=[hnil.v]) b ST_26 e0 e0 rfl rfl (one_of rfl) rfl) fun w b=>Ya (iV 3) rfl (wK f8 (wp_ret (b1 _ _ _ rfl ?_)))))
  cases c
  replace b:=b.rowNh 22 S1
  exact q _ _ _ (fin2r Tryz.results38 (rcs2 rfl rfl b R1 ST_26 rfl) ⟨rfl,rfl⟩ ⟨_,rfl,(b.pk 3 [0] rfl)⟩)
 refine condT e0 (nT (dF C)) (sR fun _ f9=>yY (ybuild (us:=[hnil.v]) [] SO_26 bp0 rfl) (Ym (iV t) e0 (yT (r_stbn (vals':=[hnil.v]) (us:=[hnil.v]) b ST_26 e0 e0 rfl rfl (one_of rfl) rfl) fun w b=>Ya (iV t) e0 (wK f9 (wp_ret (a6 _ _ _ rfl ?_))))))
 cases c
 replace b:=b.rowNh 22 S1
 exact q _ _ _ (fin2r Tryz.results38 (rcs2 rfl rfl b R1 ST_26 rfl) ⟨rfl,rfl⟩ ⟨_,rfl,(b.pk 3 [0] rfl)⟩)
theorem sparseref18_part_ok {rec:L2→Int→Option (LI×Int)} (H:∀ {w0:World} {ros:List Fact} {rs:List Res} {w:World} {k:L2} {m:Int} {g:Hdr} {out:LI×Int} (d:rec k m=some out) (C:imm S1 g.v k∈ros) (b:St w0 ros rs w),Calls Tryz.prog 30 #[.agg #[g.v],iV m] w (fun e w=>∃ (o:Hdr),e=.returned (.tuple #[o.v,iV out.2])∧St w0 ros (row 3 I1 o.v out.1::rs) w)) {w0:World} {ros:List Fact} {rs:List Res} {w:World} {k:L2} {m:LI} {t:Int} {g p:Hdr} {out:LI} (d:sparseref18_part rec k m t=some out) (C:imm S1 g.v k∈ros) (u:imm I1 p.v m∈ros) (b:St w0 ros rs w):
  Calls Tryz.prog 64 #[.agg #[g.v],p.v,iV t] w (fun e w=>∃ (o:Hdr),e=.returned (o.v)∧St w0 ros (row 3 I1 o.v out::rs) w):=by
 refine enterQ Tryz.func64 rfl Tryz.ntmps64 rfl fun Q I=>sR fun _ J=>yBb (r_box (vals:=[g.v]) b e0 rfl) fun b0 w b=>Ya hnil.v rfl (wK J (sR fun _ K=>yY (lbs_ [g.v] ST_26 e0 b R0) (Ym p.v e0 (bE d fun x L d=>yC (yCall FN_38 (a2 e0 e0)) (sparseref12_Induced_ok L C u b) ?_))))
 rintro _ w ⟨q,rfl,b⟩
 refine ⟨_,rfl,?_⟩
 refine Ym (.tuple #[.agg #[q.v],iV x.2]) e0 (yY (x_ (.agg #[q.v]) e0) (yY (x_ (iV x.2) e0) (yBb (rAl b ZT_26) fun b1 w b=>yT (r_stbn (vals':=[q.v]) (us:=[q.v]) b ST_26 e0 e0 rfl rfl (one_of rfl) rfl) fun w b=>Ya (iV x.2) e0 (wK K (sR fun _ N=>yY (lbs_ [q.v] ST_26 e0 b R0) (Ym (iV t) e0 ?_))))))
 refine bE d fun r O d=>?_
 replace b:=(b.pk 2 [1,0] rfl).fz
 refine yC (yCall FN_30 (a2 e0 e0)) (H O F0 b) ?_
 rintro _ w ⟨h,rfl,b⟩
 refine ⟨_,rfl,?_⟩
 refine Ym (.tuple #[h.v,iV r.2]) e0 (yY (x_ h.v e0) (yY (x_ (iV r.2) e0) (Ya h.v e0 (Ya (iV r.2) e0 (wK N (sR fun _ R=>Ya hnil.v rfl (wK R (sQ fun _ S=>sQ fun _ T=>?_))))))))
 refine wR (Ya (iV 0) rfl (wK T (blockQ fun _ U=>bE d fun b2 V d=>?_)))
 replace b:=b.rowNh 3 I1
 refine loopQ (fun s a w=>∃ (y:LI) (i:Int) (f:FV) (j:Hdr),(y,i)=s∧a=fr 42 f∧f 1=p.v∧f 9=h.v∧f 11=j.v∧f 12=iV i∧St w0 ros (row 3 I1 h.v r.1::row 3 I1 j.v y::rs) w) V ⟨_,_,_,_,rfl,rfl,rfl,rfl,rfl,rfl,((b.pk 4 [1,0] rfl).facts (allT allI))⟩ ?_
 rintro _ _ w b3 ⟨y,i,f,j,rfl,rfl,D,z,E,A,b⟩ c W b4 X Z
 refine seqQ fun b5 a0 a1=>sR fun _ a3=>Ym (iV i) (eh A) (Ym h.v (eh z) (yY (yLen SL_22 e0 b rO0) (yY (ylss e0 e0) (wK a3 ?_))))
 refine cIf e0 c (fun a4 c=>?_) fun a4 c=>?_
 ·refine wp_skip (a0 _ _ (sQ fun _ a5=>blockQ fun _ a6=>wR (Ym j.v (eh E) (Ym p.v (eh D) (Ym h.v (eh z) (Ym (iV i) (eh A) (bE c fun b7 F c=>yY (yIa SL_22 e0 e0 b rO0 F) (yY (yI O_3 e0 b rO0 F) (bE c fun B G c=>yY (yIa SL_22 e0 e0 b (rdI u) G) ?_)))))))))
  refine yY (yI O_3 e0 b (rdI u) G) (yH (rLt (n:=1) (l:=[B]) b SL_22 [iV B] (bp1 e0) rfl rfl (mks1 (cs:=[iV B]) rfl mkI mks0)) fun b8 w b=>bE c fun c0 a7 c=>yH (rAp (b.pk 3 [2,0,0] rfl) SL_22 e0 e0 rO1 a7) fun a8 w b=>Ya a8.v e0 (wN (a6 _ _ _ (a5 _ _ (wR (Ym (iV i) (eh A) (yY (yadd e0 rfl) (Ya (iV (wa .i64 i 1)) e0 ?_))))))))
  refine wN ?_
  cases c
  exact X _ _ _ rfl ⟨_,_,_,_,rfl,rfl,D,z,rfl,rfl,(b.pk 3 [2,0] rfl)⟩
 refine wp_exit (a1 _ _ _ rfl ?_)
 cases c
 refine Z _ _ _ _ rfl rfl ?_
 obtain rfl:=W _ rfl
 refine U _ _ _ (S _ _ (sR fun _ a9=>Ym j.v (eh E) (Ya j.v e0 (wK a9 (wp_ret ?_)))))
 cases d
 exact I _ _ _ (fin1r Tryz.results64 ⟨rfl,rfl⟩ ⟨_,rfl,(b.pk 2 [1] rfl)⟩)
theorem sparseref18_Order_step {rec:L2→Int→Option (LI×Int)} (D:∀ {w0:World} {ros:List Fact} {rs:List Res} {w:World} {k:L2} {c:Int} {d:Hdr} {out:LI×Int} (b:rec k c=some out) (o:imm S1 d.v k∈ros) (a:St w0 ros rs w),Calls Tryz.prog 30 #[.agg #[d.v],iV c] w (fun e w=>∃ (r:Hdr),e=.returned (.tuple #[r.v,iV out.2])∧St w0 ros (row 3 I1 r.v out.1::rs) w)) {w0:World} {ros:List Fact} {rs:List Res} {w:World} {k:L2} {c:Int} {d:Hdr} {out:LI×Int} (b:sparseref18_Order_body rec k c=some out) (o:imm S1 d.v k∈ros) (a:St w0 ros rs w):
  Calls Tryz.prog 30 #[.agg #[d.v],iV c] w (fun e w=>∃ (r:Hdr),e=.returned (.tuple #[r.v,iV out.2])∧St w0 ros (row 3 I1 r.v out.1::rs) w):=by
 refine enterQ Tryz.func30 rfl Tryz.ntmps30 rfl fun Q s=>sR fun _ L=>yBb (r_box (vals:=[d.v]) a e0 rfl) fun q w a=>Ya hnil.v rfl (Ya (iV 0) rfl (wK L (seqQ fun c1 N O=>sR fun _ R=>yY (lbs_ [d.v] ST_26 e0 a R0) (bE b fun t S b=>?_))))
 refine yC (yCall FN_54 (a1 e0)) (sparseref12_Check_ok S o a) ?_
 rintro _ w ⟨rfl,a⟩
 refine ⟨_,rfl,?_⟩
 refine Ya (iV t) e0 (wK R (sR fun _ T=>Ym (iV t) e0 (yY (yneq e0 rfl) (wK T ?_))))
 rcases iteS b with ⟨z,b⟩ | ⟨z,b⟩
 ·refine condF e0 (nF (dT z)) (wp_skip (N _ _ (seqQ fun c2 U V=>sR fun _ W=>Ym (iV c) e0 (yY (ylss e0 rfl) (Ym (.bool (decide (c < 1))) e0 ?_)))))
  refine joinW 3 (fun f w=>f 1=iV c∧f 2=(pB q)∧f 19=.bool ((decide (c < 1)) || (decide ((200:Int) < c)))∧St w0 ros (box q 26 [d.v]::rs) w) (fun E=>?_) ?_
  ·rcases Bool.eq_false_or_eq_true (decide (c < 1)) with n | n
   ·exact gN n (gN n (yY (pt_ (.bool true) e0 n rfl) (E _ _ ⟨rfl,rfl,(congrArg Value.bool (orT n)),a⟩)))
   exact yG n (m_ (iV c) e0) (yG n (ygtr e0 rfl) (yY (pf_ (.bool (decide ((200:Int) < c))) e0 n e0) (E _ _ ⟨rfl,rfl,(congrArg Value.bool (orF n)),a⟩)))
  rintro f w ⟨A,u,X,a⟩
  refine wK W (cB (eh X) b (fun Z b=>?_) fun Z b=>?_)
  ·refine sR fun _ a0=>Ya hnil.v rfl (Ya (iV 1) rfl (wK a0 (wp_ret (V _ _ _ rfl ?_))))
   cases b
   replace a:=a.rowNh 3 I1
   exact s _ _ _ (fin2r Tryz.results30 ⟨rfl,rfl⟩ ⟨rfl,rfl⟩ ⟨_,rfl,(a.pk 2 [0] rfl)⟩)
  refine wp_skip (U _ _ (sR fun _ a2=>yY (lbs_ [d.v] ST_26 (eh u) a R0) (bE b fun g a4 b=>yC (yCall FN_28 (a1 e0)) (sparseref18_Separate_ok a4 o a) ?_)))
  rintro _ w ⟨m,l,j,rfl,a⟩
  refine ⟨_,rfl,?_⟩
  refine Ym (.tuple #[.agg #[m.v,l.v,j.v],iV g.2.2.2]) e0 (yY (x_ (.agg #[m.v,l.v,j.v]) e0) (yY (x_ (iV g.2.2.2) e0) (yBb (rAl a ZT_46) fun x w a=>yT (r_stbn (vals':=[m.v,l.v,j.v]) (us:=[m.v,l.v,j.v]) a ST_46 e0 e0 rfl rfl (one_of rfl) rfl) fun w a=>Ya (iV g.2.2.2) e0 (wK a2 (seqQ fun c3 a5 a6=>sR fun _ a7=>yY (yFb FL_26_0 (eh u)) ?_)))))
  refine yY (lb_ d.v O_24 e0 a R4) (yY (yLen SL_24 e0 a (rdI o)) (Ym (iV c) (eh A) (yY (yleq e0 e0) (Ym (.bool (decide ((k.length:Int)≤c))) e0 ?_))))
  refine joinW 5 (fun f w=>f 1=iV c∧f 2=(pB q)∧f 7=(pB x)∧f 35=.bool ((decide ((k.length:Int)≤c)) || (decide ((g.1.length:Int)=0)))∧St w0 ros (box q 26 [d.v]::row 3 I1 m.v g.1::row 3 I1 l.v g.2.1::row 3 I1 j.v g.2.2.1::box x 46 [m.v,l.v,j.v]::rs) w) (fun F=>?_) ?_
  ·rcases Bool.eq_false_or_eq_true (decide ((k.length:Int)≤c)) with h | h
   ·exact gN h (gN h (gN h (gN h (yY (pt_ (.bool true) e0 h rfl) (F _ _ ⟨A,u,rfl,(congrArg Value.bool (orT h)),(a.pk 5 [4,1,1,1,0] rfl)⟩)))))
   exact yG h (yFb FL_46_0 e0) (yG h (lb_ m.v O_22 e0 a R0) (yG h (yLen SL_22 e0 a rO1) (yG h (yeql e0 rfl) (yY (pf_ (.bool (decide ((g.1.length:Int)=0))) e0 h e0) (F _ _ ⟨A,u,rfl,(congrArg Value.bool (orF h)),(a.pk 5 [4,1,1,1,0] rfl)⟩)))))
  rintro f w ⟨G,H,B,a8,a⟩
  refine Ym (.bool ((decide ((k.length:Int)≤c)) || (decide ((g.1.length:Int)=0)))) (eh a8) ?_
  refine joinW 5 (fun f w=>f 1=iV c∧f 2=(pB q)∧f 7=(pB x)∧f 41=.bool (((decide ((k.length:Int)≤c)) || (decide ((g.1.length:Int)=0))) || (decide ((g.2.1.length:Int)=0)))∧St w0 ros (box q 26 [d.v]::row 3 I1 m.v g.1::row 3 I1 l.v g.2.1::row 3 I1 j.v g.2.2.1::box x 46 [m.v,l.v,j.v]::rs) w) (fun I=>?_) ?_
  ·rcases Bool.eq_false_or_eq_true ((decide ((k.length:Int)≤c)) || (decide ((g.1.length:Int)=0))) with i | i
   ·exact gN i (gN i (gN i (gN i (yY (pt_ (.bool true) e0 i rfl) (I _ _ ⟨G,H,B,(congrArg Value.bool (orT i)),a⟩)))))
   exact yG i (yFb FL_46_1 (eh B)) (yG i (lb_ l.v O_22 e0 a R4) (yG i (yLen SL_22 e0 a rO2) (yG i (yeql e0 rfl) (yY (pf_ (.bool (decide ((g.2.1.length:Int)=0))) e0 i e0) (I _ _ ⟨G,H,B,(congrArg Value.bool (orF i)),a⟩)))))
  rintro f w ⟨C,y,p,a9,a⟩
  refine wK a7 (cB (eh a9) b (fun b0 b=>?_) fun b0 b=>?_)
  ·refine sR fun _ b1=>yY (lbs_ [d.v] ST_26 (eh y) a R0) (bE b fun J b2 b=>yC (yCall FN_63 (a1 e0)) (sparseref16_Exact_ok b2 o a) ?_)
   rintro _ w ⟨K,rfl,a⟩
   refine ⟨_,rfl,?_⟩
   refine yY (x_ K.v e0) (yY (x_ (iV J.2) e0) (Ya K.v e0 (Ya (iV J.2) e0 (wK b1 (wp_ret (a6 _ _ _ rfl ?_))))))
   cases b
   exact s _ _ _ (fin2r Tryz.results30 ⟨rfl,rfl⟩ ⟨rfl,rfl⟩ ⟨_,rfl,(a.pk 6 [0] rfl)⟩)
  refine wp_skip (a5 _ _ (sQ fun _ b3=>bE b fun c4 b5 b=>bE b fun c5 b6 b=>bE b fun c7 b7 b=>bE b fun d0 b8 b=>dR [0,0,2,0,15,0,0,64,0,511,1023,0,2048,8191,16383,32767] [4,9,10,13,14,15] 6 folM ?_))
  replace a:=a.drew
  refine Dn [0,1,2,3,5,6,7,8,11,12] [] [4] (yR rfl (lbs_ [d.v] ST_26 (eh y) a R0) (yR rfl (yFb FL_46_0 (eh p)) (yR rfl (lb_ m.v O_22 e0 a R4) (yR rfl (m_ (iV c) (eh C)) (yR rfl (lbs_ [d.v] ST_26 (eh y) a R0) (yR rfl (yFb FL_46_1 (eh p)) (yR rfl (lb_ l.v O_22 e0 a R4) (yR rfl (m_ (iV c) (eh C)) (yR rfl (yFb FL_46_2 (eh p)) (yR rfl (lb_ j.v O_22 e0 a R4) (Rn QSn ?_)))))))))))
  refine Lc1 rfl ?_
  replace a:=(a.pk 2 [1,0] rfl).fz
  refine Lk wn (yCall FN_64 (a3 e0 e0 e0)) (sparseref18_part_ok D b5 (mtF o) F0 a) ?_
  rintro _ w ⟨d1,rfl,a⟩
  refine ⟨_,rfl,?_⟩
  refine Dn [] [5,6,7,8,11,12] [9] (Rn (yS rfl (lbs_ [d.v] ST_26 (eh y) a R1) (yS rfl (yFb FL_46_1 (eh p)) (yS rfl (lb_ l.v O_22 e0 a R4) (yS rfl (m_ (iV c) (eh C)) (yS rfl (yFb FL_46_2 (eh p)) (yS rfl (lb_ j.v O_22 e0 a R4) QSn)))))) ?_)
  refine Lc1 rfl ?_
  replace a:=(a.pk 3 [2,0,0] rfl).fz
  refine Lk wn (yCall FN_64 (a3 e0 e0 e0)) (sparseref18_part_ok D b6 (F_2 o) F0 a) ?_
  rintro _ w ⟨d2,rfl,a⟩
  refine ⟨_,rfl,?_⟩
  refine Dn [] [11,12] [10] (Rn (yS rfl (yFb FL_46_2 (eh p)) (yS rfl (lb_ j.v O_22 e0 a R4) QSn)) ?_)
  refine Lc1 rfl ?_
  replace a:=a.pk 2 [1,0] rfl
  refine LH wn (rAp a SL_22 e0 e0 rO1 b7) fun d3 w a=>Dn [] [11,12] [13] (Rn (yS rfl (yFb FL_46_2 (eh p)) (yS rfl (lb_ j.v O_22 e0 a R4) QSn)) ?_)
  refine Lc1 rfl ?_
  refine LH wn (rAp a SL_22 e0 e0 rO3 b8) fun b9 w a=>Dn [] [] [14] (Rn QSn ?_)
  refine Lc1 rfl ?_
  refine Ly wn (a_ b9.v e0) (Dn [] [] [15] (Rn QSn ?_))
  refine Lc1 rfl ?_
  refine Ly wn (a_ (iV 0) rfl) (Dz [] [] (Rn QSn (b3 _ _ (wp_ret ?_))))
  cases b
  exact s _ _ _ (fin2r Tryz.results30 ⟨rfl,rfl⟩ ⟨rfl,rfl⟩ ⟨_,rfl,((a.pk 5 [0] rfl).facts (allT (allT allI)))⟩)
 refine condT e0 (nT (dF z)) (sR fun _ c0=>Ym (iV t) e0 (Ya hnil.v rfl (Ya (iV t) e0 (wK c0 (wp_ret (O _ _ _ rfl ?_))))))
 cases b
 replace a:=a.rowNh 3 I1
 exact s _ _ _ (fin2r Tryz.results30 ⟨rfl,rfl⟩ ⟨rfl,rfl⟩ ⟨_,rfl,(a.pk 2 [0] rfl)⟩)
theorem sparseref18_Order_ok_n (n:Nat):∀ {w0:World} {ros:List Fact} {rs:List Res} {w:World} {b:L2} {c:Int} {d:Hdr} {out:LI×Int} (a:sparseref18_Order n b c=some out) (f:imm S1 d.v b∈ros) (g:St w0 ros rs w),
  Calls Tryz.prog 30 #[.agg #[d.v],iV c] w (fun e w=>∃ (h:Hdr),e=.returned (.tuple #[h.v,iV out.2])∧St w0 ros (row 3 I1 h.v out.1::rs) w):=by
 induction n with
 | zero=>intro _ _ _ _ _ _ _ out a; cases a
 | succ n ih=>exact fun a f g=>sparseref18_Order_step (rec:=sparseref18_Order n) ih a f g
theorem sparseref18_Order_ok {a:L2} {b:Int} {c:Hdr} {out:LI×Int} (f:sparseref18_Order FUEL a b=some out) (g:imm S1 c.v a∈ros) (h:St w0 ros rs w):
  Calls Tryz.prog 30 #[.agg #[c.v],iV b] w (fun e w=>∃ (d:Hdr),e=.returned (.tuple #[d.v,iV out.2])∧St w0 ros (row 3 I1 d.v out.1::rs) w):=sparseref18_Order_ok_n FUEL f g h
theorem sparsekit_Perm_ok {B:LI} {i:Int} {j:Hdr} {out:Bool} (k:sparsekit_Perm B i=some out) (l:imm I1 j.v B∈ros) (b:St w0 ros rs w):
  Calls Tryz.prog 36 #[j.v,iV i] w (fun e w=>e=.returned (.bool out)∧St w0 ros rs w):=by
 refine enterQ Tryz.func36 rfl Tryz.ntmps36 rfl fun Q u=>sR fun _ X=>Ya (.bool false) rfl (wK X (seqQ fun d0 Z a0=>sR fun _ a1=>Ym j.v e0 (yY (yLen SL_22 e0 b (rdI l)) (Ym (iV i) e0 (yY (yneq e0 e0) (wN ?_))))))
 refine a1 _ _ ?_
 rcases iteS k with ⟨x,k⟩ | ⟨x,k⟩
 ·refine condF e0 (nF (dT x)) (wp_skip (Z _ _ (sR fun _ a2=>Ym (iV i) e0 (bE k fun d1 a3 k=>yH (rMk b SL_93 e0 a3) fun m w b=>Ya m.v e0 (wK a2 (seqQ fun d2 a4 a5=>sQ fun _ a6=>?_))))))
  refine wR (Ya (iV 0) rfl (wK a6 (blockQ fun _ C=>bE k fun d3 a7 k=>?_)))
  refine loopQ (fun s a w=>∃ (p:List Bool) (h:Int) (f:FV),(p,h)=s∧a=fr 46 f∧f 0=j.v∧f 1=iV i∧f 5=m.v∧f 6=iV h∧St w0 ros (row 4 rB m.v p::rs) w) a7 ⟨_,_,_,rfl,rfl,rfl,rfl,rfl,rfl,b⟩ ?_
  rintro _ _ w d4 ⟨p,h,f,rfl,rfl,r,t,D,q,b⟩ c E d5 a8 F
  refine seqQ fun d6 a9 b0=>sR fun _ b1=>Ym (iV h) (eh q) (Ym (iV i) (eh t) (yY (ylss e0 e0) (wK b1 ?_)))
  refine cIf e0 c (fun b2 c=>?_) fun b2 c=>?_
  ·refine wp_skip (a9 _ _ (seqQ fun d7 b3 b4=>blockQ fun _ G=>seqQ fun d8 b5 b6=>sR fun _ b7=>Ym j.v (eh r) (Ym (iV h) (eh q) (bE c fun b8 H c=>yY (yIa SL_22 e0 e0 b (rdI l) H) (yY (yI O_3 e0 b (rdI l) H) (yY (ylss e0 rfl) (Ym (.bool (decide (b8 < 0))) e0 ?_)))))))
   refine bE c fun I o c=>?_
   refine joinW 7 (fun f w=>f 0=j.v∧f 1=iV i∧f 5=m.v∧f 6=iV h∧f 30=.bool I∧St w0 ros (row 4 rB m.v p::rs) w) (fun J=>?_) ?_
   ·rcases iteS o with ⟨g,o⟩ | ⟨g,o⟩
    ·refine gN (dT g) (gN (dT g) (gN (dT g) (gN (dT g) (gN (dT g) (gN (dT g) (yY (pt_ (.bool true) e0 (dT g) rfl) ?_))))))
     cases o
     exact J _ _ ⟨r,t,D,q,rfl,b⟩
    refine yG (dF g) (m_ j.v (eh r)) (yG (dF g) (m_ (iV h) (eh q)) (bE o fun b9 K o=>yG (dF g) (yIa SL_22 e0 e0 b (rdI l) K) (yG (dF g) (yI O_3 e0 b (rdI l) K) (yG (dF g) (m_ (iV i) (eh t)) (yG (dF g) (ygeq e0 e0) (yY (pf_ (.bool (decide (i≤b9))) e0 (dF g) e0) ?_))))))
    cases o
    exact J _ _ ⟨r,t,D,q,rfl,b⟩
   rintro f w ⟨y,L,z,A,c0,b⟩
   refine Ym (.bool I) (eh c0) (bE c fun c1 n c=>?_)
   refine joinW 8 (fun f w=>f 0=j.v∧f 1=iV i∧f 5=m.v∧f 6=iV h∧f 39=.bool c1∧St w0 ros (row 4 rB m.v p::rs) w) (fun N=>?_) ?_
   ·rcases iteS n with ⟨d,n⟩ | ⟨d,n⟩
    ·refine gN d (gN d (gN d (gN d (gN d (gN d (gN d (yY (pt_ (.bool true) e0 d rfl) ?_)))))))
     cases n
     exact N _ _ ⟨y,L,z,A,rfl,b⟩
    refine yG (bfalse d) (m_ m.v (eh z)) (yG (bfalse d) (m_ j.v (eh y)) (yG (bfalse d) (m_ (iV h) (eh A)) (bE n fun d9 O n=>yG (bfalse d) (yIa SL_22 e0 e0 b (rdI l) O) (yG (bfalse d) (yI O_3 e0 b (rdI l) O) (bE n fun c2 R n=>yG (bfalse d) (yIa SL_93 e0 e0 b rO0 R) (yG (bfalse d) (yB O_4 e0 b rO0 R) (yY (pf_ (.bool c2) e0 (bfalse d) e0) ?_)))))))
    cases n
    exact N _ _ ⟨y,L,z,A,rfl,b⟩
   rintro f w ⟨S,c3,T,U,c5,b⟩
   refine wK b7 (cB (eh c5) c (fun c6 c=>?_) fun c6 c=>?_)
   ·refine sR fun _ c7=>Ya (.bool false) rfl (wK c7 (wp_ret (b6 _ _ _ rfl (G _ _ _ (b4 _ _ _ rfl ?_)))))
    cases c
    refine F _ _ _ _ rfl rfl ?_
    obtain rfl:=E _ rfl
    refine C _ _ _ (a5 _ _ _ rfl ?_)
    cases k
    exact u _ _ _ (fin1r Tryz.results36 ⟨rfl,rfl⟩ ⟨rfl,(b.pk 1 [] rfl)⟩)
   refine wp_skip (b5 _ _ (wR (Ym m.v (eh T) (Ym j.v (eh S) (Ym (iV h) (eh U) (bE c fun e1 V c=>yY (yIa SL_22 e0 e0 b (rdI l) V) (yY (yI O_3 e0 b (rdI l) V) (bE c fun e2 W c=>yY (yIs SL_93 e0 e0 b rO0 W) (yT (r_sti (cs:=[.bool true]) b O_4 rfl e0 rfl rfl mkB W) fun w b=>wN ?_)))))))))
   refine G _ _ _ (b3 _ _ (wR (Ym (iV h) (eh U) (yY (yadd e0 rfl) (Ya (iV (wa .i64 h 1)) e0 (wN ?_))))))
   cases c
   exact a8 _ _ _ rfl ⟨_,_,_,rfl,rfl,S,c3,T,rfl,b⟩
  refine wp_exit (b0 _ _ _ rfl ?_)
  cases c
  refine F _ _ _ _ rfl rfl ?_
  obtain rfl:=E _ rfl
  refine C _ _ _ (a4 _ _ (sR fun _ c8=>Ya (.bool true) rfl (wK c8 (wp_ret ?_))))
  cases k
  exact u _ _ _ (fin1r Tryz.results36 ⟨rfl,rfl⟩ ⟨rfl,(b.pk 1 [] rfl)⟩)
 refine condT e0 (nT (dF x)) (sR fun _ c9=>Ya (.bool false) rfl (wK c9 (wp_ret (a0 _ _ _ rfl ?_))))
 cases k
 exact u _ _ _ (fin1r Tryz.results36 ⟨rfl,rfl⟩ ⟨rfl,b⟩)
theorem sparseref18_Check_ok {B:L2} {L N O:LI} {j h g i:Hdr} {out:Int} (c:sparseref18_Check B L N O=some out) (C:imm S1 j.v B∈ros) (y:imm I1 h.v L∈ros) (z:imm I1 g.v N∈ros) (R:imm I1 i.v O∈ros) (b:St w0 ros rs w):
  Calls Tryz.prog 33 #[.agg #[j.v],.agg #[h.v,g.v,i.v]] w (fun e w=>e=.returned (iV out)∧St w0 ros rs w):=by
 refine enterQ Tryz.func33 rfl Tryz.ntmps33 rfl fun Q D=>sR fun _ b6=>yBb (r_box (vals:=[j.v]) b e0 rfl) fun n w b=>yBb (r_box (vals:=[h.v,g.v,i.v]) b e0 rfl) fun o w b=>Ya (iV 0) rfl (wK b6 (seqQ fun h9 b7 b8=>sR fun _ c0=>yY (lbs_ [j.v] ST_26 e0 b R1) ?_))
 refine bE c fun E c1 c=>yC (yCall FN_54 (a1 e0)) (sparseref12_Check_ok c1 C b) ?_
 rintro _ w ⟨rfl,b⟩
 refine ⟨_,rfl,?_⟩
 refine Ya (iV E) e0 (wK c0 (sR fun _ c2=>Ym (iV E) e0 (yY (yneq e0 rfl) (wK c2 ?_))))
 rcases iteS c with ⟨F,c⟩ | ⟨F,c⟩
 ·refine condF e0 (nF (dT F)) (wp_skip (b7 _ _ (sR fun _ c3=>yY (yFb FL_26_0 e0) (yY (lb_ j.v O_24 e0 b R1) (yY (yLen SL_24 e0 b (rdI C)) (Ya (iV (B.length:Int)) e0 (wK c3 (sQ fun _ c4=>bE c fun i0 c5 c=>bE c fun i1 c6 c=>?_))))))))
  refine bE c fun i2 c7 c=>dR [0,1,3,0,8,31,0,64,255,511] [2,5,8,9] 4 folM ?_
  replace b:=b.drew
  refine Dn [0,1,3,4,6,7] [] [2] (yR rfl (yFb FL_46_0 e0) (yR rfl (lb_ h.v O_22 e0 b R0) (yR rfl (yFb FL_46_1 e0) (yR rfl (lb_ g.v O_22 e0 b R0) (yR rfl (yFb FL_46_2 e0) (yR rfl (lb_ i.v O_22 e0 b R0) (Rn QSn ?_)))))))
  refine Lc1 rfl ?_
  refine Lk wn (yCall FN_47 (a1 e0)) (sparsekit_TwinInts_ok c5 y b) ?_
  rintro _ w ⟨i3,rfl,b⟩
  refine ⟨_,rfl,?_⟩
  refine Dn [] [3,4,6,7] [5] (Rn (yS rfl (yFb FL_46_1 e0) (yS rfl (lb_ g.v O_22 e0 b R1) (yS rfl (yFb FL_46_2 e0) (yS rfl (lb_ i.v O_22 e0 b R1) QSn)))) ?_)
  refine Lc1 rfl ?_
  refine LH wn (rAp b SL_22 e0 e0 (rdI z) c6) fun i4 w b=>Dn [] [6,7] [8] (Rn (yS rfl (yFb FL_46_2 e0) (yS rfl (lb_ i.v O_22 e0 b R1) QSn)) ?_)
  refine Lc1 rfl ?_
  refine LH wn (rAp b SL_22 e0 e0 (rdI R) c7) fun S w b=>Dn [] [] [9] (Rn QSn ?_)
  refine Lc1 rfl ?_
  refine Ly wn (a_ S.v e0) (Dz [] [] (Rn QSn (c4 _ _ (seqQ fun i5 c8 c9=>sR fun _ d0=>Ym S.v e0 (Ym (iV (B.length:Int)) e0 (bE c fun d1 d2 c=>?_))))))
  replace b:=b.fz
  refine yC (yCall FN_36 (a2 e0 e0)) (sparsekit_Perm_ok d2 F0 b) ?_
  rintro _ w ⟨rfl,b⟩
  refine ⟨_,rfl,?_⟩
  refine yY (ynot e0) (Ym (.bool (!d1)) e0 (bE c fun T r c=>?_))
  refine joinW 5 (fun f w=>f 2=(pB n)∧f 3=(pB o)∧f 36=.bool T∧St w0 ros (box n 26 [j.v]::box o 46 [h.v,g.v,i.v]::rs) w) (fun U=>?_) ?_
  ·rcases iteS r with ⟨k,r⟩ | ⟨k,r⟩
   ·refine yG (nF k) (yFb FL_46_0 e0) (yG (nF k) (lb_ h.v O_22 e0 b R0) (bE r fun d3 d4 r=>Yc (wG (nF k)) rfl (yCall FN_66 (a1 e0)) (sparsekit_Ascending_ok d4 (mtF y) b) ?_))
    rintro _ w ⟨rfl,b⟩
    refine ⟨_,rfl,?_⟩
    refine yG (nF k) (ynot e0) (yY (pf_ (.bool (!d3)) e0 (nF k) e0) ?_)
    cases r
    exact U _ _ ⟨rfl,rfl,rfl,((b.pk 2 [1,0] rfl).facts (allT allI))⟩
   refine gN (nT (bfalse k)) (gN (nT (bfalse k)) (gN (nT (bfalse k)) (gN (nT (bfalse k)) (yY (pt_ (.bool true) e0 (nT (bfalse k)) rfl) ?_))))
   cases r
   exact U _ _ ⟨rfl,rfl,rfl,((b.pk 2 [1,0] rfl).facts (allT allI))⟩
  rintro f w ⟨V,G,d5,b⟩
  refine Ym (.bool T) (eh d5) (bE c fun W t c=>?_)
  refine joinW 5 (fun f w=>f 2=(pB n)∧f 3=(pB o)∧f 42=.bool W∧St w0 ros (box n 26 [j.v]::box o 46 [h.v,g.v,i.v]::rs) w) (fun X=>?_) ?_
  ·rcases iteS t with ⟨l,t⟩ | ⟨l,t⟩
   ·refine gN l (gN l (gN l (gN l (yY (pt_ (.bool true) e0 l rfl) ?_))))
    cases t
    exact X _ _ ⟨V,G,rfl,b⟩
   refine yG (bfalse l) (yFb FL_46_1 (eh G)) (yG (bfalse l) (lb_ g.v O_22 e0 b R1) (bE t fun d6 d7 t=>Yc (wG (bfalse l)) rfl (yCall FN_66 (a1 e0)) (sparsekit_Ascending_ok d7 z b) ?_))
   rintro _ w ⟨rfl,b⟩
   refine ⟨_,rfl,?_⟩
   refine yG (bfalse l) (ynot e0) (yY (pf_ (.bool (!d6)) e0 (bfalse l) e0) ?_)
   cases t
   exact X _ _ ⟨V,G,rfl,b⟩
  rintro f w ⟨Z,H,d8,b⟩
  refine Ym (.bool W) (eh d8) (bE c fun d9 u c=>?_)
  refine joinW 5 (fun f w=>f 2=(pB n)∧f 3=(pB o)∧f 48=.bool d9∧St w0 ros (box n 26 [j.v]::box o 46 [h.v,g.v,i.v]::rs) w) (fun a0=>?_) ?_
  ·rcases iteS u with ⟨m,u⟩ | ⟨m,u⟩
   ·refine gN m (gN m (gN m (gN m (yY (pt_ (.bool true) e0 m rfl) ?_))))
    cases u
    exact a0 _ _ ⟨Z,H,rfl,b⟩
   refine yG (bfalse m) (yFb FL_46_2 (eh H)) (yG (bfalse m) (lb_ i.v O_22 e0 b R1) (bE u fun e1 e2 u=>Yc (wG (bfalse m)) rfl (yCall FN_66 (a1 e0)) (sparsekit_Ascending_ok e2 R b) ?_))
   rintro _ w ⟨rfl,b⟩
   refine ⟨_,rfl,?_⟩
   refine yG (bfalse m) (ynot e0) (yY (pf_ (.bool (!e1)) e0 (bfalse m) e0) ?_)
   cases u
   exact a0 _ _ ⟨Z,H,rfl,b⟩
  rintro f w ⟨e3,e4,e5,b⟩
  refine wK d0 (cB (eh e5) c (fun e6 c=>?_) fun e6 c=>?_)
  ·refine sR fun _ e7=>Ya (iV 180) rfl (wK e7 (wp_ret (c9 _ _ _ rfl ?_)))
   cases c
   exact D _ _ _ (fin1r Tryz.results33 ⟨rfl,rfl⟩ ⟨rfl,(b.pk 2 [] rfl)⟩)
  refine wp_skip (c8 _ _ (seqQ fun i6 e8 e9=>sR fun _ f0=>Ya (iV 0) rfl (wK f0 (blockQ fun _ a3=>bE c fun i7 f1 c=>?_))))
  refine loopQ (fun s a w=>∃ (p:Int) (f:FV),p=s∧a=fr 78 f∧f 2=(pB n)∧f 3=(pB o)∧f 8=iV p∧St w0 ros (box n 26 [j.v]::box o 46 [h.v,g.v,i.v]::rs) w) f1 ⟨_,_,rfl,rfl,e3,e4,rfl,b⟩ ?_
  rintro _ _ w i8 ⟨p,f,rfl,rfl,f2,a4,a5,b⟩ q a6 i9 f3 a7
  refine seqQ fun j0 f4 f5=>sR fun _ f6=>Ym (iV p) (eh a5) (yY (yFb FL_46_0 (eh a4)) (yY (lb_ h.v O_22 e0 b R1) (yY (yLen SL_22 e0 b (rdI y)) (yY (ylss e0 e0) (wK f6 ?_)))))
  refine cIf e0 q (fun f7 q=>?_) fun f7 q=>?_
  ·refine wp_skip (f4 _ _ (seqQ fun j4 f8 f9=>blockQ fun _ a8=>sR fun _ g0=>Ya (iV 0) rfl (wK g0 (blockQ fun _ a9=>bE q fun j5 g1 q=>?_))))
   refine loopQ (fun s a w=>∃ (x:Int) (f:FV),x=s∧a=fr 78 f∧f 2=(pB n)∧f 3=(pB o)∧f 8=iV p∧f 9=iV x∧St w0 ros (box n 26 [j.v]::box o 46 [h.v,g.v,i.v]::rs) w) g1 ⟨_,_,rfl,rfl,f2,a4,a5,rfl,b⟩ ?_
   rintro _ _ w j6 ⟨x,f,rfl,rfl,I,A,J,K,b⟩ d b0 j7 g2 b1
   refine seqQ fun j8 g3 g4=>sR fun _ g5=>Ym (iV x) (eh K) (yY (yFb FL_46_1 (eh A)) (yY (lb_ g.v O_22 e0 b R1) (yY (yLen SL_22 e0 b (rdI z)) (yY (ylss e0 e0) (wK g5 ?_)))))
   refine cIf e0 d (fun g6 d=>?_) fun g6 d=>?_
   ·refine wp_skip (g3 _ _ (seqQ fun j9 g7 g8=>blockQ fun _ b2=>sQ fun _ g9=>bE d fun k0 b3 d=>bE d fun l0 b4 d=>bE d fun l1 b5 d=>bE d fun l2 h0 d=>dR [0,1,0,4,0,28,60,127,255,0,512,0,3584,7680,16383] [14] 1 folM ?_))
    replace b:=b.drew
    refine Dn [0,1,2,3,4,5,6,7,8,9,10,11,12,13] [] [14] (yR rfl (yFb FL_26_0 (eh I)) (yR rfl (lb_ j.v O_24 e0 b R0) (yR rfl (yFb FL_46_0 (eh A)) (yR rfl (lb_ h.v O_22 e0 b R1) (yR rfl (m_ (iV p) (eh J)) (yR rfl (yIa SL_22 e0 e0 b (rdI y) b3) (yR rfl (yI O_3 e0 b (rdI y) b3) (yR rfl (yIa SL_24 e0 e0 b (rdI C) b4) ?_))))))))
    obtain ⟨l3,b⟩:=iLs b C b4
    refine yR rfl (yCt O_22 e0 b F1 rfl) (yR rfl (yFb FL_46_1 (eh A)) (yR rfl (lb_ g.v O_22 e0 b R1) (yR rfl (m_ (iV x) (eh K)) (yR rfl (yIa SL_22 e0 e0 b (rdI (F_2 z)) b5) (yR rfl (yI O_3 e0 b (rdI (F_2 z)) b5) (Rn QSn ?_))))))
    refine Lc1 rfl ?_
    refine Lk wn (yCall FN_37 (a2 e0 e0)) (sparsekit_In_ok h0 F0 b) ?_
    rintro _ w ⟨rfl,b⟩
    refine ⟨_,rfl,?_⟩
    refine Dz [] [] (Rn QSn (g9 _ _ (cB e0 d (fun h1 d=>?_) fun h1 d=>?_)))
    ·refine sR fun _ h3=>Ya (iV 180) rfl (wK h3 (wp_ret (b2 _ _ _ (g8 _ _ _ rfl ?_))))
     cases d
     refine b1 _ _ _ _ rfl rfl ?_
     obtain rfl:=b0 _ rfl
     refine a9 _ _ _ (a8 _ _ _ (f9 _ _ _ rfl ?_))
     cases q
     refine a7 _ _ _ _ rfl rfl ?_
     obtain rfl:=a6 _ rfl
     refine a3 _ _ _ (e9 _ _ _ rfl ?_)
     cases c
     exact D _ _ _ (fin1r Tryz.results33 ⟨rfl,rfl⟩ ⟨rfl,((b.pk 2 [] rfl).facts (allT (allT allI)))⟩)
    refine wp_skip (b2 _ _ _ (g7 _ _ (wR (Ym (iV x) (eh K) (yY (yadd e0 rfl) (Ya (iV (wa .i64 x 1)) e0 (wN ?_)))))))
    cases d
    exact g2 _ _ _ rfl ⟨_,_,rfl,rfl,I,A,J,rfl,(b.facts (allT (allT allI)))⟩
   refine wp_exit (g4 _ _ _ rfl ?_)
   cases d
   refine b1 _ _ _ _ rfl rfl ?_
   obtain rfl:=b0 _ rfl
   refine a9 _ _ _ (a8 _ _ _ (f8 _ _ (wR (Ym (iV p) (eh J) (yY (yadd e0 rfl) (Ya (iV (wa .i64 p 1)) e0 (wN ?_)))))))
   cases q
   exact f3 _ _ _ rfl ⟨_,_,rfl,rfl,I,A,rfl,b⟩
  refine wp_exit (f5 _ _ _ rfl ?_)
  cases q
  refine a7 _ _ _ _ rfl rfl ?_
  obtain rfl:=a6 _ rfl
  refine a3 _ _ _ (e8 _ _ (sR fun _ h5=>Ya (iV 0) rfl (wK h5 (wp_ret ?_))))
  cases c
  exact D _ _ _ (fin1r Tryz.results33 ⟨rfl,rfl⟩ ⟨rfl,(b.pk 2 [] rfl)⟩)
 refine condT e0 (nT (dF F)) (sR fun _ h7=>Ym (iV E) e0 (Ya (iV E) e0 (wK h7 (wp_ret (b8 _ _ _ rfl ?_)))))
 cases c
 exact D _ _ _ (fin1r Tryz.results33 ⟨rfl,rfl⟩ ⟨rfl,(b.pk 2 [] rfl)⟩)
theorem sparsekit_Lists_ok {q r:L2} {h i:Hdr} {out:Bool} (d:sparsekit_Lists q r=some out) (j:imm S1 h.v q∈ros) (l:imm S1 i.v r∈ros) (b:St w0 ros rs w):
  Calls Tryz.prog 46 #[h.v,i.v] w (fun e w=>e=.returned (.bool out)∧St w0 ros rs w):=by
 refine enterQ Tryz.func46 rfl Tryz.ntmps46 rfl fun Q m=>sR fun _ C=>Ya (.bool false) rfl (wK C (seqQ fun a0 D E=>sR fun _ F=>Ym h.v e0 (yY (yLen SL_24 e0 b (rdI j)) (Ym i.v e0 (yY (yLen SL_24 e0 b (rdI l)) (yY (yneq e0 e0) ?_))))))
 refine wK F ?_
 rcases iteS d with ⟨n,d⟩ | ⟨n,d⟩
 ·refine condF e0 (nF (dT n)) (wp_skip (D _ _ (seqQ fun a1 G H=>sR fun _ I=>Ya (iV 0) rfl (wK I (blockQ fun _ t=>bE d fun a3 J d=>?_)))))
  refine loopQ (fun s a w=>∃ (g:Int) (f:FV),g=s∧a=fr 27 f∧f 0=h.v∧f 1=i.v∧f 5=iV g∧St w0 ros rs w) J ⟨_,_,rfl,rfl,rfl,rfl,rfl,b⟩ ?_
  rintro _ _ w a4 ⟨g,f,rfl,rfl,o,u,k,b⟩ c x a5 K y
  refine seqQ fun a6 L N=>sR fun _ O=>Ym (iV g) (eh k) (Ym h.v (eh o) (yY (yLen SL_24 e0 b (rdI j)) (yY (ylss e0 e0) (wK O ?_))))
  refine cIf e0 c (fun R c=>?_) fun R c=>?_
  ·refine wp_skip (L _ _ (seqQ fun a7 S T=>blockQ fun _ z=>sQ fun _ U=>bE c fun a8 A c=>bE c fun a9 B c=>bE c fun b0 V c=>dR [0,0,3,7,0,0,48,112,255,511] [8] 1 folM ?_))
   replace b:=b.drew
   refine Dn [0,1,2,3,4,5,6,7] [] [8] (yR rfl (m_ h.v (eh o)) (yR rfl (m_ (iV g) (eh k)) (yR rfl (yIa SL_24 e0 e0 b (rdI j) A) ?_)))
   obtain ⟨b1,b⟩:=iLs b j A
   refine yR rfl (yCt O_22 e0 b F1 rfl) (yR rfl (m_ i.v (eh u)) (yR rfl (m_ (iV g) (eh k)) (yR rfl (yIa SL_24 e0 e0 b (rdI (F_2 l)) B) ?_)))
   obtain ⟨b2,b⟩:=iLs b (F_2 l) B
   refine yR rfl (yCt O_22 e0 b F1 rfl) (Rn QSn ?_)
   refine Lc1 rfl ?_
   refine Lk wn (yCall FN_13 (a2 e0 e0)) (sparsekit_Ints_ok V F2 F0 b) ?_
   rintro _ w ⟨rfl,b⟩
   refine ⟨_,rfl,?_⟩
   refine Dz [9] [] (yR rfl (ynot e0) (Rn QSn (U _ _ ?_)))
   rcases iteS c with ⟨p,c⟩ | ⟨p,c⟩
   ·refine condF e0 (nF p) (wp_skip (z _ _ _ (S _ _ (wR (Ym (iV g) (eh k) (yY (yadd e0 rfl) (Ya (iV (wa .i64 g 1)) e0 (wN ?_))))))))
    cases c
    exact K _ _ _ rfl ⟨_,_,rfl,rfl,o,u,rfl,(b.facts (allT (allT (allT (allT allI)))))⟩
   refine condT e0 (nT (bfalse p)) (sR fun _ W=>Ya (.bool false) rfl (wK W (wp_ret (z _ _ _ (T _ _ _ rfl ?_)))))
   cases c
   refine y _ _ _ _ rfl rfl ?_
   obtain rfl:=x _ rfl
   refine t _ _ _ (H _ _ _ rfl ?_)
   cases d
   exact m _ _ _ (fin1r Tryz.results46 ⟨rfl,rfl⟩ ⟨rfl,(b.facts (allT (allT (allT (allT allI)))))⟩)
  refine wp_exit (N _ _ _ rfl ?_)
  cases c
  refine y _ _ _ _ rfl rfl ?_
  obtain rfl:=x _ rfl
  refine t _ _ _ (G _ _ (sR fun _ X=>Ya (.bool true) rfl (wK X (wp_ret ?_))))
  cases d
  exact m _ _ _ (fin1r Tryz.results46 ⟨rfl,rfl⟩ ⟨rfl,b⟩)
 refine condT e0 (nT (dF n)) (sR fun _ Z=>Ya (.bool false) rfl (wK Z (wp_ret (E _ _ _ rfl ?_))))
 cases d
 exact m _ _ _ (fin1r Tryz.results46 ⟨rfl,rfl⟩ ⟨rfl,b⟩)
theorem sparsekit_Graph_ok {f g:L2} {b c:Hdr} {out:Bool} (d:sparsekit_Graph f g=some out) (h:imm S1 b.v f∈ros) (i:imm S1 c.v g∈ros) (a:St w0 ros rs w):
  Calls Tryz.prog 34 #[.agg #[b.v],.agg #[c.v]] w (fun e w=>e=.returned (.bool out)∧St w0 ros rs w):=by
 refine enterQ Tryz.func34 rfl Tryz.ntmps34 rfl fun Q j=>sR fun _ k=>yBb (r_box (vals:=[b.v]) a e0 rfl) fun o w a=>yBb (r_box (vals:=[c.v]) a e0 rfl) fun p w a=>Ya (.bool false) rfl (wK k (sR fun _ l=>yY (yFb FL_26_0 e0) (yY (lb_ b.v O_24 e0 a R1) ?_)))
 refine yY (yFb FL_26_0 e0) (yY (lb_ c.v O_24 e0 a R0) (bE d fun m n d=>yC (yCall FN_46 (a2 e0 e0)) (sparsekit_Lists_ok n h i a) ?_))
 rintro _ w ⟨rfl,a⟩
 refine ⟨_,rfl,?_⟩
 refine Ya (.bool m) e0 (wK l (wp_ret ?_))
 cases d
 exact j _ _ _ (fin1r Tryz.results34 ⟨rfl,rfl⟩ ⟨rfl,(a.pk 2 [] rfl)⟩)
theorem sparselaw18_DissectSeparates_ok {b0:L2} {j p L:LI} {q:Int} {c k l m:Hdr} {out:Bool} (b:sparselaw18_DissectSeparates b0 j p L q=some out) (c5:out=true) (s:imm S1 c.v b0∈ros) (W:imm I1 k.v j∈ros) (X:imm I1 l.v p∈ros) (Z:imm I1 m.v L∈ros) (a:St w0 ros rs w):
  Calls Tryz.prog 5 #[.agg #[c.v],.agg #[k.v,l.v,m.v],iV q] w (fun e w=>e=.returned (.bool out)∧St w0 ros rs w):=by
 refine enterQ Tryz.func5 rfl Tryz.ntmps5 rfl fun Q b1=>sR fun _ c6=>yBb (r_box (vals:=[c.v]) a e0 rfl) fun t w a=>yBb (r_box (vals:=[k.v,l.v,m.v]) a e0 rfl) fun u w a=>Ya (.bool false) rfl (wK c6 (seqQ fun g6 c7 c8=>sR fun _ c9=>yY (lbs_ [c.v] ST_26 e0 a R1) ?_))
 refine bE b fun o d0 b=>yC (yCall FN_25 (a2 e0 rfl)) (sparselaw18_smallGraph_ok d0 s a) ?_
 rintro _ w ⟨rfl,a⟩
 refine ⟨_,rfl,?_⟩
 refine yY (ynot e0) (Ym (.bool (!o)) e0 ?_)
 refine joinW 5 (fun f w=>f 2=iV q∧f 3=(pB t)∧f 4=(pB u)∧f 24=.bool ((!o) || (decide ((20:Int) < (j.length:Int))))∧St w0 ros (box t 26 [c.v]::box u 46 [k.v,l.v,m.v]::rs) w) (fun b2=>?_) ?_
 ·rcases Bool.eq_false_or_eq_true (!o) with d | d
  ·exact gN d (gN d (gN d (gN d (yY (pt_ (.bool true) e0 d rfl) (b2 _ _ ⟨rfl,rfl,rfl,(congrArg Value.bool (orT d)),(a.pk 2 [1,0] rfl)⟩)))))
  exact yG d (yFb FL_46_0 e0) (yG d (lb_ k.v O_22 e0 a R0) (yG d (yLen SL_22 e0 a (rdI W)) (yG d (ygtr e0 rfl) (yY (pf_ (.bool (decide ((20:Int) < (j.length:Int)))) e0 d e0) (b2 _ _ ⟨rfl,rfl,rfl,(congrArg Value.bool (orF d)),(a.pk 2 [1,0] rfl)⟩)))))
 rintro f w ⟨b3,b4,a3,d1,a⟩
 refine Ym (.bool ((!o) || (decide ((20:Int) < (j.length:Int))))) (eh d1) ?_
 refine joinW 5 (fun f w=>f 2=iV q∧f 3=(pB t)∧f 4=(pB u)∧f 30=.bool (((!o) || (decide ((20:Int) < (j.length:Int)))) || (decide ((20:Int) < (p.length:Int))))∧St w0 ros (box t 26 [c.v]::box u 46 [k.v,l.v,m.v]::rs) w) (fun b5=>?_) ?_
 ·rcases Bool.eq_false_or_eq_true ((!o) || (decide ((20:Int) < (j.length:Int)))) with g | g
  ·exact gN g (gN g (gN g (gN g (yY (pt_ (.bool true) e0 g rfl) (b5 _ _ ⟨b3,b4,a3,(congrArg Value.bool (orT g)),a⟩)))))
  exact yG g (yFb FL_46_1 (eh a3)) (yG g (lb_ l.v O_22 e0 a R1) (yG g (yLen SL_22 e0 a (rdI X)) (yG g (ygtr e0 rfl) (yY (pf_ (.bool (decide ((20:Int) < (p.length:Int)))) e0 g e0) (b5 _ _ ⟨b3,b4,a3,(congrArg Value.bool (orF g)),a⟩)))))
 rintro f w ⟨b6,b7,a4,d2,a⟩
 refine Ym (.bool (((!o) || (decide ((20:Int) < (j.length:Int)))) || (decide ((20:Int) < (p.length:Int))))) (eh d2) ?_
 refine joinW 5 (fun f w=>f 2=iV q∧f 3=(pB t)∧f 4=(pB u)∧f 36=.bool ((((!o) || (decide ((20:Int) < (j.length:Int)))) || (decide ((20:Int) < (p.length:Int)))) || (decide ((20:Int) < (L.length:Int))))∧St w0 ros (box t 26 [c.v]::box u 46 [k.v,l.v,m.v]::rs) w) (fun b8=>?_) ?_
 ·rcases Bool.eq_false_or_eq_true (((!o) || (decide ((20:Int) < (j.length:Int)))) || (decide ((20:Int) < (p.length:Int)))) with h | h
  ·exact gN h (gN h (gN h (gN h (yY (pt_ (.bool true) e0 h rfl) (b8 _ _ ⟨b6,b7,a4,(congrArg Value.bool (orT h)),a⟩)))))
  exact yG h (yFb FL_46_2 (eh a4)) (yG h (lb_ m.v O_22 e0 a R1) (yG h (yLen SL_22 e0 a (rdI Z)) (yG h (ygtr e0 rfl) (yY (pf_ (.bool (decide ((20:Int) < (L.length:Int)))) e0 h e0) (b8 _ _ ⟨b6,b7,a4,(congrArg Value.bool (orF h)),a⟩)))))
 rintro f w ⟨b9,x,a5,d3,a⟩
 refine wK c9 (cB (eh d3) b (fun d4 b=>?_) fun d4 b=>?_)
 ·refine sR fun _ d5=>bE b fun d6 d7 b=>yC (yCall FN_8 a0) (sparselaw18_awake_ok d7 a) ?_
  rintro _ w ⟨rfl,a⟩
  refine ⟨_,rfl,?_⟩
  refine Ya (.bool d6) e0 (wK d5 (wp_ret (c8 _ _ _ rfl ?_)))
  cases b
  exact b1 _ _ _ (fin1r Tryz.results5 ⟨rfl,rfl⟩ ⟨rfl,(a.pk 2 [] rfl)⟩)
 refine wp_skip (c7 _ _ (sR fun _ d8=>yY (lbs_ [c.v] ST_26 (eh x) a R0) (bE b fun g7 d9 b=>yC (yCall FN_26 (a1 e0)) (sparsekit_TwinGraph_ok d9 s a) ?_)))
 rintro _ w ⟨y,rfl,a⟩
 refine ⟨_,rfl,?_⟩
 refine yBb (rAl a ZT_26) fun g8 w a=>yT (r_stbn (vals':=[y.v]) (us:=[y.v]) a ST_26 e0 e0 rfl rfl (one_of rfl) rfl) fun w a=>wK d8 (sR fun _ e1=>yY (lbs_ [y.v] ST_26 e0 a R0) (bE b fun N e2 b=>?_))
 replace a:=(a.pk 2 [1,0] rfl).fz
 refine yC (yCall FN_27 (a1 e0)) (dissect_Separate_ok e2 F0 a) ?_
 rintro _ w ⟨z,A,B,rfl,a⟩
 refine ⟨_,rfl,?_⟩
 refine Ym (.tuple #[.agg #[z.v,A.v,B.v],iV N.2.2.2]) e0 (yY (x_ (.agg #[z.v,A.v,B.v]) e0) (yY (x_ (iV N.2.2.2) e0) (yBb (rAl a ZT_46) fun g9 w a=>yT (r_stbn (vals':=[z.v,A.v,B.v]) (us:=[z.v,A.v,B.v]) a ST_46 e0 e0 rfl rfl (one_of rfl) rfl) fun w a=>Ya (iV N.2.2.2) e0 (wK e1 (sR fun _ e3=>yY (lbs_ [c.v] ST_26 (eh x) a R5) (bE b fun O e4 b=>?_))))))
 refine yC (yCall FN_28 (a1 e0)) (sparseref18_Separate_ok e4 (mtF s) a) ?_
 rintro _ w ⟨C,D,E,rfl,a⟩
 refine ⟨_,rfl,?_⟩
 refine Ym (.tuple #[.agg #[C.v,D.v,E.v],iV O.2.2.2]) e0 (yY (x_ (.agg #[C.v,D.v,E.v]) e0) (yY (x_ (iV O.2.2.2) e0) (yBb (rAl a ZT_46) fun h0 w a=>yT (r_stbn (vals':=[C.v,D.v,E.v]) (us:=[C.v,D.v,E.v]) a ST_46 e0 e0 rfl rfl (one_of rfl) rfl) fun w a=>Ya (iV O.2.2.2) e0 (wK e3 (sR fun _ e5=>yY (lbs_ [y.v] ST_26 e0 a R8) (Ym (iV q) (eh b9) ?_))))))
 refine bE b fun R e6 b=>yC (yCall FN_29 (a2 e0 e0)) (dissect_Order_ok e6 F0 a) ?_
 rintro _ w ⟨S,rfl,a⟩
 refine ⟨_,rfl,?_⟩
 refine Ym (.tuple #[S.v,iV R.2]) e0 (yY (x_ S.v e0) (yY (x_ (iV R.2) e0) (Ya S.v e0 (Ya (iV R.2) e0 (wK e5 (sR fun _ e7=>yY (lbs_ [c.v] ST_26 (eh x) a R10) (Ym (iV q) (eh b9) (bE b fun T e8 b=>yC (yCall FN_30 (a2 e0 e0)) (sparseref18_Order_ok e8 (mtF s) a) ?_))))))))
 rintro _ w ⟨U,rfl,a⟩
 refine ⟨_,rfl,?_⟩
 refine Ym (.tuple #[U.v,iV T.2]) e0 (yY (x_ U.v e0) (yY (x_ (iV T.2) e0) (Ya U.v e0 (Ya (iV T.2) e0 (wK e7 (sQ fun _ e9=>bE b fun f0 f1 b=>bE b fun c0 a6 b=>bE b fun c1 r b=>bE b fun c2 F b=>bE b fun c3 a7 b=>bE b fun c4 G b=>?_))))))
 refine bE b fun a8 H b=>?_
 refine joinN (n:=97) (fun f w=>f 6=.bool a8∧St w0 ros rs w) (fun f2=>?_) ?_
 ·have f3:=(someI b).trans c5
  obtain ⟨a9,H⟩:=chT H f3
  obtain ⟨I,G⟩:=chT G a9
  obtain ⟨J,a7⟩:=chT a7 I
  obtain ⟨K,F⟩:=chT F J
  obtain ⟨i,r⟩:=chT r K
  obtain ⟨V,a6⟩:=chT a6 i
  have f4:=someI a6
  refine bE r fun h1 f5 r=>bE r fun h3 f6 r=>?_
  have f7:=someI r
  refine bE F fun h5 f8 F=>?_
  have f9:=someI F
  have g0:=someI a7
  refine bE G fun h7 g1 G=>?_
  have g2:=someI G
  refine bE H fun h9 g3 H=>?_
  have g4:=someI H
  refine dR [0,0,3,7,15,15,63,127,255,511,511,2047,511,511,16383,32767,65535,131071,262143,262143,1048575,2097151,4194303,8388607,8388607,33554431,67108863,134217727,268435455,268435455,1073741823,2147483647,4294967295,8589934591,17179869183,34359738367] [2,11,14,20,30,33,35] 7 folM ?_
  replace a:=a.drew
  refine Dn [0,1] [] [2] (yR rfl (lbs_ [z.v,A.v,B.v] ST_46 e0 a R6) (yR rfl (lbs_ [C.v,D.v,E.v] ST_46 e0 a R2) (Rn QSn ?_)))
  refine Lc1 rfl ?_
  replace a:=(((((((((((a.pk 8 [7,0,0,0,0,0,0,0] rfl).fz).pk 8 [7,0,0,0,0,0,0,0] rfl).fz).pk 8 [7,0,0,0,0,0,0,0] rfl).fz).pk 4 [3,0,0,0] rfl).fz).pk 4 [3,0,0,0] rfl).fz).pk 4 [3,0,0,0] rfl).fz
  refine Lk wn (yCall FN_31 (a2 e0 e0)) (sparsekit_Split_ok f1 F5 F4 F3 F2 F1 F0 a) ?_
  rintro _ w ⟨rfl,a⟩
  refine ⟨_,rfl,?_⟩
  refine Dn [3,4,5,6,7,8,9,10,12,13] [] [11] (yR rfl (m_ (.bool f0) e0) (Ry rfl rfl (wG V) (m_ (iV N.2.2.2) e0) (Ry rfl rfl (wG V) (m_ (iV O.2.2.2) e0) (Ry rfl rfl (wG V) (yeql e0 e0) (yR rfl (pt_ (.bool c0) e0 V (eqv f4 e0)) (yR rfl (m_ (.bool c0) e0) (Ry rfl rfl (wG i) (lbs_ [y.v] ST_26 e0 a R4) (Ry rfl rfl (wG i) (lbs_ [k.v,l.v,m.v] ST_46 (eh a5) a R6) (Ry rfl rfl (wG i) (lbs_ [c.v] ST_26 (eh x) a R5) (Ry rfl rfl (wG i) (lbs_ [k.v,l.v,m.v] ST_46 (eh a5) a R6) (Rn QSn ?_)))))))))))
  refine Lc1 rfl ?_
  refine Lk (wG i) (yCall FN_32 (a2 e0 e0)) (dissect_Check_ok f5 F6 (F_7 W) (F_7 X) (F_7 Z) a) ?_
  rintro _ w ⟨rfl,a⟩
  refine ⟨_,rfl,?_⟩
  refine Dn [] [12,13] [14] (Rn (Sy rfl rfl (wG i) (lbs_ [c.v] ST_26 (eh x) a R5) rfl (Sy rfl rfl (wG i) (lbs_ [k.v,l.v,m.v] ST_46 (eh a5) a R6) rfl QSn)) ?_)
  refine Lc1 rfl ?_
  refine Lk (wG i) (yCall FN_33 (a2 e0 e0)) (sparseref18_Check_ok f6 (F_7 s) (F_7 W) (F_7 X) (F_7 Z) a) ?_
  rintro _ w ⟨rfl,a⟩
  refine ⟨_,rfl,?_⟩
  refine Dn [15,16,17,18,19] [] [20] (Ry rfl rfl (wG i) (yeql e0 e0) (yR rfl (pt_ (.bool c1) e0 i (eqv f7 e0)) (yR rfl (m_ (.bool c1) e0) (Ry rfl rfl (wG K) (m_ S.v e0) (Ry rfl rfl (wG K) (m_ U.v e0) (Rn QSn ?_))))))
  refine Lc1 rfl ?_
  replace a:=((a.pk 2 [1,0] rfl).fz).fz
  refine Lk (wG K) (yCall FN_13 (a2 e0 e0)) (sparsekit_Ints_ok f8 F1 F0 a) ?_
  rintro _ w ⟨rfl,a⟩
  refine ⟨_,rfl,?_⟩
  refine Dn [21,22,23,24,25,26,27,28,29] [] [30] (yR rfl (pt_ (.bool c2) e0 K (eqv f9 e0)) (yR rfl (m_ (.bool c2) e0) (Ry rfl rfl (wG J) (m_ (iV R.2) e0) (Ry rfl rfl (wG J) (m_ (iV T.2) e0) (Ry rfl rfl (wG J) (yeql e0 e0) (yR rfl (pt_ (.bool c3) e0 J (eqv g0 e0)) (yR rfl (m_ (.bool c3) e0) (Ry rfl rfl (wG I) (lbs_ [y.v] ST_26 e0 a R2) (Ry rfl rfl (wG I) (lbs_ [c.v] ST_26 (eh x) a R3) (Rn QSn ?_))))))))))
  refine Lc1 rfl ?_
  refine Lk (wG I) (yCall FN_34 (a2 e0 e0)) (sparsekit_Graph_ok g1 F8 (F_9 s) a) ?_
  rintro _ w ⟨rfl,a⟩
  refine ⟨_,rfl,?_⟩
  refine Dn [31,32] [] [33] (yR rfl (pt_ (.bool c4) e0 I (eqv g2 e0)) (yR rfl (m_ (.bool c4) e0) (Rn QSn ?_)))
  refine Lc1 rfl ?_
  refine Lk (wG a9) (yCall FN_8 a0) (sparselaw18_awake_ok g3 a) ?_
  rintro _ w ⟨rfl,a⟩
  refine ⟨_,rfl,?_⟩
  refine Dn [34] [] [35] (yR rfl (pt_ (.bool a8) e0 a9 (eqv g4 e0)) (Rn QSn ?_))
  refine Lc1 rfl ?_
  exact Ly wn (a_ (.bool a8) e0) (Dz [] [] (Rn QSn (f2 _ _ ⟨rfl,((a.pk 5 [] rfl).facts (allT (allT (allT (allT (allT (allT (allT (allT (allT allI))))))))))⟩)))
 rintro f w ⟨g5,a⟩
 refine e9 _ _ (wp_ret ?_)
 cases b
 exact b1 _ _ _ (fin1r Tryz.results5 ⟨rfl,g5⟩ ⟨rfl,a⟩)
end Go.Proofs.YthpeajepbffinaaGreat
