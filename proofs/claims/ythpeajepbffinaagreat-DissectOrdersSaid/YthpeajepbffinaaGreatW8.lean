/- Walks: each function computes its model, printed. -/
import Derived.Test.YthpeajepbffinaaGreatW7
namespace Go.Proofs.YthpeajepbffinaaGreat
open Go Sx M
set_option maxRecDepth 100000
set_option maxHeartbeats 40000000
set_option linter.unusedVariables false
attribute [local irreducible] wpList Code.wp Calls DR QR QS LA LS St
variable {w0:World} {ros:List Fact} {rs:List Res} {w:World}
theorem sparseref09_Range_ok {p:LI} {j:Int} {h:Hdr} {out:Bool} (n:sparseref09_Range p j=some out) (k:imm I1 h.v p∈ros) (b:St w0 ros rs w):
  Calls Tryz.prog 68 #[h.v,iV j] w (fun e w=>e=.returned (.bool out)∧St w0 ros rs w):=by
 refine enterQ Tryz.func68 rfl Tryz.ntmps68 rfl fun Q q=>sR fun _ D=>Ya (.bool false) rfl (wK D (seqQ fun a7 E F=>sR fun _ G=>Ya (iV 0) rfl (wK G (blockQ fun r t=>bE n fun u H n=>?_))))
 have I:∀ (f:FV) w,St w0 ros rs w→.inl ()=u→r (.exit 0) (fr 25 f) w:=by
  intro f w b ho
  subst ho
  refine t _ _ _ (E _ _ (sR fun _ J=>Ya (.bool true) rfl (wK J (wp_ret ?_))))
  cases n
  exact q _ _ _ (fin1r Tryz.results68 ⟨rfl,rfl⟩ ⟨rfl,b⟩)
 have K:∀ (f:FV) w,f 4=.bool false→St w0 ros rs w→.inr ()=u→r .ret (fr 25 f) w:=by
  intro f w L b ho
  subst ho
  refine t _ _ _ (F _ _ _ rfl ?_)
  cases n
  exact q _ _ _ (fin1r Tryz.results68 ⟨rfl,L⟩ ⟨rfl,b⟩)
 refine loopQ (fun s a w=>∃ (g:Int) (f:FV),g=s∧a=fr 25 f∧f 0=h.v∧f 1=iV j∧f 5=iV g∧St w0 ros rs w) H ⟨_,_,rfl,rfl,rfl,rfl,rfl,b⟩ ?_
 rintro _ _ w a8 ⟨g,f,rfl,rfl,l,o,m,b⟩ d x a9 N y
 refine seqQ fun b0 O R=>sR fun _ S=>Ym (iV g) (eh m) (Ym h.v (eh l) (yY (yLen SL_22 e0 b (rdI k)) (yY (ylss e0 e0) (wK S ?_))))
 refine cIf e0 d (fun T d=>?_) fun T d=>?_
 ·refine wp_skip (O _ _ (seqQ fun b1 U V=>blockQ fun _ z=>sR fun _ W=>Ym h.v (eh l) (Ym (iV g) (eh m) (bE d fun X A d=>yY (yIa SL_22 e0 e0 b (rdI k) A) (yY (yI O_3 e0 b (rdI k) A) (yY (ylss e0 rfl) (Ym (.bool (decide (X < 0))) e0 (bE d fun Z i d=>?_))))))))
  refine joinW 7 (fun f w=>f 0=h.v∧f 1=iV j∧f 5=iV g∧f 24=.bool Z∧St w0 ros rs w) (fun B=>?_) ?_
  ·rcases iteS i with ⟨c,i⟩ | ⟨c,i⟩
   ·refine gN (dT c) (gN (dT c) (gN (dT c) (gN (dT c) (gN (dT c) (gN (dT c) (yY (pt_ (.bool true) e0 (dT c) rfl) ?_))))))
    cases i
    exact B _ _ ⟨l,o,m,rfl,b⟩
   ·refine yG (dF c) (m_ h.v (eh l)) (yG (dF c) (m_ (iV g) (eh m)) (bE i fun a0 C i=>yG (dF c) (yIa SL_22 e0 e0 b (rdI k) C) (yG (dF c) (yI O_3 e0 b (rdI k) C) (yG (dF c) (m_ (iV j) (eh o)) (yG (dF c) (ygeq e0 e0) (yY (pf_ (.bool (decide (j≤a0))) e0 (dF c) e0) ?_))))))
    cases i
    exact B _ _ ⟨l,o,m,rfl,b⟩
  rintro f w ⟨a1,a2,a3,a4,b⟩
  refine wK W (cB (eh a4) d (fun a5 d=>?_) fun a5 d=>?_)
  ·refine sR fun _ a6=>Ya (.bool false) rfl (wK a6 (wp_ret (z _ _ _ (V _ _ _ rfl ?_))))
   cases d
   exact y _ _ _ _ rfl rfl (K _ _ rfl b (x _ rfl))
  ·refine wp_skip (z _ _ _ (U _ _ (wR (Ym (iV g) (eh a3) (yY (yadd e0 rfl) (Ya (iV (wa .i64 g 1)) e0 (wN ?_)))))))
   cases d
   exact N _ _ _ rfl ⟨_,_,rfl,rfl,a1,a2,rfl,b⟩
 ·refine wp_exit (R _ _ _ rfl ?_)
  cases d
  exact y _ _ _ _ rfl rfl (I _ _ b (x _ rfl))
theorem sparseref09_Twice_ok {l:LI} {g:Hdr} {out:Bool} (i:sparseref09_Twice l=some out) (h:imm I1 g.v l∈ros) (b:St w0 ros rs w):
  Calls Tryz.prog 69 #[g.v] w (fun e w=>e=.returned (.bool out)∧St w0 ros rs w):=by
 refine enterQ Tryz.func69 rfl Tryz.ntmps69 rfl fun Q m=>sR fun _ k1=>Ya (.bool false) rfl (wK k1 (seqQ fun U y z=>sR fun _ A=>Ya (iV 0) rfl (wK A (blockQ fun n o=>bE i fun p B i=>?_))))
 have C:∀ (f:FV) w,St w0 ros rs w→.inl ()=p→n (.exit 0) (fr 18 f) w:=by
  intro f w b ho
  subst ho
  refine o _ _ _ (y _ _ (sR fun _ D=>Ya (.bool false) rfl (wK D (wp_ret ?_))))
  cases i
  exact m _ _ _ (fin1r Tryz.results69 ⟨rfl,rfl⟩ ⟨rfl,b⟩)
 have E:∀ (f:FV) w,f 2=.bool true→St w0 ros rs w→.inr ()=p→n .ret (fr 18 f) w:=by
  intro f w F b ho
  subst ho
  refine o _ _ _ (z _ _ _ rfl ?_)
  cases i
  exact m _ _ _ (fin1r Tryz.results69 ⟨rfl,F⟩ ⟨rfl,b⟩)
 refine loopQ (fun s a w=>∃ (d:Int) (f:FV),d=s∧a=fr 18 f∧f 0=g.v∧f 3=iV d∧St w0 ros rs w) B ⟨_,_,rfl,rfl,rfl,rfl,b⟩ ?_
 rintro _ _ w V ⟨d,f,rfl,rfl,j,k,b⟩ c q W G r
 refine seqQ fun X H I=>sR fun _ J=>Ym (iV d) (eh k) (Ym g.v (eh j) (yY (yLen SL_22 e0 b (rdI h)) (yY (ylss e0 e0) (wK J ?_))))
 refine cIf e0 c (fun K c=>?_) fun K c=>?_
 ·refine wp_skip (H _ _ (seqQ fun Z L N=>blockQ fun _ t=>sQ fun _ O=>bE c fun a0 u c=>bE c fun a1 x c=>bE c fun a3 R c=>dR [0,0,3,0,0,24,56,127] [7] 1 folM ?_))
  replace b:=b.drew
  refine Dn [0,1,2,3,4,5,6] [] [7] (yR rfl (m_ g.v (eh j)) (yR rfl (m_ (iV d) (eh k)) (yR rfl (ySl (k1:=.i64) SL_22 e0 b (rdI h) (.inr ⟨rfl,rfl⟩) (.inl (congrArg some e0)) u) ?_)))
  replace b:=b.sub h u
  refine yR rfl (m_ g.v (eh j)) (yR rfl (m_ (iV d) (eh k)) (yR rfl (yIa SL_22 e0 e0 b (rdI (mtF h)) x) (yR rfl (yI O_3 e0 b (rdI (mtF h)) x) (Rn QSn ?_))))
  refine Lc1 rfl ?_
  refine Lk wn (yCall FN_37 (a2 e0 e0)) (sparsekit_In_ok R F0 b) ?_
  rintro _ w ⟨rfl,b⟩
  refine ⟨_,rfl,?_⟩
  refine Dz [] [] (Rn QSn (O _ _ (cB e0 c (fun S c=>?_) fun S c=>?_)))
  ·refine sR fun _ T=>Ya (.bool true) rfl (wK T (wp_ret (t _ _ _ (N _ _ _ rfl ?_))))
   cases c
   exact r _ _ _ _ rfl rfl (E _ _ rfl (b.facts (allT allI)) (q _ rfl))
  ·refine wp_skip (t _ _ _ (L _ _ (wR (Ym (iV d) (eh k) (yY (yadd e0 rfl) (Ya (iV (wa .i64 d 1)) e0 (wN ?_)))))))
   cases c
   exact G _ _ _ rfl ⟨_,_,rfl,rfl,j,rfl,(b.facts (allT allI))⟩
 ·refine wp_exit (I _ _ _ rfl ?_)
  cases c
  exact r _ _ _ _ rfl rfl (C _ _ b (q _ rfl))
theorem sparseref12_empty_ok {g:Int} {out:(List (List Bool))} (j:sparseref12_empty g=some out) (b:St w0 ros rs w):
  Calls Tryz.prog 71 #[iV g] w (fun e w=>∃ (t:Hdr) (u:List Hdr),e=.returned (t.v)∧St w0 ros (row 93 rH t.v u::fam 4 rB u out::rs) w):=by
 refine enterQ Tryz.func71 rfl Tryz.ntmps71 rfl fun Q A=>sR fun _ B=>Ya hnil.v rfl (wK B (sR fun _ C=>Ya hnil.v rfl (wK C (sQ fun _ D=>sR fun _ E=>?_))))
 refine Ya (iV 0) rfl (wK E (blockQ fun F G=>bE j fun H I j=>?_))
 have J:∀ (k:List (List Bool)) (h:Hdr) (m:List Hdr) (f:FV) w,f 3=h.v→St w0 ros (row 93 rH h.v m::fam 4 rB m k::rs) w→k=H→F (.exit 0) (fr 16 f) w:=by
  intro k h m f w K b ho
  subst ho
  refine G _ _ _ (D _ _ (sR fun _ L=>Ym h.v (eh K) (Ya h.v e0 (wK L (wp_ret ?_)))))
  cases j
  exact A _ _ _ (fin1r Tryz.results71 ⟨rfl,rfl⟩ ⟨_,_,rfl,b⟩)
 replace b:=((b.rowNh 93 rH).fNew 4 rB).pk 2 [1,0] rfl
 refine loopQ (fun s a w=>∃ (o:List (List Bool)) (d:Int) (f:FV) (i:Hdr) (p:List Hdr),(o,d)=s∧a=fr 16 f∧f 0=iV g∧f 3=i.v∧f 4=iV d∧St w0 ros (row 93 rH i.v p::fam 4 rB p o::rs) w) I ⟨_,_,_,_,_,rfl,rfl,rfl,rfl,rfl,b⟩ ?_
 rintro _ _ w a3 ⟨o,d,f,i,p,rfl,rfl,q,x,y,b⟩ c N a4 O R
 refine seqQ fun a5 S T=>sR fun _ U=>Ym (iV d) (eh y) (Ym (iV g) (eh q) (yY (ylss e0 e0) (wK U ?_)))
 refine cIf e0 c (fun V c=>?_) fun V c=>?_
 ·refine wp_skip (S _ _ (sQ fun _ W=>blockQ fun _ X=>wR (Ym i.v (eh x) (Ym (iV g) (eh q) (bE c fun Z a0 c=>yH (rMk b SL_93 e0 a0) fun r w b=>yH (rLt (n:=1) (l:=[r]) b SLH_98 [r.v] (bp1 e0) rfl rfl (mks1 rfl (mkF rfl) mks0)) fun a6 w b=>bE c fun a7 z c=>?_)))))
  replace b:=b.pk 3 [2,0,0] rfl
  obtain ⟨a8,ey39,a1⟩:=app_rep z (b.famL R3) (show [r].length=[Z].length from rfl)
  refine yH (rAp b SLH_98 e0 e0 rO1 a1) fun a2 w b=>?_
  replace b:=(b.pk 4 [2,2,0,0] rfl).fPush
  rw [← ey39,← (app_some z).1] at b
  refine Ya a2.v e0 (wN (X _ _ _ (W _ _ (wR (Ym (iV d) (eh y) (yY (yadd e0 rfl) (Ya (iV (wa .i64 d 1)) e0 (wN ?_))))))))
  cases c
  exact O _ _ _ rfl ⟨_,_,_,_,_,rfl,rfl,q,rfl,rfl,(b.pk 3 [1,0] rfl)⟩
 ·refine wp_exit (T _ _ _ rfl ?_)
  cases c
  exact R _ _ _ _ rfl rfl (J _ _ _ _ _ x b (N _ rfl))
theorem sparseref12_Induced_ok {O:L2} {R:LI} {p g:Hdr} {out:L2×Int} (c:sparseref12_Induced O R=some out) (B:imm S1 p.v O∈ros) (j:imm I1 g.v R∈ros) (b:St w0 ros rs w):
  Calls Tryz.prog 38 #[.agg #[p.v],g.v] w (fun e w=>∃ (S:Hdr),e=.returned (.tuple #[.agg #[S.v],iV out.2])∧St w0 ros (row 22 S1 S.v out.1::rs) w):=by
 refine enterQ Tryz.func38 rfl Tryz.ntmps38 rfl fun Q u=>sR fun _ a7=>yBb (r_box (vals:=[p.v]) b e0 rfl) fun h7 w b=>yBb (rAl b ZT_26) fun k w b=>Ya (iV 0) rfl (wK a7 (seqQ fun h8 a8 a9=>sR fun _ b0=>yY (lbs_ [p.v] ST_26 e0 b R1) ?_))
 refine bE c fun x b1 c=>yC (yCall FN_54 (a1 e0)) (sparseref12_Check_ok b1 B b) ?_
 rintro _ w ⟨rfl,b⟩
 refine ⟨_,rfl,?_⟩
 refine Ya (iV x) e0 (wK b0 (sR fun _ b2=>Ym (iV x) e0 (yY (yneq e0 rfl) (wK b2 ?_))))
 rcases iteS c with ⟨C,c⟩ | ⟨C,c⟩
 ·refine condF e0 (nF (dT C)) (wp_skip (a8 _ _ (seqQ fun h9 b3 b4=>sR fun _ b7=>Ym g.v e0 (yY (yFb FL_26_0 e0) (yY (lb_ p.v O_24 e0 b R1) (yY (yLen SL_24 e0 b (rdI B)) (bE c fun i0 b8 c=>yC (yCall FN_68 (a2 e0 e0)) (sparseref09_Range_ok b8 j b) ?_)))))))
  rintro _ w ⟨rfl,b⟩
  refine ⟨_,rfl,?_⟩
  refine yY (ynot e0) (wK b7 ?_)
  rcases iteS c with ⟨D,c⟩ | ⟨D,c⟩
  ·refine condF e0 (nF D) (wp_skip (b3 _ _ (seqQ fun i1 b9 c0=>sR fun _ c1=>Ym g.v e0 (bE c fun i2 c2 c=>yC (yCall FN_69 (a1 e0)) (sparseref09_Twice_ok c2 j b) ?_))))
   rintro _ w ⟨rfl,b⟩
   refine ⟨_,rfl,?_⟩
   refine wK c1 (cB e0 c (fun c3 c=>?_) fun c3 c=>?_)
   ·refine sR fun _ c4=>yY (ybuild (us:=[hnil.v]) [] SO_26 bp0 rfl) (yT (r_stbn (vals':=[hnil.v]) (us:=[hnil.v]) b ST_26 e0 e0 rfl rfl (one_of rfl) rfl) fun w b=>Ya (iV 90) rfl (wK c4 (wp_ret (c0 _ _ _ rfl ?_))))
    cases c
    replace b:=b.rowNh 22 S1
    exact u _ _ _ (fin2r Tryz.results38 (rcs2 rfl rfl b R1 ST_26 rfl) ⟨rfl,rfl⟩ ⟨_,rfl,(b.pk 3 [0] rfl)⟩)
   ·refine wp_skip (b9 _ _ (sR fun _ c5=>yY (lbs_ [p.v] ST_26 e0 b R1) (bE c fun E c6 c=>yC (yCall FN_70 (a1 e0)) (sparseref12_Table_ok c6 B b) ?_)))
    rintro _ w ⟨l,q,rfl,b⟩
    refine ⟨_,rfl,?_⟩
    refine Ya l.v e0 (wK c5 (sR fun _ c7=>Ym g.v e0 (yY (yLen SL_22 e0 b (rdI j)) (bE c fun i3 c9 c=>yC (yCall FN_71 (a1 e0)) (sparseref12_empty_ok c9 b) ?_))))
    rintro _ w ⟨h,m,rfl,b⟩
    refine ⟨_,rfl,?_⟩
    refine Ya h.v e0 (wK c7 (sQ fun _ d0=>sR fun _ d1=>Ya (iV 0) rfl (wK d1 (blockQ fun d2 d3=>bE c fun d4 d5 c=>?_))))
    have d6:∀ (F:List (List Bool)) (f:FV) w,f 4=(pB k)→f 8=h.v→St w0 ros (box k 26 [hnil.v]::row 93 rH h.v m::fam 4 rB m F::rs) w→F=d4→d2 (.exit 0) (fr 65 f) w:=by
     intro F f w T d7 b ho
     subst ho
     refine d3 _ _ _ (d0 _ _ (sR fun _ d8=>Ym h.v (eh d7) (bE c fun i4 d9 c=>?_)))
     replace b:=(b.pk 3 [1,1,0] rfl).ffz
     refine yC (yCall FN_67 (a1 e0)) (sparseref12_FromTable_ok d9 F0 b) ?_
     rintro _ w ⟨U,rfl,b⟩
     refine ⟨_,rfl,?_⟩
     refine yT (r_stbn (vals':=[U.v]) (us:=[U.v]) (b.pk 2 [1,0] rfl) ST_26 (eh T) e0 rfl rfl (one_of rfl) rfl) fun w b=>Ya (iV 0) rfl (wK d8 (wp_ret ?_))
     cases c
     exact u _ _ _ (fin2r Tryz.results38 (rcs2 rfl T b R0 ST_26 rfl) ⟨rfl,rfl⟩ ⟨_,rfl,((b.pk 2 [1] rfl).facts (allT allI))⟩)
    refine loopQ (fun s a w=>∃ (G:List (List Bool)) (i:Int) (f:FV),(G,i)=s∧a=fr 65 f∧f 1=g.v∧f 4=(pB k)∧f 7=l.v∧f 8=h.v∧f 9=iV i∧St w0 ros (box k 26 [hnil.v]::row 93 rH l.v q::fam 4 rB q E::row 93 rH h.v m::fam 4 rB m G::rs) w) d5 ⟨_,_,_,rfl,rfl,rfl,rfl,rfl,rfl,rfl,(b.pk 6 [4,2,2,0,0] rfl)⟩ ?_
    rintro _ _ w i5 ⟨G,i,f,rfl,rfl,V,W,e1,X,Z,b⟩ o e2 i6 e3 e4
    refine seqQ fun i7 e5 e6=>sR fun _ e7=>Ym (iV i) (eh Z) (Ym g.v (eh V) (yY (yLen SL_22 e0 b (rdI j)) (yY (ylss e0 e0) (wK e7 ?_))))
    refine cIf e0 o (fun e8 o=>?_) fun e8 o=>?_
    ·refine wp_skip (e5 _ _ (sQ fun _ e9=>blockQ fun _ f0=>sR fun _ f1=>Ya (iV 0) rfl (wK f1 (blockQ fun f2 f3=>bE o fun f4 f5 o=>?_))))
     have f6:∀ (H:List (List Bool)) (f:FV) w,f 1=g.v→f 4=(pB k)→f 7=l.v→f 8=h.v→f 9=iV i→St w0 ros (box k 26 [hnil.v]::row 93 rH l.v q::fam 4 rB q E::row 93 rH h.v m::fam 4 rB m H::rs) w→H=f4→f2 (.exit 2) (fr 65 f) w:=by
      intro H f w f7 f8 f9 g0 g1 b ho
      subst ho
      refine f3 _ _ _ (f0 _ _ _ (e9 _ _ (wR (Ym (iV i) (eh g1) (yY (yadd e0 rfl) (Ya (iV (wa .i64 i 1)) e0 (wN ?_)))))))
      cases o
      exact e3 _ _ _ rfl ⟨_,_,_,rfl,rfl,f7,f8,f9,g0,rfl,b⟩
     refine loopQ (fun s a w=>∃ (I:List (List Bool)) (n:Int) (f:FV),(I,n)=s∧a=fr 65 f∧f 1=g.v∧f 4=(pB k)∧f 7=l.v∧f 8=h.v∧f 9=iV i∧f 10=iV n∧St w0 ros (box k 26 [hnil.v]::row 93 rH l.v q::fam 4 rB q E::row 93 rH h.v m::fam 4 rB m I::rs) w) f5 ⟨_,_,_,rfl,rfl,V,W,e1,X,Z,rfl,b⟩ ?_
     rintro _ _ w i8 ⟨I,n,f,rfl,rfl,r,a0,J,K,y,z,b⟩ d g2 i9 g3 g4
     refine seqQ fun j0 g5 g6=>sR fun _ g7=>Ym (iV n) (eh z) (Ym g.v (eh r) (yY (yLen SL_22 e0 b (rdI j)) (yY (ylss e0 e0) (wK g7 ?_))))
     refine cIf e0 d (fun g8 d=>?_) fun g8 d=>?_
     ·refine wp_skip (g5 _ _ (sQ fun _ g9=>blockQ fun _ h0=>bE d fun j1 L d=>bE d fun j2 a3 d=>bE d fun j3 N d=>bE d fun j4 a4 d=>bE d fun h1 a5 d=>bE d fun j5 a6 d=>bE d fun j6 h3 d=>dR [0,0,3,7,0,0,0,0,192,448,992,2016,0,0,12288,28672,65504,131040,262143,524287] [19] 1 folM ?_))
      replace b:=b.drew
      refine Dn [0,1,2,3,4,5,6,7,8,9,10,11,12,13,14,15,16,17,18] [] [19] (yR rfl (m_ h.v (eh K)) (yR rfl (m_ (iV i) (eh y)) ?_))
      obtain ⟨j7,t⟩:=b.famI R4 L
      refine yR rfl (yIa SLH_98 e0 e0 b rO3 t) (yR rfl (yF1 O_93 e0 b rO3 t rfl) (yR rfl (m_ (iV n) (eh z)) (yR rfl (m_ l.v (eh J)) (yR rfl (m_ g.v (eh r)) (yR rfl (m_ (iV i) (eh y)) (yR rfl (yIa SL_22 e0 e0 b (rdI j) a3) (yR rfl (yI O_3 e0 b (rdI j) a3) ?_)))))))
      obtain ⟨j8,A⟩:=b.famI R2 N
      refine yR rfl (yIa SLH_98 e0 e0 b rO1 A) (yR rfl (yF1 O_93 e0 b rO1 A rfl) (yR rfl (m_ g.v (eh r)) (yR rfl (m_ (iV n) (eh z)) (yR rfl (yIa SL_22 e0 e0 b (rdI j) a4) (yR rfl (yI O_3 e0 b (rdI j) a4) (yR rfl (yIa SL_93 e0 e0 b (rdF R2 A N) a5) (yR rfl (yB O_4 e0 b (rdF R2 A N) a5) (yR rfl (yIs SL_93 e0 e0 b (rdF R4 t L) a6) (Rn QSn ?_)))))))))
      refine Lc1 rfl ?_
      replace b:=b.pk 5 [4,0,0,0,0] rfl
      refine LT wn (r_sti (cs:=[.bool h1]) (b.foc t L) O_4 rfl e0 e0 rfl mkB a6) fun w b=>?_
      replace b:=b.unfoc' t h3
      refine Dz [] [] (Rn QSn (h0 _ _ _ (g9 _ _ (wR (Ym (iV n) (eh z) (yY (yadd e0 rfl) (Ya (iV (wa .i64 n 1)) e0 (wN ?_))))))))
      cases d
      exact g3 _ _ _ rfl ⟨_,_,_,rfl,rfl,r,a0,J,K,y,rfl,(b.pk 5 [1,1,1,1,0] rfl)⟩
     ·refine wp_exit (g6 _ _ _ rfl ?_)
      cases d
      exact g4 _ _ _ _ rfl rfl (f6 _ _ _ r a0 J K y b (g2 _ rfl))
    ·refine wp_exit (e6 _ _ _ rfl ?_)
     cases o
     exact e4 _ _ _ _ rfl rfl (d6 _ _ _ W X (b.pk 5 [0,2,2] rfl) (e2 _ rfl))
  ·refine condT e0 (nT (bfalse D)) (sR fun _ h5=>yY (ybuild (us:=[hnil.v]) [] SO_26 bp0 rfl) (yT (r_stbn (vals':=[hnil.v]) (us:=[hnil.v]) b ST_26 e0 e0 rfl rfl (one_of rfl) rfl) fun w b=>Ya (iV 3) rfl (wK h5 (wp_ret (b4 _ _ _ rfl ?_)))))
   cases c
   replace b:=b.rowNh 22 S1
   exact u _ _ _ (fin2r Tryz.results38 (rcs2 rfl rfl b R1 ST_26 rfl) ⟨rfl,rfl⟩ ⟨_,rfl,(b.pk 3 [0] rfl)⟩)
 ·refine condT e0 (nT (dF C)) (sR fun _ h6=>yY (ybuild (us:=[hnil.v]) [] SO_26 bp0 rfl) (Ym (iV x) e0 (yT (r_stbn (vals':=[hnil.v]) (us:=[hnil.v]) b ST_26 e0 e0 rfl rfl (one_of rfl) rfl) fun w b=>Ya (iV x) e0 (wK h6 (wp_ret (a9 _ _ _ rfl ?_))))))
  cases c
  replace b:=b.rowNh 22 S1
  exact u _ _ _ (fin2r Tryz.results38 (rcs2 rfl rfl b R1 ST_26 rfl) ⟨rfl,rfl⟩ ⟨_,rfl,(b.pk 3 [0] rfl)⟩)
theorem sparseref18_part_ok {rec:L2→Int→Option (LI×Int)} (J:∀ {w0:World} {ros:List Fact} {rs:List Res} {w:World} {j:L2} {k:Int} {g:Hdr} {out:LI×Int} (d:rec j k=some out) (E:imm S1 g.v j∈ros) (b:St w0 ros rs w),Calls Tryz.prog 30 #[.agg #[g.v],iV k] w (fun e w=>∃ (m:Hdr),e=.returned (.tuple #[m.v,iV out.2])∧St w0 ros (row 3 I1 m.v out.1::rs) w)) {w0:World} {ros:List Fact} {rs:List Res} {w:World} {j:L2} {k:LI} {u:Int} {g o:Hdr} {out:LI} (d:sparseref18_part rec j k u=some out) (E:imm S1 g.v j∈ros) (x:imm I1 o.v k∈ros) (b:St w0 ros rs w):
  Calls Tryz.prog 64 #[.agg #[g.v],o.v,iV u] w (fun e w=>∃ (m:Hdr),e=.returned (m.v)∧St w0 ros (row 3 I1 m.v out::rs) w):=by
 refine enterQ Tryz.func64 rfl Tryz.ntmps64 rfl fun Q K=>sR fun _ L=>yBb (r_box (vals:=[g.v]) b e0 rfl) fun b7 w b=>Ya hnil.v rfl (wK L (sR fun _ N=>yY (lbs_ [g.v] ST_26 e0 b R0) (Ym o.v e0 (bE d fun y O d=>yC (yCall FN_38 (a2 e0 e0)) (sparseref12_Induced_ok O E x b) ?_))))
 rintro _ w ⟨p,rfl,b⟩
 refine ⟨_,rfl,?_⟩
 refine Ym (.tuple #[.agg #[p.v],iV y.2]) e0 (yY (x_ (.agg #[p.v]) e0) (yY (x_ (iV y.2) e0) (yBb (rAl b ZT_26) fun b8 w b=>yT (r_stbn (vals':=[p.v]) (us:=[p.v]) b ST_26 e0 e0 rfl rfl (one_of rfl) rfl) fun w b=>Ya (iV y.2) e0 (wK N (sR fun _ R=>yY (lbs_ [p.v] ST_26 e0 b R0) (Ym (iV u) e0 ?_))))))
 refine bE d fun r S d=>?_
 replace b:=(b.pk 2 [1,0] rfl).fz
 refine yC (yCall FN_30 (a2 e0 e0)) (J S F0 b) ?_
 rintro _ w ⟨h,rfl,b⟩
 refine ⟨_,rfl,?_⟩
 refine Ym (.tuple #[h.v,iV r.2]) e0 (yY (x_ h.v e0) (yY (x_ (iV r.2) e0) (Ya h.v e0 (Ya (iV r.2) e0 (wK R (sR fun _ T=>Ya hnil.v rfl (wK T (sQ fun _ U=>sQ fun _ V=>?_))))))))
 refine wR (Ya (iV 0) rfl (wK V (blockQ fun W X=>bE d fun Z a0 d=>?_)))
 have a1:∀ (z:LI) (q:Hdr) (f:FV) w,f 11=q.v→St w0 ros (row 3 I1 q.v z::rs) w→z=Z→W (.exit 0) (fr 42 f) w:=by
  intro z q f w a3 b ho
  subst ho
  refine X _ _ _ (U _ _ (sR fun _ a4=>Ym q.v (eh a3) (Ya q.v e0 (wK a4 (wp_ret ?_)))))
  cases d
  exact K _ _ _ (fin1r Tryz.results64 ⟨rfl,rfl⟩ ⟨_,rfl,b⟩)
 replace b:=b.rowNh 3 I1
 refine loopQ (fun s a w=>∃ (A:LI) (i:Int) (f:FV) (t:Hdr),(A,i)=s∧a=fr 42 f∧f 1=o.v∧f 9=h.v∧f 11=t.v∧f 12=iV i∧St w0 ros (row 3 I1 h.v r.1::row 3 I1 t.v A::rs) w) a0 ⟨_,_,_,_,rfl,rfl,rfl,rfl,rfl,rfl,((b.pk 4 [1,0] rfl).facts (allT allI))⟩ ?_
 rintro _ _ w c0 ⟨A,i,f,t,rfl,rfl,F,B,G,C,b⟩ c a5 c1 a6 a7
 refine seqQ fun c2 a8 a9=>sR fun _ b0=>Ym (iV i) (eh C) (Ym h.v (eh B) (yY (yLen SL_22 e0 b rO0) (yY (ylss e0 e0) (wK b0 ?_))))
 refine cIf e0 c (fun b1 c=>?_) fun b1 c=>?_
 ·refine wp_skip (a8 _ _ (sQ fun _ b2=>blockQ fun _ b3=>wR (Ym t.v (eh G) (Ym o.v (eh F) (Ym h.v (eh B) (Ym (iV i) (eh C) (bE c fun c3 H c=>yY (yIa SL_22 e0 e0 b rO0 H) (yY (yI O_3 e0 b rO0 H) (bE c fun D I c=>yY (yIa SL_22 e0 e0 b (rdI x) I) ?_)))))))))
  refine yY (yI O_3 e0 b (rdI x) I) (yH (rLt (n:=1) (l:=[D]) b SL_22 [iV D] (bp1 e0) rfl rfl (mks1 (cs:=[iV D]) rfl mkI mks0)) fun c4 w b=>bE c fun c5 b4 c=>yH (rAp (b.pk 3 [2,0,0] rfl) SL_22 e0 e0 rO1 b4) fun b5 w b=>Ya b5.v e0 (wN (b3 _ _ _ (b2 _ _ (wR (Ym (iV i) (eh C) (yY (yadd e0 rfl) (Ya (iV (wa .i64 i 1)) e0 ?_))))))))
  refine wN ?_
  cases c
  exact a6 _ _ _ rfl ⟨_,_,_,_,rfl,rfl,F,B,rfl,rfl,(b.pk 3 [2,0] rfl)⟩
 ·refine wp_exit (a9 _ _ _ rfl ?_)
  cases c
  exact a7 _ _ _ _ rfl rfl (a1 _ _ _ _ G (b.pk 2 [1] rfl) (a5 _ rfl))
theorem sparseref18_Order_step {rec:L2→Int→Option (LI×Int)} (D:∀ {w0:World} {ros:List Fact} {rs:List Res} {w:World} {k:L2} {c:Int} {d:Hdr} {out:LI×Int} (b:rec k c=some out) (o:imm S1 d.v k∈ros) (a:St w0 ros rs w),Calls Tryz.prog 30 #[.agg #[d.v],iV c] w (fun e w=>∃ (r:Hdr),e=.returned (.tuple #[r.v,iV out.2])∧St w0 ros (row 3 I1 r.v out.1::rs) w)) {w0:World} {ros:List Fact} {rs:List Res} {w:World} {k:L2} {c:Int} {d:Hdr} {out:LI×Int} (b:sparseref18_Order_body rec k c=some out) (o:imm S1 d.v k∈ros) (a:St w0 ros rs w):
  Calls Tryz.prog 30 #[.agg #[d.v],iV c] w (fun e w=>∃ (r:Hdr),e=.returned (.tuple #[r.v,iV out.2])∧St w0 ros (row 3 I1 r.v out.1::rs) w):=by
 refine enterQ Tryz.func30 rfl Tryz.ntmps30 rfl fun Q s=>sR fun _ L=>yBb (r_box (vals:=[d.v]) a e0 rfl) fun q w a=>Ya hnil.v rfl (Ya (iV 0) rfl (wK L (seqQ fun c1 N O=>sR fun _ R=>yY (lbs_ [d.v] ST_26 e0 a R0) (bE b fun t S b=>?_))))
 refine yC (yCall FN_54 (a1 e0)) (sparseref12_Check_ok S o a) ?_
 rintro _ w ⟨rfl,a⟩
 refine ⟨_,rfl,?_⟩
 refine Ya (iV t) e0 (wK R (sR fun _ T=>Ym (iV t) e0 (yY (yneq e0 rfl) (wK T ?_))))
 rcases iteS b with ⟨z,b⟩ | ⟨z,b⟩
 ·refine condF e0 (nF (dT z)) (wp_skip (N _ _ (seqQ fun c2 U V=>sR fun _ W=>Ym (iV c) e0 (yY (ylss e0 rfl) (Ym (.bool (decide (c < 1))) e0 ?_)))))
  refine joinW 3 (fun f w=>f 1=iV c∧f 2=(pB q)∧f 19=.bool ((decide (c < 1)) || (decide ((200:Int) < c)))∧St w0 ros (box q 26 [d.v]::rs) w) (fun E=>?_) ?_
  ·rcases Bool.eq_false_or_eq_true (decide (c < 1)) with n | n
   ·exact gN n (gN n (yY (pt_ (.bool true) e0 n rfl) (E _ _ ⟨rfl,rfl,(congrArg Value.bool (orT n)),a⟩)))
   ·exact yG n (m_ (iV c) e0) (yG n (ygtr e0 rfl) (yY (pf_ (.bool (decide ((200:Int) < c))) e0 n e0) (E _ _ ⟨rfl,rfl,(congrArg Value.bool (orF n)),a⟩)))
  rintro f w ⟨A,u,X,a⟩
  refine wK W (cB (eh X) b (fun Z b=>?_) fun Z b=>?_)
  ·refine sR fun _ a0=>Ya hnil.v rfl (Ya (iV 1) rfl (wK a0 (wp_ret (V _ _ _ rfl ?_))))
   cases b
   replace a:=a.rowNh 3 I1
   exact s _ _ _ (fin2r Tryz.results30 ⟨rfl,rfl⟩ ⟨rfl,rfl⟩ ⟨_,rfl,(a.pk 2 [0] rfl)⟩)
  ·refine wp_skip (U _ _ (sR fun _ a2=>yY (lbs_ [d.v] ST_26 (eh u) a R0) (bE b fun g a4 b=>yC (yCall FN_28 (a1 e0)) (sparseref18_Separate_ok a4 o a) ?_)))
   rintro _ w ⟨m,l,j,rfl,a⟩
   refine ⟨_,rfl,?_⟩
   refine Ym (.tuple #[.agg #[m.v,l.v,j.v],iV g.2.2.2]) e0 (yY (x_ (.agg #[m.v,l.v,j.v]) e0) (yY (x_ (iV g.2.2.2) e0) (yBb (rAl a ZT_46) fun x w a=>yT (r_stbn (vals':=[m.v,l.v,j.v]) (us:=[m.v,l.v,j.v]) a ST_46 e0 e0 rfl rfl (one_of rfl) rfl) fun w a=>Ya (iV g.2.2.2) e0 (wK a2 (seqQ fun c3 a5 a6=>sR fun _ a7=>yY (yFb FL_26_0 (eh u)) ?_)))))
   refine yY (lb_ d.v O_24 e0 a R4) (yY (yLen SL_24 e0 a (rdI o)) (Ym (iV c) (eh A) (yY (yleq e0 e0) (Ym (.bool (decide ((k.length:Int)≤c))) e0 ?_))))
   refine joinW 5 (fun f w=>f 1=iV c∧f 2=(pB q)∧f 7=(pB x)∧f 35=.bool ((decide ((k.length:Int)≤c)) || (decide ((g.1.length:Int)=0)))∧St w0 ros (box q 26 [d.v]::row 3 I1 m.v g.1::row 3 I1 l.v g.2.1::row 3 I1 j.v g.2.2.1::box x 46 [m.v,l.v,j.v]::rs) w) (fun F=>?_) ?_
   ·rcases Bool.eq_false_or_eq_true (decide ((k.length:Int)≤c)) with h | h
    ·exact gN h (gN h (gN h (gN h (yY (pt_ (.bool true) e0 h rfl) (F _ _ ⟨A,u,rfl,(congrArg Value.bool (orT h)),(a.pk 5 [4,1,1,1,0] rfl)⟩)))))
    ·exact yG h (yFb FL_46_0 e0) (yG h (lb_ m.v O_22 e0 a R0) (yG h (yLen SL_22 e0 a rO1) (yG h (yeql e0 rfl) (yY (pf_ (.bool (decide ((g.1.length:Int)=0))) e0 h e0) (F _ _ ⟨A,u,rfl,(congrArg Value.bool (orF h)),(a.pk 5 [4,1,1,1,0] rfl)⟩)))))
   rintro f w ⟨G,H,B,a8,a⟩
   refine Ym (.bool ((decide ((k.length:Int)≤c)) || (decide ((g.1.length:Int)=0)))) (eh a8) ?_
   refine joinW 5 (fun f w=>f 1=iV c∧f 2=(pB q)∧f 7=(pB x)∧f 41=.bool (((decide ((k.length:Int)≤c)) || (decide ((g.1.length:Int)=0))) || (decide ((g.2.1.length:Int)=0)))∧St w0 ros (box q 26 [d.v]::row 3 I1 m.v g.1::row 3 I1 l.v g.2.1::row 3 I1 j.v g.2.2.1::box x 46 [m.v,l.v,j.v]::rs) w) (fun I=>?_) ?_
   ·rcases Bool.eq_false_or_eq_true ((decide ((k.length:Int)≤c)) || (decide ((g.1.length:Int)=0))) with i | i
    ·exact gN i (gN i (gN i (gN i (yY (pt_ (.bool true) e0 i rfl) (I _ _ ⟨G,H,B,(congrArg Value.bool (orT i)),a⟩)))))
    ·exact yG i (yFb FL_46_1 (eh B)) (yG i (lb_ l.v O_22 e0 a R4) (yG i (yLen SL_22 e0 a rO2) (yG i (yeql e0 rfl) (yY (pf_ (.bool (decide ((g.2.1.length:Int)=0))) e0 i e0) (I _ _ ⟨G,H,B,(congrArg Value.bool (orF i)),a⟩)))))
   rintro f w ⟨C,y,p,a9,a⟩
   refine wK a7 (cB (eh a9) b (fun b0 b=>?_) fun b0 b=>?_)
   ·refine sR fun _ b1=>yY (lbs_ [d.v] ST_26 (eh y) a R0) (bE b fun J b2 b=>yC (yCall FN_63 (a1 e0)) (sparseref16_Exact_ok b2 o a) ?_)
    rintro _ w ⟨K,rfl,a⟩
    refine ⟨_,rfl,?_⟩
    refine yY (x_ K.v e0) (yY (x_ (iV J.2) e0) (Ya K.v e0 (Ya (iV J.2) e0 (wK b1 (wp_ret (a6 _ _ _ rfl ?_))))))
    cases b
    exact s _ _ _ (fin2r Tryz.results30 ⟨rfl,rfl⟩ ⟨rfl,rfl⟩ ⟨_,rfl,(a.pk 6 [0] rfl)⟩)
   ·refine wp_skip (a5 _ _ (sQ fun _ b3=>bE b fun c4 b5 b=>bE b fun c5 b6 b=>bE b fun c7 b7 b=>bE b fun d0 b8 b=>dR [0,0,2,0,15,0,0,64,0,511,1023,0,2048,8191,16383,32767] [4,9,10,13,14,15] 6 folM ?_))
    replace a:=a.drew
    refine Dn [0,1,2,3,5,6,7,8,11,12] [] [4] (yR rfl (lbs_ [d.v] ST_26 (eh y) a R0) (yR rfl (yFb FL_46_0 (eh p)) (yR rfl (lb_ m.v O_22 e0 a R4) (yR rfl (m_ (iV c) (eh C)) (yR rfl (lbs_ [d.v] ST_26 (eh y) a R0) (yR rfl (yFb FL_46_1 (eh p)) (yR rfl (lb_ l.v O_22 e0 a R4) (yR rfl (m_ (iV c) (eh C)) (yR rfl (yFb FL_46_2 (eh p)) (yR rfl (lb_ j.v O_22 e0 a R4) (Rn QSn ?_)))))))))))
    refine Lc1 rfl ?_
    replace a:=(a.pk 2 [1,0] rfl).fz
    refine Lk wn (yCall FN_64 (a3 e0 e0 e0)) (sparseref18_part_ok D b5 (mtF o) F0 a) ?_
    rintro _ w ⟨d1,rfl,a⟩
    refine ⟨_,rfl,?_⟩
    refine Dn [] [5,6,7,8,11,12] [9] (Rn (yS rfl (lbs_ [d.v] ST_26 (eh y) a R1) (yS rfl (yFb FL_46_1 (eh p)) (yS rfl (lb_ l.v O_22 e0 a R4) (yS rfl (m_ (iV c) (eh C)) (yS rfl (yFb FL_46_2 (eh p)) (yS rfl (lb_ j.v O_22 e0 a R4) QSn)))))) ?_)
    refine Lc1 rfl ?_
    replace a:=(a.pk 3 [2,0,0] rfl).fz
    refine Lk wn (yCall FN_64 (a3 e0 e0 e0)) (sparseref18_part_ok D b6 (F_2 o) F0 a) ?_
    rintro _ w ⟨d2,rfl,a⟩
    refine ⟨_,rfl,?_⟩
    refine Dn [] [11,12] [10] (Rn (yS rfl (yFb FL_46_2 (eh p)) (yS rfl (lb_ j.v O_22 e0 a R4) QSn)) ?_)
    refine Lc1 rfl ?_
    replace a:=a.pk 2 [1,0] rfl
    refine LH wn (rAp a SL_22 e0 e0 rO1 b7) fun d3 w a=>Dn [] [11,12] [13] (Rn (yS rfl (yFb FL_46_2 (eh p)) (yS rfl (lb_ j.v O_22 e0 a R4) QSn)) ?_)
    refine Lc1 rfl ?_
    refine LH wn (rAp a SL_22 e0 e0 rO3 b8) fun b9 w a=>Dn [] [] [14] (Rn QSn ?_)
    refine Lc1 rfl ?_
    refine Ly wn (a_ b9.v e0) (Dn [] [] [15] (Rn QSn ?_))
    refine Lc1 rfl ?_
    refine Ly wn (a_ (iV 0) rfl) (Dz [] [] (Rn QSn (b3 _ _ (wp_ret ?_))))
    cases b
    exact s _ _ _ (fin2r Tryz.results30 ⟨rfl,rfl⟩ ⟨rfl,rfl⟩ ⟨_,rfl,((a.pk 5 [0] rfl).facts (allT (allT allI)))⟩)
 ·refine condT e0 (nT (dF z)) (sR fun _ c0=>Ym (iV t) e0 (Ya hnil.v rfl (Ya (iV t) e0 (wK c0 (wp_ret (O _ _ _ rfl ?_))))))
  cases b
  replace a:=a.rowNh 3 I1
  exact s _ _ _ (fin2r Tryz.results30 ⟨rfl,rfl⟩ ⟨rfl,rfl⟩ ⟨_,rfl,(a.pk 2 [0] rfl)⟩)
theorem sparseref18_Order_ok_n (n:Nat):∀ {w0:World} {ros:List Fact} {rs:List Res} {w:World} {b:L2} {c:Int} {d:Hdr} {out:LI×Int} (a:sparseref18_Order n b c=some out) (f:imm S1 d.v b∈ros) (g:St w0 ros rs w),
  Calls Tryz.prog 30 #[.agg #[d.v],iV c] w (fun e w=>∃ (h:Hdr),e=.returned (.tuple #[h.v,iV out.2])∧St w0 ros (row 3 I1 h.v out.1::rs) w):=by
 induction n with
 | zero=>intro _ _ _ _ _ _ _ out a; cases a
 | succ n ih=>exact fun a f g=>sparseref18_Order_step (rec:=sparseref18_Order n) ih a f g
theorem sparseref18_Order_ok {a:L2} {b:Int} {c:Hdr} {out:LI×Int} (f:sparseref18_Order FUEL a b=some out) (g:imm S1 c.v a∈ros) (h:St w0 ros rs w):
  Calls Tryz.prog 30 #[.agg #[c.v],iV b] w (fun e w=>∃ (d:Hdr),e=.returned (.tuple #[d.v,iV out.2])∧St w0 ros (row 3 I1 d.v out.1::rs) w):=sparseref18_Order_ok_n FUEL f g h
theorem sparsekit_Perm_ok {B:LI} {i:Int} {j:Hdr} {out:Bool} (k:sparsekit_Perm B i=some out) (l:imm I1 j.v B∈ros) (b:St w0 ros rs w):
  Calls Tryz.prog 36 #[j.v,iV i] w (fun e w=>e=.returned (.bool out)∧St w0 ros rs w):=by
 refine enterQ Tryz.func36 rfl Tryz.ntmps36 rfl fun Q u=>sR fun _ a0=>Ya (.bool false) rfl (wK a0 (seqQ fun d5 a1 a2=>sR fun _ a3=>Ym j.v e0 (yY (yLen SL_22 e0 b (rdI l)) (Ym (iV i) e0 (yY (yneq e0 e0) (wN ?_))))))
 refine a3 _ _ ?_
 rcases iteS k with ⟨x,k⟩ | ⟨x,k⟩
 ·refine condF e0 (nF (dT x)) (wp_skip (a1 _ _ (sR fun _ a4=>Ym (iV i) e0 (bE k fun d6 a5 k=>yH (rMk b SL_93 e0 a5) fun m w b=>Ya m.v e0 (wK a4 (seqQ fun d7 a6 a7=>sQ fun _ a8=>?_))))))
  refine wR (Ya (iV 0) rfl (wK a8 (blockQ fun C D=>bE k fun E a9 k=>?_)))
  have b0:∀ (f:FV) w,St w0 ros rs w→.inl ()=E→C (.exit 0) (fr 46 f) w:=by
   intro f w b ho
   subst ho
   refine D _ _ _ (a6 _ _ (sR fun _ b1=>Ya (.bool true) rfl (wK b1 (wp_ret ?_))))
   cases k
   exact u _ _ _ (fin1r Tryz.results36 ⟨rfl,rfl⟩ ⟨rfl,b⟩)
  have b2:∀ (f:FV) w,f 4=.bool false→St w0 ros rs w→.inr ()=E→C .ret (fr 46 f) w:=by
   intro f w b3 b ho
   subst ho
   refine D _ _ _ (a7 _ _ _ rfl ?_)
   cases k
   exact u _ _ _ (fin1r Tryz.results36 ⟨rfl,b3⟩ ⟨rfl,b⟩)
  refine loopQ (fun s a w=>∃ (p:List Bool) (h:Int) (f:FV),(p,h)=s∧a=fr 46 f∧f 0=j.v∧f 1=iV i∧f 5=m.v∧f 6=iV h∧St w0 ros (row 4 rB m.v p::rs) w) a9 ⟨_,_,_,rfl,rfl,rfl,rfl,rfl,rfl,b⟩ ?_
  rintro _ _ w d8 ⟨p,h,f,rfl,rfl,r,t,F,q,b⟩ c G d9 b4 H
  refine seqQ fun e1 b5 b6=>sR fun _ b7=>Ym (iV h) (eh q) (Ym (iV i) (eh t) (yY (ylss e0 e0) (wK b7 ?_)))
  refine cIf e0 c (fun b8 c=>?_) fun b8 c=>?_
  ·refine wp_skip (b5 _ _ (seqQ fun e2 b9 c0=>blockQ fun _ I=>seqQ fun e3 c1 c2=>sR fun _ c3=>Ym j.v (eh r) (Ym (iV h) (eh q) (bE c fun c5 J c=>yY (yIa SL_22 e0 e0 b (rdI l) J) (yY (yI O_3 e0 b (rdI l) J) (yY (ylss e0 rfl) (Ym (.bool (decide (c5 < 0))) e0 ?_)))))))
   refine bE c fun K o c=>?_
   refine joinW 7 (fun f w=>f 0=j.v∧f 1=iV i∧f 5=m.v∧f 6=iV h∧f 30=.bool K∧St w0 ros (row 4 rB m.v p::rs) w) (fun L=>?_) ?_
   ·rcases iteS o with ⟨g,o⟩ | ⟨g,o⟩
    ·refine gN (dT g) (gN (dT g) (gN (dT g) (gN (dT g) (gN (dT g) (gN (dT g) (yY (pt_ (.bool true) e0 (dT g) rfl) ?_))))))
     cases o
     exact L _ _ ⟨r,t,F,q,rfl,b⟩
    ·refine yG (dF g) (m_ j.v (eh r)) (yG (dF g) (m_ (iV h) (eh q)) (bE o fun c6 N o=>yG (dF g) (yIa SL_22 e0 e0 b (rdI l) N) (yG (dF g) (yI O_3 e0 b (rdI l) N) (yG (dF g) (m_ (iV i) (eh t)) (yG (dF g) (ygeq e0 e0) (yY (pf_ (.bool (decide (i≤c6))) e0 (dF g) e0) ?_))))))
     cases o
     exact L _ _ ⟨r,t,F,q,rfl,b⟩
   rintro f w ⟨y,O,z,A,c7,b⟩
   refine Ym (.bool K) (eh c7) (bE c fun c8 n c=>?_)
   refine joinW 8 (fun f w=>f 0=j.v∧f 1=iV i∧f 5=m.v∧f 6=iV h∧f 39=.bool c8∧St w0 ros (row 4 rB m.v p::rs) w) (fun R=>?_) ?_
   ·rcases iteS n with ⟨d,n⟩ | ⟨d,n⟩
    ·refine gN d (gN d (gN d (gN d (gN d (gN d (gN d (yY (pt_ (.bool true) e0 d rfl) ?_)))))))
     cases n
     exact R _ _ ⟨y,O,z,A,rfl,b⟩
    ·refine yG (bfalse d) (m_ m.v (eh z)) (yG (bfalse d) (m_ j.v (eh y)) (yG (bfalse d) (m_ (iV h) (eh A)) (bE n fun e4 S n=>yG (bfalse d) (yIa SL_22 e0 e0 b (rdI l) S) (yG (bfalse d) (yI O_3 e0 b (rdI l) S) (bE n fun c9 T n=>yG (bfalse d) (yIa SL_93 e0 e0 b rO0 T) (yG (bfalse d) (yB O_4 e0 b rO0 T) (yY (pf_ (.bool c9) e0 (bfalse d) e0) ?_)))))))
     cases n
     exact R _ _ ⟨y,O,z,A,rfl,b⟩
   rintro f w ⟨U,d0,V,W,d1,b⟩
   refine wK c3 (cB (eh d1) c (fun d2 c=>?_) fun d2 c=>?_)
   ·refine sR fun _ d3=>Ya (.bool false) rfl (wK d3 (wp_ret (c2 _ _ _ rfl (I _ _ _ (c0 _ _ _ rfl ?_)))))
    cases c
    exact H _ _ _ _ rfl rfl (b2 _ _ rfl (b.pk 1 [] rfl) (G _ rfl))
   ·refine wp_skip (c1 _ _ (wR (Ym m.v (eh V) (Ym j.v (eh U) (Ym (iV h) (eh W) (bE c fun e5 X c=>yY (yIa SL_22 e0 e0 b (rdI l) X) (yY (yI O_3 e0 b (rdI l) X) (bE c fun e6 Z c=>yY (yIs SL_93 e0 e0 b rO0 Z) (yT (r_sti (cs:=[.bool true]) b O_4 rfl e0 rfl rfl mkB Z) fun w b=>wN ?_)))))))))
    refine I _ _ _ (b9 _ _ (wR (Ym (iV h) (eh W) (yY (yadd e0 rfl) (Ya (iV (wa .i64 h 1)) e0 (wN ?_))))))
    cases c
    exact b4 _ _ _ rfl ⟨_,_,_,rfl,rfl,U,d0,V,rfl,b⟩
  ·refine wp_exit (b6 _ _ _ rfl ?_)
   cases c
   exact H _ _ _ _ rfl rfl (b0 _ _ (b.pk 1 [] rfl) (G _ rfl))
 ·refine condT e0 (nT (dF x)) (sR fun _ d4=>Ya (.bool false) rfl (wK d4 (wp_ret (a2 _ _ _ rfl ?_))))
  cases k
  exact u _ _ _ (fin1r Tryz.results36 ⟨rfl,rfl⟩ ⟨rfl,b⟩)
theorem sparselaw18_DissectOrders_ok {J:Int} {R:LI} {K:Int} {H:Hdr} {out:Bool} (b:sparselaw18_DissectOrders J R K=some out) (g6:out=true) (S:imm I1 H.v R∈ros) (a:St w0 ros rs w):
  Calls Tryz.prog 6 #[iV J,H.v,iV K] w (fun e w=>e=.returned (.bool out)∧St w0 ros rs w):=by
 refine enterQ Tryz.func6 rfl Tryz.ntmps6 rfl fun Q T=>sR fun _ b9=>Ya (.bool false) rfl (wK b9 (seqQ fun g7 c0 c1=>sR fun _ c2=>Ym H.v e0 (yY (yLen SL_22 e0 a (rdI S)) (yY (ygtr e0 rfl) (wK c2 ?_)))))
 refine cIf e0 b (fun c3 b=>?_) fun c3 b=>?_
 ·refine sR fun _ c4=>bE b fun c6 c7 b=>yC (yCall FN_8 a0) (sparselaw18_awake_ok c7 a) ?_
  rintro _ w ⟨rfl,a⟩
  refine ⟨_,rfl,?_⟩
  refine Ya (.bool c6) e0 (wK c4 (wp_ret (c1 _ _ _ rfl ?_)))
  cases b
  exact T _ _ _ (fin1r Tryz.results6 ⟨rfl,rfl⟩ ⟨rfl,a⟩)
 ·refine wp_skip (c0 _ _ (sR fun _ c8=>Ym (iV J) e0 (bE b fun D c9 b=>yC (yCall FN_10 (a2 e0 rfl)) (sparsekit_Place_ok c9 a) ?_)))
  rintro _ w ⟨rfl,a⟩
  refine ⟨_,rfl,?_⟩
  refine Ya (iV D) e0 (wK c8 (sR fun _ d0=>Ym (iV K) e0 (bE b fun L d1 b=>yC (yCall FN_10 (a2 e0 rfl)) (sparsekit_Place_ok d1 a) ?_)))
  rintro _ w ⟨rfl,a⟩
  refine ⟨_,rfl,?_⟩
  refine yY (yadd rfl e0) (Ya (iV (wa .i64 1 L)) e0 (wK d0 (sR fun _ d2=>Ym (iV D) e0 (Ym H.v e0 (bE b fun I d3 b=>yC (yCall FN_35 (a2 e0 e0)) (sparsemake_Graph_ok d3 S a) ?_)))))
  rintro _ w ⟨d,rfl,a⟩
  refine ⟨_,rfl,?_⟩
  refine yBb (rAl a ZT_26) fun q w a=>yT (r_stbn (vals':=[d.v]) (us:=[d.v]) a ST_26 e0 e0 rfl rfl (one_of rfl) rfl) fun w a=>wK d2 (sR fun _ d4=>yY (lbs_ [d.v] ST_26 e0 a R0) (bE b fun c d5 b=>?_))
  replace a:=(a.pk 2 [1,0] rfl).fz
  refine yC (yCall FN_27 (a1 e0)) (dissect_Separate_ok d5 F0 a) ?_
  rintro _ w ⟨g,h,i,rfl,a⟩
  refine ⟨_,rfl,?_⟩
  refine Ym (.tuple #[.agg #[g.v,h.v,i.v],iV c.2.2.2]) e0 (yY (x_ (.agg #[g.v,h.v,i.v]) e0) (yY (x_ (iV c.2.2.2) e0) (yBb (rAl a ZT_46) fun r w a=>yT (r_stbn (vals':=[g.v,h.v,i.v]) (us:=[g.v,h.v,i.v]) a ST_46 e0 e0 rfl rfl (one_of rfl) rfl) fun w a=>Ya (iV c.2.2.2) e0 (wK d4 (sR fun _ d6=>yY (lbs_ [d.v] ST_26 e0 a R4) (bE b fun E d7 b=>?_))))))
  refine yC (yCall FN_28 (a1 e0)) (sparseref18_Separate_ok d7 F0 a) ?_
  rintro _ w ⟨t,u,x,rfl,a⟩
  refine ⟨_,rfl,?_⟩
  refine Ym (.tuple #[.agg #[t.v,u.v,x.v],iV E.2.2.2]) e0 (yY (x_ (.agg #[t.v,u.v,x.v]) e0) (yY (x_ (iV E.2.2.2) e0) (yBb (rAl a ZT_46) fun U w a=>yT (r_stbn (vals':=[t.v,u.v,x.v]) (us:=[t.v,u.v,x.v]) a ST_46 e0 e0 rfl rfl (one_of rfl) rfl) fun w a=>Ya (iV E.2.2.2) e0 (wK d6 (sR fun _ d8=>yY (lbs_ [d.v] ST_26 e0 a R8) (Ym (iV (wa .i64 1 L)) e0 ?_))))))
  refine bE b fun l d9 b=>yC (yCall FN_29 (a2 e0 e0)) (dissect_Order_ok d9 F0 a) ?_
  rintro _ w ⟨j,rfl,a⟩
  refine ⟨_,rfl,?_⟩
  refine Ym (.tuple #[j.v,iV l.2]) e0 (yY (x_ j.v e0) (yY (x_ (iV l.2) e0) (Ya j.v e0 (Ya (iV l.2) e0 (wK d8 (sR fun _ e1=>yY (lbs_ [d.v] ST_26 e0 a R9) (Ym (iV (wa .i64 1 L)) e0 (bE b fun F e2 b=>yC (yCall FN_30 (a2 e0 e0)) (sparseref18_Order_ok e2 F0 a) ?_))))))))
  rintro _ w ⟨s,rfl,a⟩
  refine ⟨_,rfl,?_⟩
  refine Ym (.tuple #[s.v,iV F.2]) e0 (yY (x_ s.v e0) (yY (x_ (iV F.2) e0) (Ya s.v e0 (Ya (iV F.2) e0 (wK e1 (sR fun _ e3=>Ym (iV c.2.2.2) e0 (yY (yeql e0 rfl) (Ym (.bool (decide (c.2.2.2=0))) e0 ?_))))))))
  refine joinW 3 (fun f w=>f 0=iV D∧f 7=(pB q)∧f 8=(pB r)∧f 10=(pB U)∧f 12=j.v∧f 14=s.v∧f 55=.bool ((decide (c.2.2.2=0)) && (decide (l.2=0)))∧St w0 (imm S1 d.v I::ros) (box q 26 [d.v]::row 3 I1 g.v c.1::row 3 I1 h.v c.2.1::row 3 I1 i.v c.2.2.1::box r 46 [g.v,h.v,i.v]::row 3 I1 t.v E.1::row 3 I1 u.v E.2.1::row 3 I1 x.v E.2.2.1::box U 46 [t.v,u.v,x.v]::row 3 I1 j.v l.1::row 3 I1 s.v F.1::rs) w) (fun V=>?_) ?_
  ·rcases Bool.eq_false_or_eq_true (decide (c.2.2.2=0)) with m | m
   ·exact yG m (m_ (iV l.2) e0) (yG m (yeql e0 rfl) (yY (pt_ (.bool (decide (l.2=0))) e0 m e0) (V _ _ ⟨rfl,rfl,rfl,rfl,rfl,rfl,(congrArg Value.bool (andT m)),(a.pk 11 [10,7,7,7,6,3,3,3,2,1,0] rfl)⟩)))
   ·exact gN m (gN m (yY (pf_ (.bool false) e0 m rfl) (V _ _ ⟨rfl,rfl,rfl,rfl,rfl,rfl,(congrArg Value.bool (andF m)),(a.pk 11 [10,7,7,7,6,3,3,3,2,1,0] rfl)⟩)))
  rintro f w ⟨W,X,N,e4,Z,a3,e5,a⟩
  refine Ym (.bool ((decide (c.2.2.2=0)) && (decide (l.2=0)))) (eh e5) (bE b fun a4 y b=>?_)
  refine joinW 4 (fun f w=>f 0=iV D∧f 7=(pB q)∧f 8=(pB r)∧f 12=j.v∧f 14=s.v∧f 60=.bool a4∧St w0 (imm S1 d.v I::imm I1 g.v c.1::imm I1 h.v c.2.1::imm I1 i.v c.2.2.1::ros) (box q 26 [d.v]::box r 46 [g.v,h.v,i.v]::row 3 I1 j.v l.1::row 3 I1 s.v F.1::rs) w) (fun a5=>?_) ?_
  ·rcases iteS y with ⟨n,y⟩ | ⟨n,y⟩
   ·refine yG n (lbs_ [g.v,h.v,i.v] ST_46 (eh N) a R4) (yG n (lbs_ [t.v,u.v,x.v] ST_46 (eh e4) a R8) (bE y fun e6 e7 y=>?_))
    replace a:=(((((((((((a.pk 2 [1,0] rfl).fz).pk 2 [1,0] rfl).fz).pk 2 [1,0] rfl).fz).pk 3 [2,0,0] rfl).fz).pk 3 [2,0,0] rfl).fz).pk 3 [2,0,0] rfl).fz
    refine Yc (wG n) rfl (yCall FN_31 (a2 e0 e0)) (sparsekit_Split_ok e7 F5 F4 F3 F2 F1 F0 a) ?_
    rintro _ w ⟨rfl,a⟩
    refine ⟨_,rfl,?_⟩
    refine yY (pt_ (.bool e6) e0 n e0) ?_
    cases y
    exact a5 _ _ ⟨W,X,N,Z,a3,rfl,((a.pk 5 [0,0,1,1] rfl).facts (allC F6 (allC F5 (allC F4 (allC F3 (allT (allT (allT (allT (allT (allT (allT allI))))))))))))⟩
   ·refine gN (bfalse n) (gN (bfalse n) (gN (bfalse n) (yY (pf_ (.bool false) e0 (bfalse n) rfl) ?_)))
    cases y
    replace a:=(((((a.pk 2 [1,0] rfl).fz).pk 2 [1,0] rfl).fz).pk 2 [1,0] rfl).fz
    exact a5 _ _ ⟨W,X,N,Z,a3,rfl,((a.pk 8 [0,0,4,4] rfl).facts (allC F3 (allC F2 (allC F1 (allC F0 (allT (allT (allT (allT allI)))))))))⟩
  rintro f w ⟨a6,a7,a8,O,e8,e9,a⟩
  refine Ym (.bool a4) (eh e9) (bE b fun a9 z b=>?_)
  refine joinW 4 (fun f w=>f 0=iV D∧f 7=(pB q)∧f 8=(pB r)∧f 12=j.v∧f 65=.bool a9∧St w0 (imm S1 d.v I::imm I1 g.v c.1::imm I1 h.v c.2.1::imm I1 i.v c.2.2.1::imm I1 j.v l.1::ros) (box q 26 [d.v]::box r 46 [g.v,h.v,i.v]::rs) w) (fun b0=>?_) ?_
  ·rcases iteS z with ⟨o,z⟩ | ⟨o,z⟩
   ·refine yG o (m_ j.v (eh O)) (yG o (m_ s.v (eh e8)) (bE z fun f0 f1 z=>?_))
    replace a:=(((a.pk 3 [2,0,0] rfl).fz).pk 3 [2,0,0] rfl).fz
    refine Yc (wG o) rfl (yCall FN_13 (a2 e0 e0)) (sparsekit_Ints_ok f1 F1 F0 a) ?_
    rintro _ w ⟨rfl,a⟩
    refine ⟨_,rfl,?_⟩
    refine yY (pt_ (.bool f0) e0 o e0) ?_
    cases z
    exact b0 _ _ ⟨a6,a7,a8,O,rfl,(a.facts (allC F2 (allC F3 (allC F4 (allC F5 (allC F1 (allT (allT (allT (allT (allT (allT allI))))))))))))⟩
   ·refine gN (bfalse o) (gN (bfalse o) (gN (bfalse o) (yY (pf_ (.bool false) e0 (bfalse o) rfl) ?_)))
    cases z
    replace a:=(a.pk 3 [2,0,0] rfl).fz
    exact b0 _ _ ⟨a6,a7,a8,O,rfl,((a.pk 3 [0,0] rfl).facts (allC F1 (allC F2 (allC F3 (allC F4 (allC F0 (allT (allT (allT (allT (allT allI)))))))))))⟩
  rintro f w ⟨f2,b1,b2,f3,f4,a⟩
  refine Ym (.bool a9) (eh f4) (bE b fun b3 A b=>?_)
  refine joinW 4 (fun f w=>f 7=(pB q)∧f 8=(pB r)∧f 70=.bool b3∧St w0 (imm S1 d.v I::imm I1 g.v c.1::imm I1 h.v c.2.1::imm I1 i.v c.2.2.1::ros) (box q 26 [d.v]::box r 46 [g.v,h.v,i.v]::rs) w) (fun b4=>?_) ?_
  ·rcases iteS A with ⟨p,A⟩ | ⟨p,A⟩
   ·refine yG p (m_ j.v (eh f3)) (yG p (m_ (iV D) (eh f2)) (bE A fun f5 f6 A=>Yc (wG p) rfl (yCall FN_36 (a2 e0 e0)) (sparsekit_Perm_ok f6 F4 a) ?_))
    rintro _ w ⟨rfl,a⟩
    refine ⟨_,rfl,?_⟩
    refine yY (pt_ (.bool f5) e0 p e0) ?_
    cases A
    exact b4 _ _ ⟨b1,b2,rfl,(a.facts (allC F0 (allC F1 (allC F2 (allC F3 (allT (allT (allT (allT (allT allI))))))))))⟩
   ·refine gN (bfalse p) (gN (bfalse p) (gN (bfalse p) (yY (pf_ (.bool false) e0 (bfalse p) rfl) ?_)))
    cases A
    exact b4 _ _ ⟨b1,b2,rfl,(a.facts (allC F0 (allC F1 (allC F2 (allC F3 (allT (allT (allT (allT (allT allI))))))))))⟩
  rintro f w ⟨f7,f8,f9,a⟩
  refine Ym (.bool b3) (eh f9) (bE b fun b5 B b=>?_)
  refine joinW 5 (fun f w=>f 76=.bool b5∧St w0 ros rs w) (fun b6=>?_) ?_
  ·rcases iteS B with ⟨k,B⟩ | ⟨k,B⟩
   ·refine yG k (lbs_ [d.v] ST_26 (eh f7) a R0) (yG k (lbs_ [g.v,h.v,i.v] ST_46 (eh f8) a R1) (bE B fun g0 g1 B=>Yc (wG k) rfl (yCall FN_32 (a2 e0 e0)) (dissect_Check_ok g1 F0 F1 F2 F3 a) ?_))
    rintro _ w ⟨rfl,a⟩
    refine ⟨_,rfl,?_⟩
    refine yG k (yeql e0 rfl) (yY (pt_ (.bool (decide (g0=0))) e0 k e0) ?_)
    cases B
    exact b6 _ _ ⟨rfl,((a.pk 2 [] rfl).facts (allT (allT (allT (allT allI)))))⟩
   ·refine gN (bfalse k) (gN (bfalse k) (gN (bfalse k) (gN (bfalse k) (yY (pf_ (.bool false) e0 (bfalse k) rfl) ?_))))
    cases B
    exact b6 _ _ ⟨rfl,((a.pk 2 [] rfl).facts (allT (allT (allT (allT allI)))))⟩
  rintro f w ⟨g2,a⟩
  refine Ym (.bool b5) (eh g2) (bE b fun b7 C b=>?_)
  refine joinW 2 (fun f w=>f 79=.bool b7∧St w0 ros rs w) (fun b8=>?_) ?_
  ·rcases iteS C with ⟨G,C⟩ | ⟨G,C⟩
   ·refine bE C fun g3 g4 C=>Yc (wG G) rfl (yCall FN_8 a0) (sparselaw18_awake_ok g4 a) ?_
    rintro _ w ⟨rfl,a⟩
    refine ⟨_,rfl,?_⟩
    refine yY (pt_ (.bool g3) e0 G e0) ?_
    cases C
    exact b8 _ _ ⟨rfl,a⟩
   ·refine gN (bfalse G) (yY (pf_ (.bool false) e0 (bfalse G) rfl) ?_)
    cases C
    exact b8 _ _ ⟨rfl,a⟩
  rintro f w ⟨g5,a⟩
  refine Ya (.bool b7) (eh g5) (wK e3 (wp_ret ?_))
  cases b
  exact T _ _ _ (fin1r Tryz.results6 ⟨rfl,rfl⟩ ⟨rfl,a⟩)
end Go.Proofs.YthpeajepbffinaaGreat
