/- Walks: each function computes its model, printed. -/
import Derived.Test.YtpfmbaidflhamaaGreatDoorW3
namespace Go.Proofs.YtpfmbaidflhamaaGreatDoor
open Go Sx M
set_option maxRecDepth 100000
set_option maxHeartbeats 40000000
set_option linter.unusedVariables false
attribute [local irreducible] wpList Code.wp Calls DR QR QS LA LS St
variable {w0:World} {ros:List Fact} {rs:List Res} {w:World}
theorem integer_Format_ok {h:Bool} {A:LI} {i:Hdr} {out:ByteArray} (c:integer_Format h A=some out) (H:imm (rI .u32) i.v A∈ros) (b:St w0 ros rs w):
  Calls Tryz.prog 45 #[.agg #[.bool h,i.v]] w (fun e w=>e=.returned (.string out)∧St w0 ros rs w):=by
 refine enterQ Tryz.func45 rfl Tryz.ntmps45 rfl fun Q B=>sR fun _ I=>yBb (r_box (vals:=[.bool h,i.v]) b e0 rfl) fun k w b=>Ya (.string (⟨#[]⟩:ByteArray)) rfl (wK I (sR fun _ J=>yY (yFb FL_31_1 e0) (yY (lb_ i.v O_29 e0 b R0) (bE c fun e3 K c=>yC (yCall FN_73 (a1 e0)) (integer_trim_ok K H b) ?_))))
 rintro _ w ⟨e4,rfl,b⟩
 refine ⟨_,rfl,?_⟩
 refine bE c fun e5 L c=>yC (yCall FN_92 (a1 e0)) (slices_Clone_uint32_ok L F0 b) ?_
 rintro _ w ⟨N,rfl,b⟩
 refine ⟨_,rfl,?_⟩
 refine Ya N.v e0 (wK J (sR fun _ O=>Ya hnil.v rfl (wK O (sQ fun _ R=>blockQ fun S T=>bE c fun U V c=>?_))))
 have W:∀ (u:List ByteArray) (p:Hdr) (f:FV) w,f 1=(pB k)→f 4=p.v→St w0 ros (box k 31 [.bool h,i.v]::row 9 rG p.v u::rs) w→u=U→S (.exit 0) (fr 49 f) w:=by
  intro u p f w X x b ho
  subst ho
  refine T _ _ _ (R _ _ (seqQ fun e6 Z a0=>sR fun _ a3=>Ym p.v (eh x) (yY (yLen SL_110 e0 b rO1) (yY (yeql e0 rfl) (wK a3 ?_)))))
  refine cIf e0 c (fun a4 c=>?_) fun a4 c=>?_
  ·refine sR fun _ a5=>Ya (.string (⟨#[48]⟩:ByteArray)) rfl (wK a5 (wp_ret (a0 _ _ _ rfl ?_)))
   cases c
   exact B _ _ _ (fin1r Tryz.results45 ⟨rfl,rfl⟩ ⟨rfl,(b.k14)⟩)
  ·refine wp_skip (Z _ _ (sQ fun a6 a7=>sR fun _ a8=>yY (yFb FL_31_0 (eh X)) (yY (lb_ (.bool h) O_4 e0 b R0) (wK a8 ?_))))
   have C:∀ (y:List ByteArray) (q:Hdr) (f:FV) w,f 4=q.v→St w0 ros (row 9 rG q.v y::rs) w→integer_Format_j4 y=some out→a6 .normal (fr 49 f) w:=by
    intro y q f w D b c
    refine a7 _ _ (sR fun _ a9=>Ym q.v (eh D) (bE c fun e7 b0 c=>yC (yCall FN_97 (a1 e0)) (slices_Reverse_string_ok b0 b) ?_))
    rintro _ w ⟨rfl,b⟩
    refine ⟨_,rfl,?_⟩
    refine wK a9 (sR fun _ b1=>Ym q.v (eh D) (bE c fun b2 b3 c=>?_))
    replace b:=b.fz
    refine yC (yCall FN_98 (a2 e0 rfl)) (joinG_ok b3 F0 b) ?_
    rintro _ w ⟨rfl,b⟩
    refine ⟨_,rfl,?_⟩
    refine Ya (.string b2) e0 (wK b1 (wp_ret ?_))
    cases c
    exact B _ _ _ (fin1r Tryz.results45 ⟨rfl,rfl⟩ ⟨rfl,(b.facts (allT allI))⟩)
   refine cB e0 c (fun b5 c=>?_) fun b5 c=>?_
   ·exact wR (Ym p.v (eh x) (yH (rLt (n:=1) (l:=[(⟨#[45]⟩:ByteArray)]) b SL_110 [.string (⟨#[45]⟩:ByteArray)] (bp1 rfl) rfl rfl (mks1 (cs:=[.string (⟨#[45]⟩:ByteArray)]) rfl mkG mks0)) fun e8 w b=>bE c fun e9 b6 c=>yH (rAp (b.k1f) SL_110 e0 e0 rO1 b6) fun b7 w b=>Ya b7.v e0 (wN (C _ _ _ _ rfl (b.k2a) c))))
   ·exact wp_skip (C _ _ _ _ x (b.k13) c)
 replace b:=b.fz.rowNh 9 rG
 refine loopQ (fun s a w=>∃ (z:LI) (r:List ByteArray) (f:FV) (t m:Hdr),(z,r)=s∧a=fr 49 f∧f 1=(pB k)∧f 3=t.v∧f 4=m.v∧St w0 (imm (rI .u32) t.v z::ros) (box k 31 [.bool h,i.v]::row 9 rG m.v r::rs) w) V ⟨_,_,_,_,_,rfl,rfl,rfl,rfl,rfl,((b.k11).facts (allC F0 (allT (allT allI))))⟩ ?_
 rintro _ _ w b8 ⟨z,r,f,t,m,rfl,rfl,E,F,G,b⟩ d b9 f0 c0 c1
 refine seqQ fun f1 c2 c3=>sR fun _ c4=>Ym t.v (eh F) (yY (yLen SL_29 e0 b (rdI F0)) (yY (ygtr e0 rfl) (wK c4 ?_)))
 refine cIf e0 d (fun c5 d=>?_) fun c5 d=>?_
 ·refine wp_skip (c2 _ _ (blockQ fun _ c6=>sR fun _ c7=>Ym t.v (eh F) (bE d fun o c8 d=>yC (yCall FN_94 (a2 e0 rfl)) (integer_short_ok c8 F0 b) ?_)))
  rintro _ w ⟨g,rfl,b⟩
  refine ⟨_,rfl,?_⟩
  refine Ym (.tuple #[g.v,.int .u32 o.2]) e0 (yY (x_ g.v e0) (yY (x_ (.int .u32 o.2) e0) (Ya g.v e0 (Ya (.int .u32 o.2) e0 (wK c7 (sR fun _ c9=>Ym (.int .u32 o.2) e0 (yY (ycv (k':=.i64) (by kernel_rfl) (by kernel_rfl) e0) (bE d fun j d0 d=>yC (yCall FN_95 (a1 e0)) (itoaG_ok d0 b) ?_))))))))
  rintro _ w ⟨rfl,b⟩
  refine ⟨_,rfl,?_⟩
  refine Ya (.string j) e0 (wK c9 (sQ fun d1 d2=>sR fun _ d3=>Ym g.v e0 (yY (yLen SL_29 e0 b (rdI F0)) (yY (ygtr e0 rfl) (wK d3 ?_)))))
  have d4:∀ (f:FV) w,f 1=(pB k)→f 4=m.v→f 5=g.v→f 7=.string j→St w0 (imm (rI .u32) g.v o.1::ros) (box k 31 [.bool h,i.v]::row 9 rG m.v r::rs) w→integer_Format_j5 r j o=some b8→d1 .normal (fr 49 f) w:=by
   intro f w d5 d6 d7 d8 b c
   refine d2 _ _ (wR (Ym m.v (eh d6) (Ym (.string j) (eh d8) (yH (rLt (n:=1) (l:=[j]) b SL_110 [.string j] (bp1 e0) rfl rfl (mks1 (cs:=[.string j]) rfl mkG mks0)) fun f2 w b=>bE c fun f3 d9 c=>yH (rAp (b.k1f) SL_110 e0 e0 rO1 d9) fun e1 w b=>Ym g.v (eh d7) (Ya e1.v e0 (Ya g.v e0 (wN (c6 _ _ _ ?_))))))))
   cases c
   exact c0 _ _ _ rfl ⟨_,_,_,_,_,rfl,rfl,d5,rfl,rfl,(b.k2d)⟩
  refine cIf e0 d (fun e2 d=>?_) fun e2 d=>?_
  ·cases d
  ·exact wp_skip (d4 _ _ E G rfl rfl (b.facts (allC F0 (allT (allT allI)))) d)
 ·refine wp_exit (c3 _ _ _ rfl ?_)
  cases d
  exact c1 _ _ _ _ rfl rfl (W _ _ _ _ E G (b.facts (allT allI)) (b9 _ rfl))
theorem sparselaw08_awake_ok {out:Bool} (c:sparselaw08_awake=some out) (a:St w0 ros rs w):
  Calls Tryz.prog 10 #[] w (fun e w=>e=.returned (.bool out)∧St w0 ros rs w):=by
 refine enterQ Tryz.func10 rfl Tryz.ntmps10 rfl fun Q d7=>sR fun _ d8=>Ya (.bool false) rfl (wK d8 (sR fun _ d9=>bE c fun y e1 c=>yC (yCall FN_50 (a1 rfl)) (sparselaw08_num_ok e1 a) ?_))
 rintro _ w ⟨K,rfl,a⟩
 refine ⟨_,rfl,?_⟩
 refine bE c fun z e2 c=>yC (yCall FN_50 (a1 rfl)) (sparselaw08_num_ok e2 a) ?_
 rintro _ w ⟨L,rfl,a⟩
 refine ⟨_,rfl,?_⟩
 refine yH (rLt (n:=2) (l:=[(y.1,y.2),(z.1,z.2)]) (((a.k11).fz).fz) SL_32 [.agg #[.bool y.1,K.v],.agg #[.bool z.1,L.v]] (bp2 e0 e0) rfl rfl (mks1 (cs:=[.bool y.1,K.v]) rfl (mkP mkB (mkS F1)) (mks1 (cs:=[.bool z.1,L.v]) rfl (mkP mkB (mkS F0)) mks0))) fun N w a=>bE c fun A e3 c=>yC (yCall FN_50 (a1 rfl)) (sparselaw08_num_ok e3 a) ?_
 rintro _ w ⟨O,rfl,a⟩
 refine ⟨_,rfl,?_⟩
 refine bE c fun B e4 c=>yC (yCall FN_50 (a1 rfl)) (sparselaw08_num_ok e4 a) ?_
 rintro _ w ⟨R,rfl,a⟩
 refine ⟨_,rfl,?_⟩
 refine yH (rLt (n:=2) (l:=[(A.1,A.2),(B.1,B.2)]) (((a.k11).fz).fz) SL_32 [.agg #[.bool A.1,O.v],.agg #[.bool B.1,R.v]] (bp2 e0 e0) rfl rfl (mks1 (cs:=[.bool A.1,O.v]) rfl (mkP mkB (mkS F1)) (mks1 (cs:=[.bool B.1,R.v]) rfl (mkP mkB (mkS F0)) mks0))) fun S w a=>yH (rLt (n:=2) (l:=[[(y.1,y.2),(z.1,z.2)],[(A.1,A.2),(B.1,B.2)]]) (((a.k11).fz).fz) SL_22 [N.v,S.v] (bp2 e0 e0) rfl rfl (mks1 (cs:=[N.v]) rfl (mkS F1) (mks1 (cs:=[S.v]) rfl (mkS F0) mks0))) fun T w a=>Ya T.v e0 (wK d9 (sR fun _ e5=>Ym T.v e0 (bE c fun H e6 c=>yC (yCall FN_50 (a1 rfl)) (sparselaw08_num_ok e6 a) ?_)))
 rintro _ w ⟨U,rfl,a⟩
 refine ⟨_,rfl,?_⟩
 refine bE c fun I e7 c=>yC (yCall FN_50 (a1 rfl)) (sparselaw08_num_ok e7 a) ?_
 rintro _ w ⟨V,rfl,a⟩
 refine ⟨_,rfl,?_⟩
 refine yH (rLt (n:=2) (l:=[(H.1,H.2),(I.1,I.2)]) (((a.k11).fz).fz) SL_32 [.agg #[.bool H.1,U.v],.agg #[.bool I.1,V.v]] (bp2 e0 e0) rfl rfl (mks1 (cs:=[.bool H.1,U.v]) rfl (mkP mkB (mkS F1)) (mks1 (cs:=[.bool I.1,V.v]) rfl (mkP mkB (mkS F0)) mks0))) fun i5 w a=>bE c fun d e8 c=>?_
 replace a:=((a.k11).fz).fz
 refine yC (yCall FN_19 (a2 e0 e0)) (exact_Solve_ok e8 F1 F0 a) ?_
 rintro _ w ⟨m,j,rfl,a⟩
 refine ⟨_,rfl,?_⟩
 refine Ym (.tuple #[m.v,.agg #[.bool d.2.1,j.v],iV d.2.2.2]) e0 (yY (x_ m.v e0) (yY (x_ (.agg #[.bool d.2.1,j.v]) e0) (yY (x_ (iV d.2.2.2) e0) (yBb (rAl a ZT_31) fun C w a=>Ya m.v e0 (yT (r_stbn (vals':=[.bool d.2.1,j.v]) (us:=[.bool d.2.1,j.v]) a ST_31 e0 e0 rfl rfl (one_of rfl) rfl) fun w a=>Ya (iV d.2.2.2) e0 (wK e5 (sR fun _ e9=>?_)))))))
 refine bE c fun D f0 c=>yC (yCall FN_50 (a1 rfl)) (sparselaw08_num_ok f0 a) ?_
 rintro _ w ⟨W,rfl,a⟩
 refine ⟨_,rfl,?_⟩
 refine bE c fun E f1 c=>yC (yCall FN_50 (a1 rfl)) (sparselaw08_num_ok f1 a) ?_
 rintro _ w ⟨X,rfl,a⟩
 refine ⟨_,rfl,?_⟩
 refine yH (rLt (n:=2) (l:=[(D.1,D.2),(E.1,E.2)]) (((a.k11).fz).fz) SL_32 [.agg #[.bool D.1,W.v],.agg #[.bool E.1,X.v]] (bp2 e0 e0) rfl rfl (mks1 (cs:=[.bool D.1,W.v]) rfl (mkP mkB (mkS F1)) (mks1 (cs:=[.bool E.1,X.v]) rfl (mkP mkB (mkS F0)) mks0))) fun Z w a=>bE c fun F f2 c=>yC (yCall FN_50 (a1 rfl)) (sparselaw08_num_ok f2 a) ?_
 rintro _ w ⟨a0,rfl,a⟩
 refine ⟨_,rfl,?_⟩
 refine bE c fun G f3 c=>yC (yCall FN_50 (a1 rfl)) (sparselaw08_num_ok f3 a) ?_
 rintro _ w ⟨a3,rfl,a⟩
 refine ⟨_,rfl,?_⟩
 refine yH (rLt (n:=2) (l:=[(F.1,F.2),(G.1,G.2)]) (((a.k11).fz).fz) SL_32 [.agg #[.bool F.1,a0.v],.agg #[.bool G.1,a3.v]] (bp2 e0 e0) rfl rfl (mks1 (cs:=[.bool F.1,a0.v]) rfl (mkP mkB (mkS F1)) (mks1 (cs:=[.bool G.1,a3.v]) rfl (mkP mkB (mkS F0)) mks0))) fun a4 w a=>yH (rLt (n:=2) (l:=[[(D.1,D.2),(E.1,E.2)],[(F.1,F.2),(G.1,G.2)]]) (((a.k11).fz).fz) SL_22 [Z.v,a4.v] (bp2 e0 e0) rfl rfl (mks1 (cs:=[Z.v]) rfl (mkS F1) (mks1 (cs:=[a4.v]) rfl (mkS F0) mks0))) fun i6 w a=>bE c fun b f4 c=>?_
 replace a:=a.fz
 refine yC (yCall FN_14 (a1 e0)) (exact_Inertia_ok f4 F0 a) ?_
 rintro _ w ⟨rfl,a⟩
 refine ⟨_,rfl,?_⟩
 refine Ym (.tuple #[iV b.1,iV b.2.1,iV b.2.2.1,iV b.2.2.2]) e0 (yY (x_ (iV b.1) e0) (yY (x_ (iV b.2.1) e0) (yY (x_ (iV b.2.2.1) e0) (yY (x_ (iV b.2.2.2) e0) (Ya (iV b.1) e0 (Ya (iV b.2.1) e0 (Ya (iV b.2.2.1) e0 (Ya (iV b.2.2.2) e0 (wK e9 (sR fun _ f5=>Ym (iV d.2.2.2) e0 ?_))))))))))
 refine yY (yeql e0 rfl) (Ym (.bool (decide (d.2.2.2=0))) e0 ?_)
 refine joinW 4 (fun f w=>f 2=m.v∧f 3=(pB C)∧f 5=iV b.1∧f 6=iV b.2.1∧f 7=iV b.2.2.1∧f 8=iV b.2.2.2∧f 44=.bool ((decide (d.2.2.2=0)) && (decide ((d.1.length:Int)=2)))∧St w0 (imm (rI .u32) j.v d.2.2.1::ros) (row 31 (rP rB (rS (rI .u32))) m.v d.1::box C 31 [.bool d.2.1,j.v]::rs) w) (fun a5=>?_) ?_
 ·rcases Bool.eq_false_or_eq_true (decide (d.2.2.2=0)) with k | k
  ·exact yG k (m_ m.v e0) (yG k (yLen SL_32 e0 a rO1) (yG k (yeql e0 rfl) (yY (pt_ (.bool (decide ((d.1.length:Int)=2))) e0 k e0) (a5 _ _ ⟨rfl,rfl,rfl,rfl,rfl,rfl,(congrArg Value.bool (andT k)),((a.k11).facts (allC F7 (allT (allT (allT (allT (allT (allT (allT (allT (allT (allT (allT (allT (allT (allT (allT (allT (allT (allT allI))))))))))))))))))))⟩))))
  ·exact gN k (gN k (gN k (yY (pf_ (.bool false) e0 k rfl) (a5 _ _ ⟨rfl,rfl,rfl,rfl,rfl,rfl,(congrArg Value.bool (andF k)),((a.k11).facts (allC F7 (allT (allT (allT (allT (allT (allT (allT (allT (allT (allT (allT (allT (allT (allT (allT (allT (allT (allT allI))))))))))))))))))))⟩))))
 rintro f w ⟨J,a6,a7,a8,a9,b0,f6,a⟩
 refine Ym (.bool ((decide (d.2.2.2=0)) && (decide ((d.1.length:Int)=2)))) (eh f6) (bE c fun b1 o c=>?_)
 refine joinW 6 (fun f w=>f 2=m.v∧f 3=(pB C)∧f 5=iV b.1∧f 6=iV b.2.1∧f 7=iV b.2.2.1∧f 8=iV b.2.2.2∧f 51=.bool b1∧St w0 (imm (rI .u32) j.v d.2.2.1::ros) (row 31 (rP rB (rS (rI .u32))) m.v d.1::box C 31 [.bool d.2.1,j.v]::rs) w) (fun b2=>?_) ?_
 ·rcases iteS o with ⟨h,o⟩ | ⟨h,o⟩
  ·refine yG h (m_ m.v (eh J)) (bE o fun f7 b3 o=>yG h (yIa SL_32 e0 rfl a rO0 b3) ?_)
   obtain ⟨i7,i8,cc46,a⟩:=a.ld rO0 b3
   replace a:=a.eltP
   obtain ⟨i9,j0,rfl,a⟩:=a
   replace a:=a.eltB
   obtain ⟨rfl,a⟩:=a
   replace a:=a.eltS
   obtain ⟨f8,rfl,a⟩:=a
   refine yG h (yCn (cs:=[.bool f7.1,f8.v]) ST_31 rfl e0 cc46) (bE o fun f9 g0 o=>Yc (wG h) rfl (yCall FN_45 (a1 e0)) (integer_Format_ok g0 F0 a) ?_)
   rintro _ w ⟨rfl,a⟩
   refine ⟨_,rfl,?_⟩
   refine yG h (yegs e0 rfl) (yY (pt_ (.bool (decide (f9=(⟨#[51]⟩:ByteArray)))) e0 h e0) ?_)
   cases o
   exact b2 _ _ ⟨J,a6,a7,a8,a9,b0,rfl,(a.facts (allC F1 (allT (allT allI))))⟩
  ·refine gN (bfalse h) (gN (bfalse h) (gN (bfalse h) (gN (bfalse h) (gN (bfalse h) (yY (pf_ (.bool false) e0 (bfalse h) rfl) ?_)))))
   cases o
   exact b2 _ _ ⟨J,a6,a7,a8,a9,b0,rfl,a⟩
 rintro f w ⟨g1,b4,b5,b6,b7,b8,g2,a⟩
 refine Ym (.bool b1) (eh g2) (bE c fun b9 p c=>?_)
 refine joinW 6 (fun f w=>f 3=(pB C)∧f 5=iV b.1∧f 6=iV b.2.1∧f 7=iV b.2.2.1∧f 8=iV b.2.2.2∧f 58=.bool b9∧St w0 (imm (rI .u32) j.v d.2.2.1::ros) (box C 31 [.bool d.2.1,j.v]::rs) w) (fun c0=>?_) ?_
 ·rcases iteS p with ⟨i,p⟩ | ⟨i,p⟩
  ·refine yG i (m_ m.v (eh g1)) (bE p fun g3 c1 p=>yG i (yIa SL_32 e0 rfl a rO0 c1) ?_)
   obtain ⟨j9,k0,cc61,a⟩:=a.ld rO0 c1
   replace a:=a.eltP
   obtain ⟨k6,k7,rfl,a⟩:=a
   replace a:=a.eltB
   obtain ⟨rfl,a⟩:=a
   replace a:=a.eltS
   obtain ⟨g4,rfl,a⟩:=a
   refine yG i (yCn (cs:=[.bool g3.1,g4.v]) ST_31 rfl e0 cc61) (bE p fun g5 g6 p=>Yc (wG i) rfl (yCall FN_45 (a1 e0)) (integer_Format_ok g6 F0 a) ?_)
   rintro _ w ⟨rfl,a⟩
   refine ⟨_,rfl,?_⟩
   refine yG i (yegs e0 rfl) (yY (pt_ (.bool (decide (g5=(⟨#[51]⟩:ByteArray)))) e0 i e0) ?_)
   cases p
   exact c0 _ _ ⟨b4,b5,b6,b7,b8,rfl,((a.k13).facts (allC F1 (allT (allT allI))))⟩
  ·refine gN (bfalse i) (gN (bfalse i) (gN (bfalse i) (gN (bfalse i) (gN (bfalse i) (yY (pf_ (.bool false) e0 (bfalse i) rfl) ?_)))))
   cases p
   exact c0 _ _ ⟨b4,b5,b6,b7,b8,rfl,(a.k13)⟩
 rintro f w ⟨g7,c2,c3,c4,c5,g8,a⟩
 refine Ym (.bool b9) (eh g8) (bE c fun g x c=>?_)
 refine joinW 4 (fun f w=>f 5=iV b.1∧f 6=iV b.2.1∧f 7=iV b.2.2.1∧f 8=iV b.2.2.2∧f 63=.bool g∧St w0 ros rs w) (fun c6=>?_) ?_
 ·rcases iteS x with ⟨q,x⟩ | ⟨q,x⟩
  ·refine yG q (lbs_ [.bool d.2.1,j.v] ST_31 (eh g7) a R0) (bE x fun g9 h0 x=>Yc (wG q) rfl (yCall FN_45 (a1 e0)) (integer_Format_ok h0 F0 a) ?_)
   rintro _ w ⟨rfl,a⟩
   refine ⟨_,rfl,?_⟩
   refine yG q (yegs e0 rfl) (yY (pt_ (.bool (decide (g9=(⟨#[51]⟩:ByteArray)))) e0 q e0) ?_)
   cases x
   exact c6 _ _ ⟨c2,c3,c4,c5,rfl,((a.k10).facts (allT allI))⟩
  ·refine gN (bfalse q) (gN (bfalse q) (gN (bfalse q) (yY (pf_ (.bool false) e0 (bfalse q) rfl) ?_)))
   cases x
   exact c6 _ _ ⟨c2,c3,c4,c5,rfl,((a.k10).facts (allT allI))⟩
 rintro f w ⟨c7,c8,c9,h1,h3,a⟩
 refine Ym (.bool g) (eh h3) ?_
 refine joinW 3 (fun f w=>f 5=iV b.1∧f 6=iV b.2.1∧f 7=iV b.2.2.1∧f 67=.bool (g && (decide (b.2.2.2=0)))∧St w0 ros rs w) (fun d0=>?_) ?_
 ·rcases Bool.eq_false_or_eq_true g with r | r
  ·exact yG r (m_ (iV b.2.2.2) (eh h1)) (yG r (yeql e0 rfl) (yY (pt_ (.bool (decide (b.2.2.2=0))) e0 r e0) (d0 _ _ ⟨c7,c8,c9,(congrArg Value.bool (andT r)),a⟩)))
  ·exact gN r (gN r (yY (pf_ (.bool false) e0 r rfl) (d0 _ _ ⟨c7,c8,c9,(congrArg Value.bool (andF r)),a⟩)))
 rintro f w ⟨h6,d1,d2,h8,a⟩
 refine Ym (.bool (g && (decide (b.2.2.2=0)))) (eh h8) ?_
 refine joinW 3 (fun f w=>f 6=iV b.2.1∧f 7=iV b.2.2.1∧f 71=.bool ((g && (decide (b.2.2.2=0))) && (decide (b.1=1)))∧St w0 ros rs w) (fun d3=>?_) ?_
 ·rcases Bool.eq_false_or_eq_true (g && (decide (b.2.2.2=0))) with s | s
  ·exact yG s (m_ (iV b.1) (eh h6)) (yG s (yeql e0 rfl) (yY (pt_ (.bool (decide (b.1=1))) e0 s e0) (d3 _ _ ⟨d1,d2,(congrArg Value.bool (andT s)),a⟩)))
  ·exact gN s (gN s (yY (pf_ (.bool false) e0 s rfl) (d3 _ _ ⟨d1,d2,(congrArg Value.bool (andF s)),a⟩)))
 rintro f w ⟨i0,d4,i1,a⟩
 refine Ym (.bool ((g && (decide (b.2.2.2=0))) && (decide (b.1=1)))) (eh i1) ?_
 refine joinW 3 (fun f w=>f 7=iV b.2.2.1∧f 75=.bool (((g && (decide (b.2.2.2=0))) && (decide (b.1=1))) && (decide (b.2.1=0)))∧St w0 ros rs w) (fun d5=>?_) ?_
 ·rcases Bool.eq_false_or_eq_true ((g && (decide (b.2.2.2=0))) && (decide (b.1=1))) with t | t
  ·exact yG t (m_ (iV b.2.1) (eh i0)) (yG t (yeql e0 rfl) (yY (pt_ (.bool (decide (b.2.1=0))) e0 t e0) (d5 _ _ ⟨d4,(congrArg Value.bool (andT t)),a⟩)))
  ·exact gN t (gN t (yY (pf_ (.bool false) e0 t rfl) (d5 _ _ ⟨d4,(congrArg Value.bool (andF t)),a⟩)))
 rintro f w ⟨i2,i3,a⟩
 refine Ym (.bool (((g && (decide (b.2.2.2=0))) && (decide (b.1=1))) && (decide (b.2.1=0)))) (eh i3) ?_
 refine joinW 3 (fun f w=>f 79=.bool ((((g && (decide (b.2.2.2=0))) && (decide (b.1=1))) && (decide (b.2.1=0))) && (decide (b.2.2.1=1)))∧St w0 ros rs w) (fun d6=>?_) ?_
 ·rcases Bool.eq_false_or_eq_true (((g && (decide (b.2.2.2=0))) && (decide (b.1=1))) && (decide (b.2.1=0))) with u | u
  ·exact yG u (m_ (iV b.2.2.1) (eh i2)) (yG u (yeql e0 rfl) (yY (pt_ (.bool (decide (b.2.2.1=1))) e0 u e0) (d6 _ _ ⟨(congrArg Value.bool (andT u)),a⟩)))
  ·exact gN u (gN u (yY (pf_ (.bool false) e0 u rfl) (d6 _ _ ⟨(congrArg Value.bool (andF u)),a⟩)))
 rintro f w ⟨i4,a⟩
 refine Ya (.bool ((((g && (decide (b.2.2.2=0))) && (decide (b.1=1))) && (decide (b.2.1=0))) && (decide (b.2.2.1=1)))) (eh i4) (wK f5 (wp_ret ?_))
 cases c
 exact d7 _ _ _ (fin1r Tryz.results10 ⟨rfl,rfl⟩ ⟨rfl,a⟩)
theorem sparsekit_TwinBig_ok {c:Bool} {z:LI} {h:Hdr} {out:Bool×LI} (p:sparsekit_TwinBig c z=some out) (q:imm (rI .u32) h.v z∈ros) (b:St w0 ros rs w):
  Calls Tryz.prog 60 #[.agg #[.bool c,h.v]] w (fun e w=>∃ (A:Hdr),e=.returned (.agg #[.bool out.1,A.v])∧St w0 ros (row 103 (rI .u32) A.v out.2::rs) w):=by
 refine enterQ Tryz.func60 rfl Tryz.ntmps60 rfl fun Q F=>sR fun _ G=>yBb (r_box (vals:=[.bool c,h.v]) b e0 rfl) fun B w b=>yBb (rAl b ZT_31) fun m w b=>wK G (sR fun _ H=>yY (yFb FL_31_0 e0) (yY (lb_ (.bool c) O_4 e0 b R1) (yY (ybuild (us:=[.bool c,hnil.v]) [(0,.bool c)] SO_31 (bp1 e0) rfl) ?_)))
 refine yBb (rAl b ZT_31) fun o w b=>yT (r_stbn (vals':=[.bool c,hnil.v]) (us:=[.bool c,hnil.v]) b ST_31 e0 e0 rfl rfl (one_of rfl) rfl) fun w b=>wK H (sQ fun _ I=>sR fun _ J=>Ya (iV 0) rfl (wK J (blockQ fun K L=>bE p fun N O p=>?_)))
 have R:∀ (r:LI) (i:Hdr) (f:FV) w,f 2=(pB m)→f 3=(pB o)→St w0 ros (box m 31 [.bool false,hnil.v]::row 103 (rI .u32) i.v r::box o 31 [.bool c,i.v]::rs) w→r=N→K (.exit 0) (fr 26 f) w:=by
  intro r i f w C S b ho
  subst ho
  refine L _ _ _ (I _ _ (sR fun _ T=>yY (lbs_ [.bool c,i.v] ST_31 (eh S) b R2) (yT (r_stbn (vals':=[.bool c,i.v]) (us:=[.bool c,i.v]) b ST_31 (eh C) e0 rfl rfl (one_of rfl) rfl) fun w b=>wK T (wp_ret ?_))))
  cases p
  exact F _ _ _ (fin1r Tryz.results60 (rcs2 rfl C b R0 ST_31 rfl) ⟨_,rfl,(b.k1u)⟩)
 replace b:=b.rowNh 103 (rI .u32)
 refine loopQ (fun s a w=>∃ (t:LI) (g:Int) (f:FV) (j:Hdr),(t,g)=s∧a=fr 26 f∧f 1=(pB B)∧f 2=(pB m)∧f 3=(pB o)∧f 4=iV g∧St w0 ros (box B 31 [.bool c,h.v]::box m 31 [.bool false,hnil.v]::row 103 (rI .u32) j.v t::box o 31 [.bool c,j.v]::rs) w) O ⟨_,_,_,_,rfl,rfl,rfl,rfl,rfl,rfl,(b.k15)⟩ ?_
 rintro _ _ w a6 ⟨t,g,f,j,rfl,rfl,u,D,k,x,b⟩ d U a7 V W
 refine seqQ fun a8 X Z=>sR fun _ a0=>Ym (iV g) (eh x) (yY (yFb FL_31_1 (eh u)) (yY (lb_ h.v O_29 e0 b R0) (yY (yLen SL_29 e0 b (rdI q)) (yY (ylss e0 e0) (wK a0 ?_)))))
 refine cIf e0 d (fun a1 d=>?_) fun a1 d=>?_
 ·refine wp_skip (X _ _ (sQ fun _ a2=>blockQ fun _ a3=>bE d fun y E d=>bE d fun a9 a4 d=>dR [0,1,0,4,0,28,60,124,255,511,1023] [7,8,10] 3 folM ?_))
  replace b:=b.drew
  refine Dn [0,1,2,3,4,5,6] [] [7] (yR rfl (yFb FL_31_1 (eh k)) (yR rfl (lb_ j.v O_29 e0 b R3) (yR rfl (yFb FL_31_1 (eh u)) (yR rfl (lb_ h.v O_29 e0 b R0) (yR rfl (m_ (iV g) (eh x)) (yR rfl (yIa SL_29 e0 e0 b (rdI q) E) (yR rfl (yI O_103 e0 b (rdI q) E) (Rn QSn ?_))))))))
  refine Lc1 rfl ?_
  refine LH wn (rLt (n:=1) (l:=[y]) b SL_29 [.int .u32 y] (bp1 e0) rfl rfl (mks1 (cs:=[.int .u32 y]) rfl mkI mks0)) fun b0 w b=>Dn [] [0,1] [8] (Rn (yS rfl (yFb FL_31_1 (eh k)) (yS rfl (lb_ j.v O_29 e0 b R4) QSn)) ?_)
  refine Lc1 rfl ?_
  replace b:=b.k17
  refine LH wn (rAp b SL_29 e0 e0 rO1 a4) fun a5 w b=>Dn [9] [] [10] (yR rfl (yFb FL_31_1 (eh k)) (Rn QSn ?_))
  refine Lc1 rfl ?_
  replace b:=b.k1a
  refine LT wn (r_stb1 (vals':=[.bool c,a5.v]) b O_29 e0 e0 rfl rfl rfl rfl) fun w b=>Dz [] [] (Rn QSn (a3 _ _ _ (a2 _ _ (wR (Ym (iV g) (eh x) (yY (yadd e0 rfl) (Ya (iV (wa .i64 g 1)) e0 (wN ?_))))))))
  cases d
  exact V _ _ _ rfl ⟨_,_,_,_,rfl,rfl,u,D,k,rfl,(b.k21)⟩
 ·refine wp_exit (Z _ _ _ rfl ?_)
  cases d
  exact W _ _ _ _ rfl rfl (R _ _ _ _ D k (b.k2e) (U _ rfl))
theorem sparsekit_TwinBigs_ok {t:List (Bool×LI)} {g:Hdr} {out:(List (Bool×LI))} (k:sparsekit_TwinBigs t=some out) (m:imm (rP rB (rS (rI .u32))) g.v t∈ros) (b:St w0 ros rs w):
  Calls Tryz.prog 18 #[g.v] w (fun e w=>∃ (u:Hdr),e=.returned (u.v)∧St w0 ros (row 31 (rP rB (rS (rI .u32))) u.v out::rs) w):=by
 refine enterQ Tryz.func18 rfl Tryz.ntmps18 rfl fun Q A=>sR fun _ B=>Ya hnil.v rfl (wK B (sR fun _ C=>Ya hnil.v rfl (wK C (sQ fun _ D=>sR fun _ E=>?_))))
 refine Ya (iV 0) rfl (wK E (blockQ fun F G=>bE k fun H I k=>?_))
 have J:∀ (o:List (Bool×LI)) (h:Hdr) (f:FV) w,f 3=h.v→St w0 ros (row 31 (rP rB (rS (rI .u32))) h.v o::rs) w→o=H→F (.exit 0) (fr 20 f) w:=by
  intro o h f w K b ho
  subst ho
  refine G _ _ _ (D _ _ (sR fun _ L=>Ym h.v (eh K) (Ya h.v e0 (wK L (wp_ret ?_)))))
  cases k
  exact A _ _ _ (fin1r Tryz.results18 ⟨rfl,rfl⟩ ⟨_,rfl,b⟩)
 replace b:=b.rowNh 31 (rP rB (rS (rI .u32)))
 refine loopQ (fun s a w=>∃ (p:List (Bool×LI)) (d:Int) (f:FV) (i:Hdr),(p,d)=s∧a=fr 20 f∧f 0=g.v∧f 3=i.v∧f 4=iV d∧St w0 ros (row 31 (rP rB (rS (rI .u32))) i.v p::rs) w) I ⟨_,_,_,_,rfl,rfl,rfl,rfl,rfl,b⟩ ?_
 rintro _ _ w a5 ⟨p,d,f,i,rfl,rfl,q,x,r,b⟩ c N a6 O R
 refine seqQ fun a7 S T=>sR fun _ U=>Ym (iV d) (eh r) (Ym g.v (eh q) (yY (yLen SL_32 e0 b (rdI m)) (yY (ylss e0 e0) (wK U ?_))))
 refine cIf e0 c (fun V c=>?_) fun V c=>?_
 ·refine wp_skip (S _ _ (sQ fun _ W=>blockQ fun _ X=>wR (Ym i.v (eh x) (Ym g.v (eh q) (Ym (iV d) (eh r) (bE c fun Z y c=>yY (yIa SL_32 e0 e0 b (rdI m) y) ?_))))))
  obtain ⟨a8,a9,b⟩:=iLd b m y
  obtain ⟨b0,b1,rfl,b⟩:=b.eltP
  obtain ⟨rfl,b⟩:=b.eltB
  obtain ⟨a0,rfl,b⟩:=b.eltS
  refine yY (yCtn (cs:=[.bool Z.1,a0.v]) ST_31 rfl e0 b F1) (bE c fun j a2 c=>yC (yCall FN_60 (a1 e0)) (sparsekit_TwinBig_ok a2 F0 b) ?_)
  rintro _ w ⟨z,rfl,b⟩
  refine ⟨_,rfl,?_⟩
  refine yH (rLt (n:=1) (l:=[(j.1,j.2)]) b.fz SL_32 [.agg #[.bool j.1,z.v]] (bp1 e0) rfl rfl (mks1 (cs:=[.bool j.1,z.v]) rfl (mkP mkB (mkS F0)) mks0)) fun b2 w b=>bE c fun b3 a3 c=>yH (rAp (b.k11) SL_32 e0 e0 rO1 a3) fun a4 w b=>Ya a4.v e0 (wN (X _ _ _ (W _ _ (wR (Ym (iV d) (eh r) (yY (yadd e0 rfl) (Ya (iV (wa .i64 d 1)) e0 (wN ?_))))))))
  cases c
  exact O _ _ _ rfl ⟨_,_,_,_,rfl,rfl,q,rfl,rfl,((b.k12).facts (allT (allT (allT allI))))⟩
 ·refine wp_exit (T _ _ _ rfl ?_)
  cases c
  exact R _ _ _ _ rfl rfl (J _ _ _ _ x b (N _ rfl))
theorem sparsekit_TwinRows_ok {r:List (List (Bool×LI))} {g:Hdr} {out:(List (List (Bool×LI)))} (j:sparsekit_TwinRows r=some out) (k:imm (rS (rP rB (rS (rI .u32)))) g.v r∈ros) (b:St w0 ros rs w):
  Calls Tryz.prog 11 #[g.v] w (fun e w=>∃ (t:Hdr),e=.returned (t.v)∧St w0 ros (row 32 (rS (rP rB (rS (rI .u32)))) t.v out::rs) w):=by
 refine enterQ Tryz.func11 rfl Tryz.ntmps11 rfl fun Q z=>sR fun _ A=>Ya hnil.v rfl (wK A (sR fun _ B=>Ya hnil.v rfl (wK B (sQ fun _ C=>sR fun _ D=>?_))))
 refine Ya (iV 0) rfl (wK D (blockQ fun E F=>bE j fun G H j=>?_))
 have I:∀ (m:List (List (Bool×LI))) (h:Hdr) (f:FV) w,f 3=h.v→St w0 ros (row 32 (rS (rP rB (rS (rI .u32)))) h.v m::rs) w→m=G→E (.exit 0) (fr 20 f) w:=by
  intro m h f w J b ho
  subst ho
  refine F _ _ _ (C _ _ (sR fun _ K=>Ym h.v (eh J) (Ya h.v e0 (wK K (wp_ret ?_)))))
  cases j
  exact z _ _ _ (fin1r Tryz.results11 ⟨rfl,rfl⟩ ⟨_,rfl,b⟩)
 replace b:=b.rowNh 32 (rS (rP rB (rS (rI .u32))))
 refine loopQ (fun s a w=>∃ (o:List (List (Bool×LI))) (d:Int) (f:FV) (i:Hdr),(o,d)=s∧a=fr 20 f∧f 0=g.v∧f 3=i.v∧f 4=iV d∧St w0 ros (row 32 (rS (rP rB (rS (rI .u32)))) i.v o::rs) w) H ⟨_,_,_,_,rfl,rfl,rfl,rfl,rfl,b⟩ ?_
 rintro _ _ w a3 ⟨o,d,f,i,rfl,rfl,p,u,q,b⟩ c L a4 N O
 refine seqQ fun a5 R S=>sR fun _ T=>Ym (iV d) (eh q) (Ym g.v (eh p) (yY (yLen SL_22 e0 b (rdI k)) (yY (ylss e0 e0) (wK T ?_))))
 refine cIf e0 c (fun U c=>?_) fun U c=>?_
 ·refine wp_skip (R _ _ (sQ fun _ V=>blockQ fun _ W=>wR (Ym i.v (eh u) (Ym g.v (eh p) (Ym (iV d) (eh q) (bE c fun a6 x c=>yY (yIa SL_22 e0 e0 b (rdI k) x) ?_))))))
  obtain ⟨a7,b⟩:=iLs b k x
  refine yY (yCt O_32 e0 b F1 rfl) (bE c fun X Z c=>yC (yCall FN_18 (a1 e0)) (sparsekit_TwinBigs_ok Z F0 b) ?_)
  rintro _ w ⟨y,rfl,b⟩
  refine ⟨_,rfl,?_⟩
  refine yH (rLt (n:=1) (l:=[X]) b.fz SL_22 [y.v] (bp1 e0) rfl rfl (mks1 (cs:=[y.v]) rfl (mkS F0) mks0)) fun a8 w b=>bE c fun a9 a0 c=>yH (rAp (b.k11) SL_22 e0 e0 rO1 a0) fun a2 w b=>Ya a2.v e0 (wN (W _ _ _ (V _ _ (wR (Ym (iV d) (eh q) (yY (yadd e0 rfl) (Ya (iV (wa .i64 d 1)) e0 (wN ?_))))))))
  cases c
  exact N _ _ _ rfl ⟨_,_,_,_,rfl,rfl,p,rfl,rfl,((b.k12).facts (allT (allT (allT allI))))⟩
 ·refine wp_exit (S _ _ _ rfl ?_)
  cases c
  exact O _ _ _ _ rfl rfl (I _ _ _ _ u b (L _ rfl))
theorem exact_Least_1_ok {c:Int} {i:List (Bool×LI)} {d:Nat} {b:Hdr} {out:Bool×LI} (f:exact_Least_1 c i=some out) (j:imm (rP rB (rS (rI .u32))) b.v i∈ros) (a:St w0 ros (box d 32 [b.v]::rs) w):
  Calls Tryz.prog 67 #[iV c,(pB d)] w (fun e w=>∃ (k:Hdr),e=.returned (.agg #[.bool out.1,k.v])∧St w0 (imm (rI .u32) k.v out.2::ros) (box d 32 [b.v]::rs) w):=by
 refine enterQ Tryz.func67 rfl Tryz.ntmps67 rfl fun Q m=>sR fun _ n=>yBb (rAl a ZT_31) fun p w a=>wK n (sR fun _ o=>yY (lb_ b.v O_32 e0 a R1) (Ym (iV c) e0 (bE f fun g l f=>yY (yIa SL_32 e0 e0 a (rdI j) l) ?_)))
 obtain ⟨q,r,a⟩:=iLd a j l
 obtain ⟨s,t,rfl,a⟩:=a.eltP
 obtain ⟨rfl,a⟩:=a.eltB
 obtain ⟨h,rfl,a⟩:=a.eltS
 refine yY (yCtn (cs:=[.bool g.1,h.v]) ST_31 rfl e0 a F1) (yT (r_stbn (vals':=[.bool g.1,h.v]) (us:=[.bool g.1,h.v]) a ST_31 e0 e0 rfl rfl (one_of rfl) rfl) fun w a=>wK o (wp_ret ?_))
 cases f
 exact m _ _ _ (fin1r Tryz.results67 (rcs2 rfl rfl a R0 ST_31 rfl) ⟨_,rfl,((a.k13).facts (allC F0 (allT (allT allI))))⟩)
theorem exact_inner_ok {t:List (List (Bool×LI))} {m:Int} {D:List (Bool×LI)} {o:Hdr} {d:Nat} {n:Hdr} {out:Bool×LI} (u:exact_inner t m D=some out) (x:imm (rS (rP rB (rS (rI .u32)))) o.v t∈ros) (S:imm (rP rB (rS (rI .u32))) n.v D∈ros) (b:St w0 ros (box d 32 [n.v]::rs) w):
  Calls Tryz.prog 66 #[o.v,iV m,.func (.func 67) #[] #[(pB d)]] w (fun e w=>∃ (E:Hdr),e=.returned (.agg #[.bool out.1,E.v])∧St w0 (imm (rI .u32) E.v out.2::ros) (box d 32 [n.v]::rs) w):=by
 refine enterQ Tryz.func66 rfl Tryz.ntmps66 rfl fun Q T=>sR fun _ U=>yBb (rAl b ZT_31) fun p w b=>wK U (sR fun _ V=>yBb (rAl b ZT_31) fun q w b=>wK V (sQ fun _ W=>?_))
 refine sR fun _ X=>Ym o.v e0 (yY (yLen SL_22 e0 b (rdI x)) (Ym (iV 0) rfl (wK X (blockQ fun Z a0=>bE u fun a3 a4 u=>?_))))
 have a5:∀ (h:Bool) (y:LI) (i:Hdr) (f:FV) w,f 6=(pB p)→f 7=(pB q)→St w0 (imm (rI .u32) i.v y::ros) (box d 32 [n.v]::box p 31 [.bool false,hnil.v]::box q 31 [.bool h,i.v]::rs) w→(h,y)=a3→Z (.exit 0) (fr 29 f) w:=by
  intro h y i f w F a6 b ho
  subst ho
  refine a0 _ _ _ (W _ _ (sR fun _ a7=>yY (lbs_ [.bool h,i.v] ST_31 (eh a6) b R2) (yT (r_stbn (vals':=[.bool h,i.v]) (us:=[.bool h,i.v]) (b.k11) ST_31 (eh F) e0 rfl rfl (one_of rfl) rfl) fun w b=>wK a7 (wp_ret ?_))))
  cases u
  exact T _ _ _ (fin1r Tryz.results66 (rcs2 rfl F b R0 ST_31 rfl) ⟨_,rfl,(b.k1u)⟩)
 replace b:=b.immNh (rI .u32)
 refine loopQ (fun s a w=>∃ (j:Bool) (z:LI) (g:Int) (f:FV) (k:Hdr),(j,z,g)=s∧a=fr 29 f∧f 1=iV m∧f 2=.func (.func 67) #[] #[(pB d)]∧f 6=(pB p)∧f 7=(pB q)∧f 10=o.v∧f 11=iV (t.length:Int)∧f 12=iV g∧St w0 (imm (rI .u32) k.v z::ros) (box d 32 [n.v]::box p 31 [.bool false,hnil.v]::box q 31 [.bool j,k.v]::rs) w) a4 ⟨_,_,_,_,_,rfl,rfl,rfl,rfl,rfl,rfl,rfl,rfl,rfl,(b.k2c)⟩ ?_
 rintro _ _ w c4 ⟨j,z,g,f,k,rfl,rfl,A,G,H,l,I,J,r,b⟩ c a8 c5 a9 b0
 refine sR fun _ b1=>yY (ylss (eh r) (eh J)) (wK b1 (seqQ fun c6 b2 b3=>?_))
 refine cIf e0 c (fun b5 c=>?_) fun b5 c=>?_
 ·refine wp_skip (b2 _ _ (sQ fun _ b6=>blockQ fun _ b9=>sR fun _ c0=>Ym (iV g) (eh r) (bE c fun c7 K c=>yY (yIa SL_22 (eh I) (eh r) b (rdI (mtF x)) K) ?_)))
  obtain ⟨B,b⟩:=iLs b (mtF x) K
  refine yY (yCt O_32 e0 b F1 rfl) (Ya (iV g) e0 (Ya B.v e0 (wK c0 (bE c fun L C c=>bE c fun c8 c1 c=>bE c fun c9 c2 c=>bE c fun N c3 c=>dR [0,0,0,6,14,0,0,96,254,511,1023] [7,8,9,10] 4 folM ?_))))
  replace b:=b.drew
  refine Dn [0,1,2,3,4,5,6] [] [7] (yR rfl (lbs_ [.bool j,k.v] ST_31 (eh l) b R2) (yR rfl (m_ B.v e0) (yR rfl (m_ (iV m) (eh A)) (yR rfl (yIa SL_32 e0 e0 b (rdI F0) C) ?_))))
  obtain ⟨d0,d1,b⟩:=iLd b F0 C
  obtain ⟨d2,d3,rfl,b⟩:=b.eltP
  obtain ⟨rfl,b⟩:=b.eltB
  obtain ⟨O,rfl,b⟩:=b.eltS
  refine yR rfl (yCtn (cs:=[.bool L.1,O.v]) ST_31 rfl e0 b F1) (yR rfl (m_ (.func (.func 67) #[] #[(pB d)]) (eh G)) (yR rfl (m_ (iV g) e0) (Rn QSn ?_)))
  refine Lc1 rfl ?_
  refine Lk wn (yCallw FN_67 e0 (a1 e0)) (exact_Least_1_ok c1 (F_5 S) b) ?_
  rintro _ w ⟨d4,rfl,b⟩
  refine ⟨_,rfl,?_⟩
  refine Dn [] [0,1,2,3,4] [8] (Rn (yS rfl (lbs_ [.bool j,k.v] ST_31 (eh l) b R2) (yS rfl (m_ B.v e0) (yS rfl (m_ (iV m) (eh A)) (yS rfl (yIa SL_32 e0 e0 b (rdI F3) C) (yS rfl (yCtn (cs:=[.bool L.1,O.v]) ST_31 rfl e0 b F2) QSn))))) ?_)
  refine Lc1 rfl ?_
  refine Lk wn (yCall FN_32 (a2 e0 e0)) (integer_Mul_ok c2 F1 F0 b) ?_
  rintro _ w ⟨d5,rfl,b⟩
  refine ⟨_,rfl,?_⟩
  refine Dn [] [0] [9] (Rn (yS rfl (lbs_ [.bool j,k.v] ST_31 (eh l) b R2) QSn) ?_)
  refine Lc1 rfl ?_
  refine Lk wn (yCall FN_75 (a2 e0 e0)) (integer_Add_ok c3 F6 F0 b) ?_
  rintro _ w ⟨R,rfl,b⟩
  refine ⟨_,rfl,?_⟩
  refine Dn [] [] [10] (Rn QSn ?_)
  refine Lc1 rfl ?_
  replace b:=b.k1f
  refine LT wn (r_stbn (vals':=[.bool N.1,R.v]) (us:=[.bool N.1,R.v]) b ST_31 (eh l) e0 rfl rfl (one_of rfl) rfl) fun w b=>Dz [] [] (Rn QSn (b9 _ _ _ (b6 _ _ (wR (yY (yadd (eh r) rfl) (Ym (iV (wa .i64 g 1)) e0 (wN ?_)))))))
  cases c
  exact a9 _ _ _ rfl ⟨_,_,_,_,_,rfl,rfl,A,G,H,l,I,J,rfl,((b.k19).facts (allC F0 (allT (allT (allT (allT (allT (allT (allT (allT allI))))))))))⟩
 ·refine wp_exit (b3 _ _ _ rfl ?_)
  cases c
  exact b0 _ _ _ _ rfl rfl (a5 _ _ _ _ _ H l b (a8 _ rfl))
theorem exact_Least_2_ok {f:Int} {k:List (List (Bool×LI))} {c:Int} {g:Nat} {d:Hdr} {h:Nat} {out:Bool×LI} (b:exact_Least_2 f k c=some out) (l:imm (rS (rP rB (rS (rI .u32)))) d.v k∈ros) (a:St w0 ros (box g 22 [d.v]::box h 3 [iV c]::rs) w):
  Calls Tryz.prog 68 #[iV f,(pB g),(pB h)] w (fun e w=>∃ (m:Hdr),e=.returned (.agg #[.bool out.1,m.v])∧St w0 (imm (rI .u32) m.v out.2::ros) (box g 22 [d.v]::box h 3 [iV c]::rs) w):=by
 refine enterQ Tryz.func68 rfl Tryz.ntmps68 rfl fun Q p=>sR fun _ q=>yBb (rAl a ZT_31) fun s w a=>wK q (sQ fun _ r=>bE b fun t n b=>bE b fun i o b=>dR [0,0,3,7,0,31,63,127] [7] 1 folM ?_)
 replace a:=a.drew
 refine Dn [0,1,2,3,4,5,6] [] [7] (yR rfl (lb_ d.v O_22 e0 a R1) (yR rfl (m_ (iV f) e0) (yR rfl (yIa SL_22 e0 e0 a (rdI l) n) ?_)))
 obtain ⟨u,a⟩:=iLs a l n
 refine yR rfl (yCt O_32 e0 a F1 rfl) (yR rfl (lb_ (iV c) O_3 e0 a R2) (yR rfl (yIa SL_32 e0 e0 a (rdI F0) o) ?_))
 obtain ⟨x,y,a⟩:=iLd a F0 o
 obtain ⟨z,A,rfl,a⟩:=a.eltP
 obtain ⟨rfl,a⟩:=a.eltB
 obtain ⟨j,rfl,a⟩:=a.eltS
 refine yR rfl (yCtn (cs:=[.bool i.1,j.v]) ST_31 rfl e0 a F1) (Rn QSn ?_)
 refine Lc1 rfl ?_
 refine LT wn (r_stbn (vals':=[.bool i.1,j.v]) (us:=[.bool i.1,j.v]) a ST_31 e0 e0 rfl rfl (one_of rfl) rfl) fun w a=>Dz [] [] (Rn QSn (r _ _ (wp_ret ?_)))
 cases b
 exact p _ _ _ (fin1r Tryz.results68 (rcs2 rfl rfl a R0 ST_31 rfl) ⟨_,rfl,((a.k2f).facts (allC F0 (allT (allT (allT (allT allI))))))⟩)
theorem exact_inner_v2_ok {x:List (List (Bool×LI))} {n:Int} {F:List (List (Bool×LI))} {o:Int} {q:Hdr} {d:Nat} {p:Hdr} {g:Nat} {out:Bool×LI} (y:exact_inner_v2 x n F o=some out) (z:imm (rS (rP rB (rS (rI .u32)))) q.v x∈ros) (U:imm (rS (rP rB (rS (rI .u32)))) p.v F∈ros) (b:St w0 ros (box d 22 [p.v]::box g 3 [iV o]::rs) w):
  Calls Tryz.prog 66 #[q.v,iV n,.func (.func 68) #[] #[(pB d),(pB g)]] w (fun e w=>∃ (G:Hdr),e=.returned (.agg #[.bool out.1,G.v])∧St w0 (imm (rI .u32) G.v out.2::ros) (box d 22 [p.v]::box g 3 [iV o]::rs) w):=by
 refine enterQ Tryz.func66 rfl Tryz.ntmps66 rfl fun Q V=>sR fun _ W=>yBb (rAl b ZT_31) fun r w b=>wK W (sR fun _ X=>yBb (rAl b ZT_31) fun t w b=>wK X (sQ fun _ Z=>?_))
 refine sR fun _ a0=>Ym q.v e0 (yY (yLen SL_22 e0 b (rdI z)) (Ym (iV 0) rfl (wK a0 (blockQ fun a3 a4=>bE y fun a5 a6 y=>?_))))
 have a7:∀ (i:Bool) (A:LI) (j:Hdr) (f:FV) w,f 6=(pB r)→f 7=(pB t)→St w0 (imm (rI .u32) j.v A::ros) (box d 22 [p.v]::box g 3 [iV o]::box r 31 [.bool false,hnil.v]::box t 31 [.bool i,j.v]::rs) w→(i,A)=a5→a3 (.exit 0) (fr 29 f) w:=by
  intro i A j f w H a8 b ho
  subst ho
  refine a4 _ _ _ (Z _ _ (sR fun _ a9=>yY (lbs_ [.bool i,j.v] ST_31 (eh a8) b R3) (yT (r_stbn (vals':=[.bool i,j.v]) (us:=[.bool i,j.v]) (b.k1f) ST_31 (eh H) e0 rfl rfl (one_of rfl) rfl) fun w b=>wK a9 (wp_ret ?_))))
  cases y
  exact V _ _ _ (fin1r Tryz.results66 (rcs2 rfl H b R0 ST_31 rfl) ⟨_,rfl,(b.k2g)⟩)
 replace b:=b.immNh (rI .u32)
 refine loopQ (fun s a w=>∃ (k:Bool) (B:LI) (h:Int) (f:FV) (l:Hdr),(k,B,h)=s∧a=fr 29 f∧f 1=iV n∧f 2=.func (.func 68) #[] #[(pB d),(pB g)]∧f 6=(pB r)∧f 7=(pB t)∧f 10=q.v∧f 11=iV (x.length:Int)∧f 12=iV h∧St w0 (imm (rI .u32) l.v B::ros) (box d 22 [p.v]::box g 3 [iV o]::box r 31 [.bool false,hnil.v]::box t 31 [.bool k,l.v]::rs) w) a6 ⟨_,_,_,_,_,rfl,rfl,rfl,rfl,rfl,rfl,rfl,rfl,rfl,(b.k2h)⟩ ?_
 rintro _ _ w c6 ⟨k,B,h,f,l,rfl,rfl,C,I,J,m,K,L,u,b⟩ c b0 c7 b1 b2
 refine sR fun _ b3=>yY (ylss (eh u) (eh L)) (wK b3 (seqQ fun c8 b5 b6=>?_))
 refine cIf e0 c (fun b8 c=>?_) fun b8 c=>?_
 ·refine wp_skip (b5 _ _ (sQ fun _ c0=>blockQ fun _ c1=>sR fun _ c2=>Ym (iV h) (eh u) (bE c fun c9 N c=>yY (yIa SL_22 (eh K) (eh u) b (rdI (mtF z)) N) ?_)))
  obtain ⟨D,b⟩:=iLs b (mtF z) N
  refine yY (yCt O_32 e0 b F1 rfl) (Ya (iV h) e0 (Ya D.v e0 (wK c2 (bE c fun O E c=>bE c fun d0 c3 c=>bE c fun d1 c4 c=>bE c fun R c5 c=>dR [0,0,0,6,14,0,0,96,254,511,1023] [7,8,9,10] 4 folM ?_))))
  replace b:=b.drew
  refine Dn [0,1,2,3,4,5,6] [] [7] (yR rfl (lbs_ [.bool k,l.v] ST_31 (eh m) b R3) (yR rfl (m_ D.v e0) (yR rfl (m_ (iV n) (eh C)) (yR rfl (yIa SL_32 e0 e0 b (rdI F0) E) ?_))))
  obtain ⟨d2,d3,b⟩:=iLd b F0 E
  obtain ⟨d4,d5,rfl,b⟩:=b.eltP
  obtain ⟨rfl,b⟩:=b.eltB
  obtain ⟨S,rfl,b⟩:=b.eltS
  refine yR rfl (yCtn (cs:=[.bool O.1,S.v]) ST_31 rfl e0 b F1) (yR rfl (m_ (.func (.func 68) #[] #[(pB d),(pB g)]) (eh I)) (yR rfl (m_ (iV h) e0) (Rn QSn ?_)))
  refine Lc1 rfl ?_
  refine Lk wn (yCallw FN_68 e0 (a1 e0)) (exact_Least_2_ok c3 (F_5 U) b) ?_
  rintro _ w ⟨d6,rfl,b⟩
  refine ⟨_,rfl,?_⟩
  refine Dn [] [0,1,2,3,4] [8] (Rn (yS rfl (lbs_ [.bool k,l.v] ST_31 (eh m) b R3) (yS rfl (m_ D.v e0) (yS rfl (m_ (iV n) (eh C)) (yS rfl (yIa SL_32 e0 e0 b (rdI F3) E) (yS rfl (yCtn (cs:=[.bool O.1,S.v]) ST_31 rfl e0 b F2) QSn))))) ?_)
  refine Lc1 rfl ?_
  refine Lk wn (yCall FN_32 (a2 e0 e0)) (integer_Mul_ok c4 F1 F0 b) ?_
  rintro _ w ⟨d7,rfl,b⟩
  refine ⟨_,rfl,?_⟩
  refine Dn [] [0] [9] (Rn (yS rfl (lbs_ [.bool k,l.v] ST_31 (eh m) b R3) QSn) ?_)
  refine Lc1 rfl ?_
  refine Lk wn (yCall FN_75 (a2 e0 e0)) (integer_Add_ok c5 F6 F0 b) ?_
  rintro _ w ⟨T,rfl,b⟩
  refine ⟨_,rfl,?_⟩
  refine Dn [] [] [10] (Rn QSn ?_)
  refine Lc1 rfl ?_
  replace b:=b.k17
  refine LT wn (r_stbn (vals':=[.bool R.1,T.v]) (us:=[.bool R.1,T.v]) b ST_31 (eh m) e0 rfl rfl (one_of rfl) rfl) fun w b=>Dz [] [] (Rn QSn (c1 _ _ _ (c0 _ _ (wR (yY (yadd (eh u) rfl) (Ym (iV (wa .i64 h 1)) e0 (wN ?_)))))))
  cases c
  exact b1 _ _ _ rfl ⟨_,_,_,_,_,rfl,rfl,C,I,J,m,K,L,rfl,((b.k1o).facts (allC F0 (allT (allT (allT (allT (allT (allT (allT (allT allI))))))))))⟩
 ·refine wp_exit (b6 _ _ _ rfl ?_)
  cases c
  exact b2 _ _ _ _ rfl rfl (a7 _ _ _ _ _ J m b (b0 _ rfl))
theorem exact_Least_ok {H:List (List (Bool×LI))} {I:List (Bool×LI)} {k x:Hdr} {out:(List (Bool×LI))×Bool×LI×Int} (c:exact_Least H I=some out) (z:imm (rS (rP rB (rS (rI .u32)))) k.v H∈ros) (b8:imm (rP rB (rS (rI .u32))) x.v I∈ros) (b:St w0 ros rs w):
  Calls Tryz.prog 20 #[k.v,x.v] w (fun e w=>∃ (b9 c0:Hdr),e=.returned (.tuple #[b9.v,.agg #[.bool out.2.1,c0.v],iV out.2.2.2])∧St w0 (imm (rI .u32) c0.v out.2.2.1::ros) (row 31 (rP rB (rS (rI .u32))) b9.v out.1::rs) w):=by
 refine enterQ Tryz.func20 rfl Tryz.ntmps20 rfl fun Q J=>sR fun _ e7=>yBb (r_box (vals:=[k.v]) b e0 rfl) fun p w b=>yBb (r_box (vals:=[x.v]) b e0 rfl) fun q w b=>Ya hnil.v rfl (yBb (rAl b ZT_31) fun o w b=>Ya (iV 0) rfl (wK e7 (sQ fun _ e8=>?_)))
 refine wR (yY (lb_ k.v O_22 e0 b R2) (bE c fun B e9 c=>yC (yCall FN_64 (a1 e0)) (exact_check_ok e9 z b) ?_))
 rintro _ w ⟨rfl,b⟩
 refine ⟨_,rfl,?_⟩
 refine Ya (iV B) e0 (wK e8 (seqQ fun m8 f0 c1=>blockQ fun _ K=>sR fun _ f1=>Ym (iV B) e0 (yY (yneq e0 rfl) (Ya (.bool (!(decide (B=0)))) e0 (wK f1 ?_)))))
 rcases iteS c with ⟨L,c⟩ | ⟨L,c⟩
 ·refine condF e0 (nF (dT L)) (sR fun _ f2=>yY (lb_ x.v O_32 e0 b R1) (yY (yLen SL_32 e0 b (rdI b8)) (yY (lb_ k.v O_22 e0 b R2) (yY (yLen SL_22 e0 b (rdI z)) (yY (yneq e0 e0) (Ya (.bool (!(decide ((I.length:Int)=(H.length:Int))))) e0 (wK f2 ?_)))))))
  rcases iteS c with ⟨N,c⟩ | ⟨N,c⟩
  ·refine condF e0 (nF (dT N)) (wp_skip (K _ _ _ (f0 _ _ (sR fun _ f3=>yY (lb_ k.v O_22 e0 b R2) (bE c fun h f4 c=>yC (yCall FN_65 (a1 e0)) (exact_columns_ok f4 z b) ?_)))))
   rintro _ w ⟨rfl,b⟩
   refine ⟨_,rfl,?_⟩
   refine Ya (iV h) e0 (wK f3 (sQ fun _ f5=>bE c fun f6 c2 c=>bE c fun f7 O c=>?_))
   refine joinN (n:=68) (fun f w=>∃ (d:Hdr) (R:List Hdr) (i:Hdr),f 2=(pB p)∧f 3=(pB q)∧f 5=(pB o)∧f 7=iV h∧f 8=d.v∧f 9=i.v∧St w0 ros (box p 22 [k.v]::box q 32 [x.v]::box o 31 [.bool false,hnil.v]::row 32 rH d.v R::fam 31 (rP rB (rS (rI .u32))) R f6::row 31 (rP rB (rS (rI .u32))) i.v f7::rs) w) (fun S=>?_) ?_
   ·refine dR [0,1,0,4,3,31] [1,3,4,5] 4 folM ?_
    replace b:=b.drew
    refine Dn [0,2] [] [1,3] (yR rfl (m_ (iV h) e0) (yR rfl (m_ (iV h) e0) (Rn QSn ?_)))
    refine Lc rfl ?_ (Lc1 rfl ?_)
    ·obtain ⟨T,em13,U⟩:=mkL_rep c2 hnil
     refine LH wn (rMk b SLH_22 e0 U) fun E w b=>?_
     replace b:=(b.fReps 31 (rP rB (rS (rI .u32))) T).k11
     rw [← em13] at b
     refine Dn [] [2] [3,4] (Rn (yS rfl (m_ (iV h) e0) QSn) ?_)
     refine Lc rfl ?_ (Lc1 rfl ?_)
     ·refine LH wn (rMk b SL_32 e0 O) fun C w b=>Dn [] [] [4] (Rn QSn ?_)
      refine Lc1 rfl ?_
      refine Ly wn (a_ E.v e0) (Dn [] [] [5] (Rn QSn ?_))
      refine Lc1 rfl ?_
      exact Ly wn (a_ C.v e0) (Dz [] [] (Rn QSn (S _ _ ⟨_,_,_,rfl,rfl,rfl,rfl,rfl,rfl,(b.k2i)⟩)))
     ·refine Ly wn (a_ E.v e0) (Dn [] [2] [3] (Rn (yS rfl (m_ (iV h) e0) QSn) ?_))
      refine Lc1 rfl ?_
      refine LH wn (rMk b SL_32 e0 O) fun C w b=>Dn [] [] [5] (Rn QSn ?_)
      refine Lc1 rfl ?_
      exact Ly wn (a_ C.v e0) (Dz [] [] (Rn QSn (S _ _ ⟨_,_,_,rfl,rfl,rfl,rfl,rfl,rfl,(b.k2i)⟩)))
    ·refine LH wn (rMk b SL_32 e0 O) fun C w b=>Dn [] [0] [1] (Rn (yS rfl (m_ (iV h) e0) QSn) ?_)
     refine Lc1 rfl ?_
     obtain ⟨T,em13,U⟩:=mkL_rep c2 hnil
     refine LH wn (rMk b SLH_22 e0 U) fun E w b=>?_
     replace b:=(b.fReps 31 (rP rB (rS (rI .u32))) T).k11
     rw [← em13] at b
     refine Dn [] [] [4] (Rn QSn ?_)
     refine Lc1 rfl ?_
     refine Ly wn (a_ E.v e0) (Dn [] [] [5] (Rn QSn ?_))
     refine Lc1 rfl ?_
     exact Ly wn (a_ C.v e0) (Dz [] [] (Rn QSn (S _ _ ⟨_,_,_,rfl,rfl,rfl,rfl,rfl,rfl,(b.k2j)⟩)))
   rintro f w ⟨d,R,i,f8,f9,g0,c3,g1,g2,b⟩
   refine f5 _ _ (sQ fun _ g3=>sR fun _ g4=>Ym (iV h) (eh c3) (Ym (iV 0) rfl (wK g4 (blockQ fun g5 g6=>bE c fun g7 g8 c=>?_))))
   have g9:∀ (V:List (List (Bool×LI))) (W:List (Bool×LI)) (X:List Hdr) (f:FV) w,f 5=(pB o)→f 8=d.v→f 9=i.v→St w0 ros (box o 31 [.bool false,hnil.v]::row 32 rH d.v X::fam 31 (rP rB (rS (rI .u32))) X V::row 31 (rP rB (rS (rI .u32))) i.v W::rs) w→(V,W)=g7→g5 (.exit 1) (fr 68 f) w:=by
    intro V W X f w c4 h0 h1 b ho
    subst ho
    refine g6 _ _ _ (g3 _ _ (sR fun _ h3=>Ym d.v (eh h0) (Ym i.v (eh h1) (bE c fun D h5 c=>?_))))
    replace b:=(((b.k19).ffz).k11).fz
    refine yC (yCall FN_19 (a2 e0 e0)) (exact_Solve_ok h5 F1 F0 b) ?_
    rintro _ w ⟨c5,Z,rfl,b⟩
    refine ⟨_,rfl,?_⟩
    refine yY (x_ c5.v e0) (yY (x_ (.agg #[.bool D.2.1,Z.v]) e0) (yY (x_ (iV D.2.2.2) e0) (Ya c5.v e0 (yT (r_stbn (vals':=[.bool D.2.1,Z.v]) (us:=[.bool D.2.1,Z.v]) (b.k11) ST_31 (eh c4) e0 rfl rfl (one_of rfl) rfl) fun w b=>Ya (iV D.2.2.2) e0 (wK h3 (wp_ret ?_))))))
    cases c
    exact J _ _ _ (fin3r Tryz.results20 ⟨rfl,rfl⟩ (rcs2 rfl c4 b R0 ST_31 rfl) ⟨rfl,rfl⟩ ⟨_,_,rfl,((b.k13).facts (allC F0 (allT (allT (allT allI)))))⟩)
   refine loopQ (fun s a w=>∃ (a4:List (List (Bool×LI))) (a5:List (Bool×LI)) (g:Int) (f:FV) (a6:List Hdr),(a4,a5,g)=s∧a=fr 68 f∧f 2=(pB p)∧f 3=(pB q)∧f 5=(pB o)∧f 7=iV h∧f 8=d.v∧f 9=i.v∧f 32=iV h∧f 33=iV g∧St w0 ros (box p 22 [k.v]::box q 32 [x.v]::box o 31 [.bool false,hnil.v]::row 32 rH d.v a6::fam 31 (rP rB (rS (rI .u32))) a6 a4::row 31 (rP rB (rS (rI .u32))) i.v a5::rs) w) g8 ⟨_,_,_,_,_,rfl,rfl,f8,f9,g0,c3,g1,g2,rfl,rfl,b⟩ ?_
   rintro _ _ w m9 ⟨a4,a5,g,f,a6,rfl,rfl,c6,c7,c8,d0,d1,a7,d2,a8,b⟩ m h6 n0 h7 h8
   refine sR fun _ h9=>yY (ylss (eh a8) (eh d2)) (wK h9 (seqQ fun n1 i0 i1=>?_))
   refine cIf e0 m (fun i2 m=>?_) fun i2 m=>?_
   ·refine wp_skip (i0 _ _ (sQ fun _ i3=>blockQ fun _ i4=>sR fun _ i5=>Ym (iV g) (eh a8) (Ya (iV g) e0 (wK i5 (sR fun _ i6=>Ym i.v (eh a7) (Ym (iV g) e0 ?_))))))
    refine yY (lb_ k.v O_22 (eh c6) b R0) (Ym (iV g) e0 (yY (ymf (vf:=#[]) (vc:=#[(pB q)]) a0 (a1 (eh c7))) (bE m fun i7 i8 m=>?_)))
    replace b:=b.k11
    refine yC (yCall FN_66 (a3 e0 e0 e0)) (exact_inner_ok i8 z b8 b) ?_
    rintro _ w ⟨i9,rfl,b⟩
    refine ⟨_,rfl,?_⟩
    refine bE m fun d3 d4 m=>yY (yIs SL_32 e0 e0 b rO5 d4) (yT (r_stn (cs:=[.bool i7.1,i9.v]) (b.k22) ST_31 e0 e0 rfl (mkP mkB (mkS F0)) d4) fun w b=>wK i6 (sR fun _ j0=>Ym (iV h) (eh d0) (Ym (iV 0) rfl (wK j0 (blockQ fun j2 j3=>bE m fun j4 j5 m=>?_)))))
    have j6:∀ (a9:List (List (Bool×LI))) (b0:List Hdr) (f:FV) w,f 2=(pB p)→f 3=(pB q)→f 5=(pB o)→f 7=iV h→f 8=d.v→f 9=i.v→f 32=iV h→f 33=iV g→St w0 ros (box p 22 [k.v]::box q 32 [x.v]::box o 31 [.bool false,hnil.v]::row 32 rH d.v b0::fam 31 (rP rB (rS (rI .u32))) b0 a9::row 31 (rP rB (rS (rI .u32))) i.v d3::rs) w→a9=j4→j2 (.exit 3) (fr 68 f) w:=by
     intro a9 b0 f w j7 j8 j9 k0 k4 l0 l1 l2 b ho
     subst ho
     refine j3 _ _ _ (i4 _ _ _ (i3 _ _ (wR (yY (yadd (eh l2) rfl) (Ym (iV (wa .i64 g 1)) e0 (wN ?_))))))
     cases m
     exact h7 _ _ _ rfl ⟨_,_,_,_,_,rfl,rfl,j7,j8,j9,k0,k4,l0,l1,rfl,b⟩
    refine loopQ (fun s a w=>∃ (b1:List (List (Bool×LI))) (A:Int) (f:FV) (b2:List Hdr),(b1,A)=s∧a=fr 68 f∧f 2=(pB p)∧f 3=(pB q)∧f 5=(pB o)∧f 7=iV h∧f 8=d.v∧f 9=i.v∧f 10=iV g∧f 32=iV h∧f 33=iV g∧f 43=iV h∧f 44=iV A∧St w0 ros (box p 22 [k.v]::box q 32 [x.v]::box o 31 [.bool false,hnil.v]::row 32 rH d.v b2::fam 31 (rP rB (rS (rI .u32))) b2 b1::row 31 (rP rB (rS (rI .u32))) i.v d3::rs) w) j5 ⟨_,_,_,_,rfl,rfl,c6,c7,c8,d0,d1,a7,rfl,d2,a8,rfl,rfl,((b.k2k).facts (allT allI))⟩ ?_
    rintro _ _ w n2 ⟨b1,A,f,b2,rfl,rfl,F,d5,d6,d7,r,d8,t,d9,e1,e2,b3,b⟩ j l3 n3 l4 l5
    refine sR fun _ l6=>yY (ylss (eh b3) (eh e2)) (wK l6 (seqQ fun n6 l7 l8=>?_))
    refine cIf e0 j (fun l9 j=>?_) fun l9 j=>?_
    ·refine wp_skip (l7 _ _ (sQ fun _ m0=>blockQ fun _ m1=>sR fun _ m2=>Ym (iV A) (eh b3) (yBb (rAl b ZT_3) fun m3 w b=>yT (r_stb1 (vals':=[iV A]) b O_3 e0 e0 rfl rfl rfl rfl) fun w b=>wK m2 (bE j fun n7 e3 j=>?_))))
     refine bE j fun G m4 j=>bE j fun n8 m5 j=>bE j fun n9 e4 j=>dR [0,0,0,0,12,28,0,0,0,448,960,2044,4095,8191] [9,10,11,13] 4 folM ?_
     replace b:=b.drew
     refine Dn [0,1,2,3,4,5,6,7,8] [] [9] (yR rfl (m_ d.v (eh r)) (yR rfl (m_ (iV g) (eh t)) (yR rfl (m_ d.v (eh r)) (yR rfl (m_ (iV g) (eh t)) ?_))))
     obtain ⟨o0,y⟩:=b.famI R5 e3
     refine yR rfl (yIa SLH_22 e0 e0 b rO4 y) (yR rfl (yF1 O_32 e0 b rO4 y rfl) (yR rfl (lb_ k.v O_22 (eh F) b R1) (yR rfl (m_ (iV g) (eh t)) (yR rfl (ymf (vf:=#[]) (vc:=#[(pB p),(pB m3)]) a0 (a2 (eh F) e0)) (Rn QSn ?_)))))
     refine Lc1 rfl ?_
     replace b:=b.k11
     refine Lk wn (yCall FN_66 (a3 e0 e0 e0)) (exact_inner_v2_ok m4 z z b) ?_
     rintro _ w ⟨e5,rfl,b⟩
     refine ⟨_,rfl,?_⟩
     refine Dn [] [0,1,2,3,4,5] [10] (Rn (yS rfl (m_ d.v (eh r)) (yS rfl (m_ (iV g) (eh t)) (yS rfl (m_ d.v (eh r)) (yS rfl (m_ (iV g) (eh t)) (yS rfl (yIa SLH_22 e0 e0 b rO4 y) (yS rfl (yF1 O_32 e0 b rO4 y rfl) QSn)))))) ?_)
     refine Lc1 rfl ?_
     refine LH wn (rLt (n:=1) (l:=[(G.1,G.2)]) b SL_32 [.agg #[.bool G.1,e5.v]] (bp1 e0) rfl rfl (mks1 (cs:=[.bool G.1,e5.v]) rfl (mkP mkB (mkS F0)) mks0)) fun o1 w b=>Dn [] [0,1,2,3,4,5] [11] (Rn (yS rfl (m_ d.v (eh r)) (yS rfl (m_ (iV g) (eh t)) (yS rfl (m_ d.v (eh r)) (yS rfl (m_ (iV g) (eh t)) (yS rfl (yIa SLH_22 e0 e0 b rO5 y) (yS rfl (yF1 O_32 e0 b rO5 y rfl) QSn)))))) ?_)
     refine Lc1 rfl ?_
     replace b:=(b.k25).foc y e3
     refine LH wn (rAp b SL_32 e0 e0 rO2 m5) fun e6 w b=>Dn [12] [0,1] [13] ?_
     obtain ⟨o2,b4⟩:=setI_len (u:=e6) e4 (b.famLx (mtR mhR))
     refine yR rfl (yIs SLH_22 e0 e0 b rO7 b4) (Rn (yS rfl (m_ d.v (eh r)) (yS rfl (m_ (iV g) (eh t)) QSn)) ?_)
     refine Lc1 rfl ?_
     replace b:=b.k2l
     refine LT wn (r_sti (cs:=[e6.v]) b O_32 rfl e0 e0 rfl (mkF rfl) b4) fun w b=>?_
     replace b:=(b.k19).unfS y b4 e4
     refine Dz [] [] (Rn QSn (m1 _ _ _ (m0 _ _ (wR (yY (yadd (eh b3) rfl) (Ym (iV (wa .i64 A 1)) e0 (wN ?_)))))))
     cases j
     exact l4 _ _ _ rfl ⟨_,_,_,_,rfl,rfl,F,d5,d6,d7,r,d8,t,d9,e1,e2,rfl,((b.k2m).facts (allT allI))⟩
    ·refine wp_exit (l8 _ _ _ rfl ?_)
     cases j
     exact l5 _ _ _ _ rfl rfl (j6 _ _ _ _ F d5 d6 d7 r d8 d9 e1 b (l3 _ rfl))
   ·refine wp_exit (i1 _ _ _ rfl ?_)
    cases m
    exact h8 _ _ _ _ rfl rfl (g9 _ _ _ _ _ c8 d1 a7 (b.k2n) (h6 _ rfl))
  ·refine condT e0 (nT (dF N)) (sR fun _ m6=>yY (ybuild (us:=[.bool false,hnil.v]) [] SO_31 bp0 rfl) (Ya hnil.v rfl (yT (r_stbn (vals':=[.bool false,hnil.v]) (us:=[.bool false,hnil.v]) b ST_31 e0 e0 rfl rfl (one_of rfl) rfl) fun w b=>Ya (iV 2) rfl (wK m6 (wp_ret (K _ _ _ (c1 _ _ _ rfl ?_)))))))
   cases c
   replace b:=(b.rowNh 31 (rP rB (rS (rI .u32)))).immNh (rI .u32)
   exact J _ _ _ (fin3r Tryz.results20 ⟨rfl,rfl⟩ (rcs2 rfl rfl b R1 ST_31 rfl) ⟨rfl,rfl⟩ ⟨_,_,rfl,(b.k2o)⟩)
 ·refine condT e0 (nT (dF L)) (sR fun _ m7=>yY (ybuild (us:=[.bool false,hnil.v]) [] SO_31 bp0 rfl) (Ym (iV B) e0 (Ya hnil.v rfl (yT (r_stbn (vals':=[.bool false,hnil.v]) (us:=[.bool false,hnil.v]) b ST_31 e0 e0 rfl rfl (one_of rfl) rfl) fun w b=>Ya (iV B) e0 (wK m7 (wp_ret (K _ _ _ (c1 _ _ _ rfl ?_))))))))
  cases c
  replace b:=(b.rowNh 31 (rP rB (rS (rI .u32)))).immNh (rI .u32)
  exact J _ _ _ (fin3r Tryz.results20 ⟨rfl,rfl⟩ (rcs2 rfl rfl b R1 ST_31 rfl) ⟨rfl,rfl⟩ ⟨_,_,rfl,(b.k2o)⟩)
theorem sparsekit_Limbs_ok {q r:LI} {h i:Hdr} {out:Bool} (d:sparsekit_Limbs q r=some out) (j:imm (rI .u32) h.v q∈ros) (l:imm (rI .u32) i.v r∈ros) (b:St w0 ros rs w):
  Calls Tryz.prog 69 #[h.v,i.v] w (fun e w=>e=.returned (.bool out)∧St w0 ros rs w):=by
 refine enterQ Tryz.func69 rfl Tryz.ntmps69 rfl fun Q m=>sR fun _ E=>Ya (.bool false) rfl (wK E (seqQ fun a4 F G=>sR fun _ H=>Ym h.v e0 (yY (yLen SL_29 e0 b (rdI j)) (Ym i.v e0 (yY (yLen SL_29 e0 b (rdI l)) (yY (yneq e0 e0) ?_))))))
 refine wK H ?_
 rcases iteS d with ⟨n,d⟩ | ⟨n,d⟩
 ·refine condF e0 (nF (dT n)) (wp_skip (F _ _ (seqQ fun a5 I J=>sR fun _ K=>Ya (iV 0) rfl (wK K (blockQ fun t u=>bE d fun x L d=>?_)))))
  have N:∀ (f:FV) w,St w0 ros rs w→.inl ()=x→t (.exit 0) (fr 26 f) w:=by
   intro f w b ho
   subst ho
   refine u _ _ _ (I _ _ (sR fun _ O=>Ya (.bool true) rfl (wK O (wp_ret ?_))))
   cases d
   exact m _ _ _ (fin1r Tryz.results69 ⟨rfl,rfl⟩ ⟨rfl,b⟩)
  have R:∀ (f:FV) w,f 4=.bool false→St w0 ros rs w→.inr ()=x→t .ret (fr 26 f) w:=by
   intro f w S b ho
   subst ho
   refine u _ _ _ (J _ _ _ rfl ?_)
   cases d
   exact m _ _ _ (fin1r Tryz.results69 ⟨rfl,S⟩ ⟨rfl,b⟩)
  refine loopQ (fun s a w=>∃ (g:Int) (f:FV),g=s∧a=fr 26 f∧f 0=h.v∧f 1=i.v∧f 5=iV g∧St w0 ros rs w) L ⟨_,_,rfl,rfl,rfl,rfl,rfl,b⟩ ?_
  rintro _ _ w a6 ⟨g,f,rfl,rfl,o,y,k,b⟩ c z a7 T A
  refine seqQ fun a8 U V=>sR fun _ W=>Ym (iV g) (eh k) (Ym h.v (eh o) (yY (yLen SL_29 e0 b (rdI j)) (yY (ylss e0 e0) (wK W ?_))))
  refine cIf e0 c (fun X c=>?_) fun X c=>?_
  ·refine wp_skip (U _ _ (seqQ fun a9 Z a0=>blockQ fun _ B=>sQ fun _ a1=>bE c fun b0 C c=>bE c fun b1 D c=>dR [0,0,3,7,0,0,48,112,255] [] 0 folM ?_))
   replace b:=b.drew
   refine Dz [0,1,2,3,4,5,6,7,8] [] (yR rfl (m_ h.v (eh o)) (yR rfl (m_ (iV g) (eh k)) (yR rfl (yIa SL_29 e0 e0 b (rdI j) C) (yR rfl (yI O_103 e0 b (rdI j) C) (yR rfl (m_ i.v (eh y)) (yR rfl (m_ (iV g) (eh k)) (yR rfl (yIa SL_29 e0 e0 b (rdI l) D) (yR rfl (yI O_103 e0 b (rdI l) D) (yR rfl (yneq e0 e0) (Rn QSn (a1 _ _ ?_)))))))))))
   rcases iteS c with ⟨p,c⟩ | ⟨p,c⟩
   ·refine condF e0 (nF (dT p)) (wp_skip (B _ _ _ (Z _ _ (wR (Ym (iV g) (eh k) (yY (yadd e0 rfl) (Ya (iV (wa .i64 g 1)) e0 (wN ?_))))))))
    cases c
    exact T _ _ _ rfl ⟨_,_,rfl,rfl,o,y,rfl,b⟩
   ·refine condT e0 (nT (dF p)) (sR fun _ a2=>Ya (.bool false) rfl (wK a2 (wp_ret (B _ _ _ (a0 _ _ _ rfl ?_)))))
    cases c
    exact A _ _ _ _ rfl rfl (R _ _ rfl b (z _ rfl))
  ·refine wp_exit (V _ _ _ rfl ?_)
   cases c
   exact A _ _ _ _ rfl rfl (N _ _ b (z _ rfl))
 ·refine condT e0 (nT (dF n)) (sR fun _ a3=>Ya (.bool false) rfl (wK a3 (wp_ret (G _ _ _ rfl ?_))))
  cases d
  exact m _ _ _ (fin1r Tryz.results69 ⟨rfl,rfl⟩ ⟨rfl,b⟩)
theorem sparsekit_Big_ok {d:Bool} {k:LI} {g:Bool} {l:LI} {h i:Hdr} {out:Bool} (j:sparsekit_Big d k g l=some out) (o:imm (rI .u32) h.v k∈ros) (p:imm (rI .u32) i.v l∈ros) (a:St w0 ros rs w):
  Calls Tryz.prog 23 #[.agg #[.bool d,h.v],.agg #[.bool g,i.v]] w (fun e w=>e=.returned (.bool out)∧St w0 ros rs w):=by
 refine enterQ Tryz.func23 rfl Tryz.ntmps23 rfl fun Q q=>sR fun _ r=>yBb (r_box (vals:=[.bool d,h.v]) a e0 rfl) fun y w a=>yBb (r_box (vals:=[.bool g,i.v]) a e0 rfl) fun z w a=>Ya (.bool false) rfl (wK r (sR fun _ s=>yY (yFb FL_31_0 e0) (yY (lb_ (.bool d) O_4 e0 a R1) ?_)))
 refine yY (yFb FL_31_0 e0) (yY (lb_ (.bool g) O_4 e0 a R0) (yY (yeqb (by kernel_rfl) e0 e0) (Ym (.bool (d == g)) e0 (bE j fun m c j=>?_))))
 refine joinW 6 (fun f w=>f 16=.bool m∧St w0 ros rs w) (fun n=>?_) ?_
 ·rcases iteS c with ⟨b,c⟩ | ⟨b,c⟩
  ·refine yG b (yFb FL_31_1 e0) (yG b (lb_ h.v O_29 e0 a R1) (yG b (yFb FL_31_1 e0) (yG b (lb_ i.v O_29 e0 a R0) (bE c fun t u c=>Yc (wG b) rfl (yCall FN_69 (a2 e0 e0)) (sparsekit_Limbs_ok u o p a) ?_))))
   rintro _ w ⟨rfl,a⟩
   refine ⟨_,rfl,?_⟩
   refine yY (pt_ (.bool t) e0 b e0) ?_
   cases c
   exact n _ _ ⟨rfl,(a.k14)⟩
  ·refine gN (bfalse b) (gN (bfalse b) (gN (bfalse b) (gN (bfalse b) (gN (bfalse b) (yY (pf_ (.bool false) e0 (bfalse b) rfl) ?_)))))
   cases c
   exact n _ _ ⟨rfl,(a.k14)⟩
 rintro f w ⟨x,a⟩
 refine Ya (.bool m) (eh x) (wK s (wp_ret ?_))
 cases j
 exact q _ _ _ (fin1r Tryz.results23 ⟨rfl,rfl⟩ ⟨rfl,a⟩)
theorem sparsekit_Bigs_ok {q r:List (Bool×LI)} {h i:Hdr} {out:Bool} (d:sparsekit_Bigs q r=some out) (j:imm (rP rB (rS (rI .u32))) h.v q∈ros) (l:imm (rP rB (rS (rI .u32))) i.v r∈ros) (b:St w0 ros rs w):
  Calls Tryz.prog 22 #[h.v,i.v] w (fun e w=>e=.returned (.bool out)∧St w0 ros rs w):=by
 refine enterQ Tryz.func22 rfl Tryz.ntmps22 rfl fun Q m=>sR fun _ E=>Ya (.bool false) rfl (wK E (seqQ fun b0 F G=>sR fun _ H=>Ym h.v e0 (yY (yLen SL_32 e0 b (rdI j)) (Ym i.v e0 (yY (yLen SL_32 e0 b (rdI l)) (yY (yneq e0 e0) ?_))))))
 refine wK H ?_
 rcases iteS d with ⟨n,d⟩ | ⟨n,d⟩
 ·refine condF e0 (nF (dT n)) (wp_skip (F _ _ (seqQ fun b1 I J=>sR fun _ K=>Ya (iV 0) rfl (wK K (blockQ fun t u=>bE d fun x L d=>?_)))))
  have N:∀ (f:FV) w,St w0 ros rs w→.inl ()=x→t (.exit 0) (fr 27 f) w:=by
   intro f w b ho
   subst ho
   refine u _ _ _ (I _ _ (sR fun _ O=>Ya (.bool true) rfl (wK O (wp_ret ?_))))
   cases d
   exact m _ _ _ (fin1r Tryz.results22 ⟨rfl,rfl⟩ ⟨rfl,b⟩)
  have R:∀ (f:FV) w,f 4=.bool false→St w0 ros rs w→.inr ()=x→t .ret (fr 27 f) w:=by
   intro f w S b ho
   subst ho
   refine u _ _ _ (J _ _ _ rfl ?_)
   cases d
   exact m _ _ _ (fin1r Tryz.results22 ⟨rfl,S⟩ ⟨rfl,b⟩)
  refine loopQ (fun s a w=>∃ (g:Int) (f:FV),g=s∧a=fr 27 f∧f 0=h.v∧f 1=i.v∧f 5=iV g∧St w0 ros rs w) L ⟨_,_,rfl,rfl,rfl,rfl,rfl,b⟩ ?_
  rintro _ _ w b2 ⟨g,f,rfl,rfl,o,y,k,b⟩ c z b3 T A
  refine seqQ fun b4 U V=>sR fun _ W=>Ym (iV g) (eh k) (Ym h.v (eh o) (yY (yLen SL_32 e0 b (rdI j)) (yY (ylss e0 e0) (wK W ?_))))
  refine cIf e0 c (fun X c=>?_) fun X c=>?_
  ·refine wp_skip (U _ _ (seqQ fun b5 Z a0=>blockQ fun _ B=>sQ fun _ a1=>bE c fun a3 C c=>bE c fun a4 D c=>bE c fun b6 a5 c=>dR [0,0,3,7,0,0,48,112,255,511] [8] 1 folM ?_))
   replace b:=b.drew
   refine Dn [0,1,2,3,4,5,6,7] [] [8] (yR rfl (m_ h.v (eh o)) (yR rfl (m_ (iV g) (eh k)) (yR rfl (yIa SL_32 e0 e0 b (rdI j) C) ?_)))
   obtain ⟨b7,b8,b⟩:=iLd b j C
   obtain ⟨b9,c0,rfl,b⟩:=b.eltP
   obtain ⟨rfl,b⟩:=b.eltB
   obtain ⟨a6,rfl,b⟩:=b.eltS
   refine yR rfl (yCtn (cs:=[.bool a3.1,a6.v]) ST_31 rfl e0 b F1) (yR rfl (m_ i.v (eh y)) (yR rfl (m_ (iV g) (eh k)) (yR rfl (yIa SL_32 e0 e0 b (rdI (F_2 l)) D) ?_)))
   obtain ⟨c1,c2,b⟩:=iLd b (F_2 l) D
   obtain ⟨c3,c4,rfl,b⟩:=b.eltP
   obtain ⟨rfl,b⟩:=b.eltB
   obtain ⟨a7,rfl,b⟩:=b.eltS
   refine yR rfl (yCtn (cs:=[.bool a4.1,a7.v]) ST_31 rfl e0 b F1) (Rn QSn ?_)
   refine Lc1 rfl ?_
   refine Lk wn (yCall FN_23 (a2 e0 e0)) (sparsekit_Big_ok a5 F2 F0 b) ?_
   rintro _ w ⟨rfl,b⟩
   refine ⟨_,rfl,?_⟩
   refine Dz [9] [] (yR rfl (ynot e0) (Rn QSn (a1 _ _ ?_)))
   rcases iteS c with ⟨p,c⟩ | ⟨p,c⟩
   ·refine condF e0 (nF p) (wp_skip (B _ _ _ (Z _ _ (wR (Ym (iV g) (eh k) (yY (yadd e0 rfl) (Ya (iV (wa .i64 g 1)) e0 (wN ?_))))))))
    cases c
    exact T _ _ _ rfl ⟨_,_,rfl,rfl,o,y,rfl,(b.facts (allT (allT (allT (allT allI)))))⟩
   ·refine condT e0 (nT (bfalse p)) (sR fun _ a8=>Ya (.bool false) rfl (wK a8 (wp_ret (B _ _ _ (a0 _ _ _ rfl ?_)))))
    cases c
    exact A _ _ _ _ rfl rfl (R _ _ rfl (b.facts (allT (allT (allT (allT allI))))) (z _ rfl))
  ·refine wp_exit (V _ _ _ rfl ?_)
   cases c
   exact A _ _ _ _ rfl rfl (N _ _ b (z _ rfl))
 ·refine condT e0 (nT (dF n)) (sR fun _ a9=>Ya (.bool false) rfl (wK a9 (wp_ret (G _ _ _ rfl ?_))))
  cases d
  exact m _ _ _ (fin1r Tryz.results22 ⟨rfl,rfl⟩ ⟨rfl,b⟩)
theorem sparsekit_Rows_ok {q r:List (List (Bool×LI))} {h i:Hdr} {out:Bool} (d:sparsekit_Rows q r=some out) (j:imm (rS (rP rB (rS (rI .u32)))) h.v q∈ros) (l:imm (rS (rP rB (rS (rI .u32)))) i.v r∈ros) (b:St w0 ros rs w):
  Calls Tryz.prog 21 #[h.v,i.v] w (fun e w=>e=.returned (.bool out)∧St w0 ros rs w):=by
 refine enterQ Tryz.func21 rfl Tryz.ntmps21 rfl fun Q m=>sR fun _ E=>Ya (.bool false) rfl (wK E (seqQ fun a6 F G=>sR fun _ H=>Ym h.v e0 (yY (yLen SL_22 e0 b (rdI j)) (Ym i.v e0 (yY (yLen SL_22 e0 b (rdI l)) (yY (yneq e0 e0) ?_))))))
 refine wK H ?_
 rcases iteS d with ⟨n,d⟩ | ⟨n,d⟩
 ·refine condF e0 (nF (dT n)) (wp_skip (F _ _ (seqQ fun a7 I J=>sR fun _ K=>Ya (iV 0) rfl (wK K (blockQ fun t u=>bE d fun x L d=>?_)))))
  have N:∀ (f:FV) w,St w0 ros rs w→.inl ()=x→t (.exit 0) (fr 27 f) w:=by
   intro f w b ho
   subst ho
   refine u _ _ _ (I _ _ (sR fun _ O=>Ya (.bool true) rfl (wK O (wp_ret ?_))))
   cases d
   exact m _ _ _ (fin1r Tryz.results21 ⟨rfl,rfl⟩ ⟨rfl,b⟩)
  have R:∀ (f:FV) w,f 4=.bool false→St w0 ros rs w→.inr ()=x→t .ret (fr 27 f) w:=by
   intro f w S b ho
   subst ho
   refine u _ _ _ (J _ _ _ rfl ?_)
   cases d
   exact m _ _ _ (fin1r Tryz.results21 ⟨rfl,S⟩ ⟨rfl,b⟩)
  refine loopQ (fun s a w=>∃ (g:Int) (f:FV),g=s∧a=fr 27 f∧f 0=h.v∧f 1=i.v∧f 5=iV g∧St w0 ros rs w) L ⟨_,_,rfl,rfl,rfl,rfl,rfl,b⟩ ?_
  rintro _ _ w a8 ⟨g,f,rfl,rfl,o,y,k,b⟩ c z a9 T A
  refine seqQ fun b0 U V=>sR fun _ W=>Ym (iV g) (eh k) (Ym h.v (eh o) (yY (yLen SL_22 e0 b (rdI j)) (yY (ylss e0 e0) (wK W ?_))))
  refine cIf e0 c (fun X c=>?_) fun X c=>?_
  ·refine wp_skip (U _ _ (seqQ fun b1 Z a0=>blockQ fun _ B=>sQ fun _ a1=>bE c fun b2 C c=>bE c fun b3 D c=>bE c fun b4 a3 c=>dR [0,0,3,7,0,0,48,112,255,511] [8] 1 folM ?_))
   replace b:=b.drew
   refine Dn [0,1,2,3,4,5,6,7] [] [8] (yR rfl (m_ h.v (eh o)) (yR rfl (m_ (iV g) (eh k)) (yR rfl (yIa SL_22 e0 e0 b (rdI j) C) ?_)))
   obtain ⟨b5,b⟩:=iLs b j C
   refine yR rfl (yCt O_32 e0 b F1 rfl) (yR rfl (m_ i.v (eh y)) (yR rfl (m_ (iV g) (eh k)) (yR rfl (yIa SL_22 e0 e0 b (rdI (F_2 l)) D) ?_)))
   obtain ⟨b6,b⟩:=iLs b (F_2 l) D
   refine yR rfl (yCt O_32 e0 b F1 rfl) (Rn QSn ?_)
   refine Lc1 rfl ?_
   refine Lk wn (yCall FN_22 (a2 e0 e0)) (sparsekit_Bigs_ok a3 F2 F0 b) ?_
   rintro _ w ⟨rfl,b⟩
   refine ⟨_,rfl,?_⟩
   refine Dz [9] [] (yR rfl (ynot e0) (Rn QSn (a1 _ _ ?_)))
   rcases iteS c with ⟨p,c⟩ | ⟨p,c⟩
   ·refine condF e0 (nF p) (wp_skip (B _ _ _ (Z _ _ (wR (Ym (iV g) (eh k) (yY (yadd e0 rfl) (Ya (iV (wa .i64 g 1)) e0 (wN ?_))))))))
    cases c
    exact T _ _ _ rfl ⟨_,_,rfl,rfl,o,y,rfl,(b.facts (allT (allT (allT (allT allI)))))⟩
   ·refine condT e0 (nT (bfalse p)) (sR fun _ a4=>Ya (.bool false) rfl (wK a4 (wp_ret (B _ _ _ (a0 _ _ _ rfl ?_)))))
    cases c
    exact A _ _ _ _ rfl rfl (R _ _ rfl (b.facts (allT (allT (allT (allT allI))))) (z _ rfl))
  ·refine wp_exit (V _ _ _ rfl ?_)
   cases c
   exact A _ _ _ _ rfl rfl (N _ _ b (z _ rfl))
 ·refine condT e0 (nT (dF n)) (sR fun _ a5=>Ya (.bool false) rfl (wK a5 (wp_ret (G _ _ _ rfl ?_))))
  cases d
  exact m _ _ _ (fin1r Tryz.results21 ⟨rfl,rfl⟩ ⟨rfl,b⟩)
end Go.Proofs.YtpfmbaidflhamaaGreatDoor
