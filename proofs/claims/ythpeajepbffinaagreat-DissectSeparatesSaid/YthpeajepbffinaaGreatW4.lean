/- Walks: each function computes its model, printed. -/
import Derived.Test.YthpeajepbffinaaGreatW3
namespace Go.Proofs.YthpeajepbffinaaGreat
open Go Sx M
set_option maxRecDepth 100000
set_option maxHeartbeats 40000000
set_option linter.unusedVariables false
attribute [local irreducible] wpList Code.wp Calls DR QR QS LA LS St
variable {w0:World} {ros:List Fact} {rs:List Res} {w:World}
theorem sparselaw18_awake_ok {out:Bool} (k:sparselaw18_awake=some out) (a:St w0 ros rs w):
  Calls Tryz.prog 8 #[] w (fun e w=>e=.returned (.bool out)∧St w0 ros rs w):=by
 refine enterQ Tryz.func8 rfl Tryz.ntmps8 rfl fun Q E=>sR fun _ F=>Ya (.bool false) rfl (wK F (sR fun _ G=>yH (rLt (n:=1) (l:=[1]) a SL_22 [iV 1] (bp1 rfl) rfl rfl (mks1 (cs:=[iV 1]) rfl mkI mks0)) fun p w a=>yH (rLt (n:=2) (l:=[0,2]) a SL_22 [iV 0,iV 2] (bp2 rfl rfl) rfl rfl (mks1 (cs:=[iV 0]) rfl mkI (mks1 (cs:=[iV 2]) rfl mkI mks0))) fun q w a=>yH (rLt (n:=2) (l:=[1,3]) a SL_22 [iV 1,iV 3] (bp2 rfl rfl) rfl rfl (mks1 (cs:=[iV 1]) rfl mkI (mks1 (cs:=[iV 3]) rfl mkI mks0))) fun r w a=>?_))
 refine yH (rLt (n:=1) (l:=[2]) a SL_22 [iV 2] (bp1 rfl) rfl rfl (mks1 (cs:=[iV 2]) rfl mkI mks0)) fun s w a=>yH (rLt (n:=4) (l:=[[1],[0,2],[1,3],[2]]) (((((((a.pk 4 [3,0,0,0] rfl).fz).pk 3 [2,0,0] rfl).fz).pk 2 [1,0] rfl).fz).fz) SL_24 [p.v,q.v,r.v,s.v] (bp4 e0 e0 e0 e0) rfl rfl (mks1 (cs:=[p.v]) rfl (mkS F3) (mks1 (cs:=[q.v]) rfl (mkS F2) (mks1 (cs:=[r.v]) rfl (mkS F1) (mks1 (cs:=[s.v]) rfl (mkS F0) mks0))))) fun d w a=>yY (ybuild (us:=[d.v]) [(0,d.v)] SO_26 (bp1 e0) rfl) (yBb (rAl a ZT_26) fun t w a=>yT (r_stbn (vals':=[d.v]) (us:=[d.v]) a ST_26 e0 e0 rfl rfl (one_of rfl) rfl) fun w a=>wK G (sR fun _ H=>yY (lbs_ [d.v] ST_26 e0 a R0) ?_))
 refine bE k fun g I k=>?_
 replace a:=(a.pk 2 [1,0] rfl).fz
 refine yC (yCall FN_27 (a1 e0)) (dissect_Separate_ok I F0 a) ?_
 rintro _ w ⟨h,i,j,rfl,a⟩
 refine ⟨_,rfl,?_⟩
 refine Ym (.tuple #[.agg #[h.v,i.v,j.v],iV g.2.2.2]) e0 (yY (x_ (.agg #[h.v,i.v,j.v]) e0) (yY (x_ (iV g.2.2.2) e0) (yBb (rAl a ZT_46) fun u w a=>yT (r_stbn (vals':=[h.v,i.v,j.v]) (us:=[h.v,i.v,j.v]) a ST_46 e0 e0 rfl rfl (one_of rfl) rfl) fun w a=>Ya (iV g.2.2.2) e0 (wK H (sR fun _ J=>Ym (iV g.2.2.2) e0 (yY (yeql e0 rfl) ?_))))))
 refine Ym (.bool (decide (g.2.2.2=0))) e0 (bE k fun x m k=>?_)
 refine joinW 7 (fun f w=>f 1=(pB t)∧f 2=(pB u)∧f 24=.bool x∧St w0 (imm S1 d.v [[1],[0,2],[1,3],[2]]::imm I1 h.v g.1::imm I1 i.v g.2.1::imm I1 j.v g.2.2.1::ros) (box t 26 [d.v]::box u 46 [h.v,i.v,j.v]::rs) w) (fun y=>?_) ?_
 ·rcases iteS m with ⟨b,m⟩ | ⟨b,m⟩
  ·refine yG (dT b) (lbs_ [h.v,i.v,j.v] ST_46 e0 a R0) (YH (wG (dT b)) rfl (rLt (n:=2) (l:=[0,1]) a SL_22 [iV 0,iV 1] (bp2 rfl rfl) rfl rfl (mks1 (cs:=[iV 0]) rfl mkI (mks1 (cs:=[iV 1]) rfl mkI mks0))) fun z w a=>YH (wG (dT b)) rfl (rLt (n:=1) (l:=[3]) a SL_22 [iV 3] (bp1 rfl) rfl rfl (mks1 (cs:=[iV 3]) rfl mkI mks0)) fun A w a=>YH (wG (dT b)) rfl (rLt (n:=1) (l:=[2]) a SL_22 [iV 2] (bp1 rfl) rfl rfl (mks1 (cs:=[iV 2]) rfl mkI mks0)) fun B w a=>yG (dT b) (ybuild (us:=[z.v,A.v,B.v]) [(0,z.v),(1,A.v),(2,B.v)] SO_46 (bp3 e0 e0 e0) rfl) (bE m fun K L m=>?_))
   replace a:=((((((((((a.pk 5 [4,0,0,0,0] rfl).fz).pk 5 [4,0,0,0,0] rfl).fz).pk 5 [4,0,0,0,0] rfl).fz).pk 3 [2,0,0] rfl).fz).pk 2 [1,0] rfl).fz).fz
   refine Yc (wG (dT b)) rfl (yCall FN_31 (a2 e0 e0)) (sparsekit_Split_ok L F5 F4 F3 F2 F1 F0 a) ?_
   rintro _ w ⟨rfl,a⟩
   refine ⟨_,rfl,?_⟩
   refine yY (pt_ (.bool K) e0 (dT b) e0) ?_
   cases m
   exact y _ _ ⟨rfl,rfl,rfl,((a.pk 2 [1,0] rfl).facts (allC F6 (allC F5 (allC F4 (allC F3 (allT (allT (allT (allT (allT (allT (allT (allT (allT (allT (allT allI))))))))))))))))⟩
  refine gN (dF b) (gN (dF b) (gN (dF b) (gN (dF b) (gN (dF b) (gN (dF b) (yY (pf_ (.bool false) e0 (dF b) rfl) ?_))))))
  cases m
  replace a:=(((((a.pk 2 [1,0] rfl).fz).pk 2 [1,0] rfl).fz).pk 2 [1,0] rfl).fz
  exact y _ _ ⟨rfl,rfl,rfl,((a.pk 2 [1,0] rfl).facts (allC F3 (allC F2 (allC F1 (allC F0 (allT (allT (allT (allT (allT (allT (allT (allT allI)))))))))))))⟩
 rintro f w ⟨N,O,R,a⟩
 refine Ym (.bool x) (eh R) (bE k fun C o k=>?_)
 refine joinW 5 (fun f w=>f 30=.bool C∧St w0 ros rs w) (fun D=>?_) ?_
 ·rcases iteS o with ⟨c,o⟩ | ⟨c,o⟩
  ·refine yG c (lbs_ [d.v] ST_26 (eh N) a R0) (yG c (lbs_ [h.v,i.v,j.v] ST_46 (eh O) a R1) (bE o fun S T o=>Yc (wG c) rfl (yCall FN_32 (a2 e0 e0)) (dissect_Check_ok T F0 F1 F2 F3 a) ?_))
   rintro _ w ⟨rfl,a⟩
   refine ⟨_,rfl,?_⟩
   refine yG c (yeql e0 rfl) (yY (pt_ (.bool (decide (S=0))) e0 c e0) ?_)
   cases o
   exact D _ _ ⟨rfl,((a.pk 2 [] rfl).facts (allT (allT (allT (allT allI)))))⟩
  refine gN (bfalse c) (gN (bfalse c) (gN (bfalse c) (gN (bfalse c) (yY (pf_ (.bool false) e0 (bfalse c) rfl) ?_))))
  cases o
  exact D _ _ ⟨rfl,((a.pk 2 [] rfl).facts (allT (allT (allT (allT allI)))))⟩
 rintro f w ⟨U,a⟩
 refine Ya (.bool C) (eh U) (wK J (wp_ret ?_))
 cases k
 exact E _ _ _ (fin1r Tryz.results8 ⟨rfl,rfl⟩ ⟨rfl,a⟩)
theorem sparsekit_TwinInts_ok {q:LI} {h:Hdr} {out:LI} (i:sparsekit_TwinInts q=some out) (j:imm I1 h.v q∈ros) (b:St w0 ros rs w):
  Calls Tryz.prog 47 #[h.v] w (fun e w=>∃ (r:Hdr),e=.returned (r.v)∧St w0 ros (row 3 I1 r.v out::rs) w):=by
 refine enterQ Tryz.func47 rfl Tryz.ntmps47 rfl fun Q x=>sR fun _ y=>Ya hnil.v rfl (wK y (sR fun _ z=>Ya hnil.v rfl (wK z (sQ fun _ A=>sR fun _ B=>?_))))
 refine Ya (iV 0) rfl (wK B (blockQ fun _ C=>bE i fun T D i=>?_))
 replace b:=b.rowNh 3 I1
 refine loopQ (fun s a w=>∃ (k:LI) (d:Int) (f:FV) (g:Hdr),(k,d)=s∧a=fr 19 f∧f 0=h.v∧f 3=g.v∧f 4=iV d∧St w0 ros (row 3 I1 g.v k::rs) w) D ⟨_,_,_,_,rfl,rfl,rfl,rfl,rfl,b⟩ ?_
 rintro _ _ w U ⟨k,d,f,g,rfl,rfl,m,t,o,b⟩ c E V F G
 refine seqQ fun W H I=>sR fun _ J=>Ym (iV d) (eh o) (Ym h.v (eh m) (yY (yLen SL_22 e0 b (rdI j)) (yY (ylss e0 e0) (wK J ?_))))
 refine cIf e0 c (fun K c=>?_) fun K c=>?_
 ·refine wp_skip (H _ _ (sQ fun _ L=>blockQ fun _ N=>wR (Ym g.v (eh t) (Ym h.v (eh m) (Ym (iV d) (eh o) (bE c fun p u c=>yY (yIa SL_22 e0 e0 b (rdI j) u) (yY (yI O_3 e0 b (rdI j) u) (yH (rLt (n:=1) (l:=[p]) b SL_22 [iV p] (bp1 e0) rfl rfl (mks1 (cs:=[iV p]) rfl mkI mks0)) fun X w b=>bE c fun Z O c=>?_))))))))
  refine yH (rAp (b.pk 2 [1,0] rfl) SL_22 e0 e0 rO1 O) fun R w b=>Ya R.v e0 (wN (N _ _ _ (L _ _ (wR (Ym (iV d) (eh o) (yY (yadd e0 rfl) (Ya (iV (wa .i64 d 1)) e0 (wN ?_))))))))
  cases c
  exact F _ _ _ rfl ⟨_,_,_,_,rfl,rfl,m,rfl,rfl,(b.pk 2 [0] rfl)⟩
 refine wp_exit (I _ _ _ rfl ?_)
 cases c
 refine G _ _ _ _ rfl rfl ?_
 obtain rfl:=E _ rfl
 refine C _ _ _ (A _ _ (sR fun _ S=>Ym g.v (eh t) (Ya g.v e0 (wK S (wp_ret ?_)))))
 cases i
 exact x _ _ _ (fin1r Tryz.results47 ⟨rfl,rfl⟩ ⟨_,rfl,b⟩)
theorem sparsekit_TwinLists_ok {p:L2} {h:Hdr} {out:L2} (i:sparsekit_TwinLists p=some out) (j:imm S1 h.v p∈ros) (b:St w0 ros rs w):
  Calls Tryz.prog 48 #[h.v] w (fun e w=>∃ (q:Hdr),e=.returned (q.v)∧St w0 ros (row 22 S1 q.v out::rs) w):=by
 refine enterQ Tryz.func48 rfl Tryz.ntmps48 rfl fun Q x=>sR fun _ y=>Ya hnil.v rfl (wK y (sR fun _ z=>Ya hnil.v rfl (wK z (sQ fun _ A=>sR fun _ B=>?_))))
 refine Ya (iV 0) rfl (wK B (blockQ fun _ C=>bE i fun V D i=>?_))
 replace b:=b.rowNh 22 S1
 refine loopQ (fun s a w=>∃ (k:L2) (d:Int) (f:FV) (g:Hdr),(k,d)=s∧a=fr 20 f∧f 0=h.v∧f 3=g.v∧f 4=iV d∧St w0 ros (row 22 S1 g.v k::rs) w) D ⟨_,_,_,_,rfl,rfl,rfl,rfl,rfl,b⟩ ?_
 rintro _ _ w W ⟨k,d,f,g,rfl,rfl,m,r,o,b⟩ c E X F G
 refine seqQ fun Z H I=>sR fun _ J=>Ym (iV d) (eh o) (Ym h.v (eh m) (yY (yLen SL_24 e0 b (rdI j)) (yY (ylss e0 e0) (wK J ?_))))
 refine cIf e0 c (fun K c=>?_) fun K c=>?_
 ·refine wp_skip (H _ _ (sQ fun _ L=>blockQ fun _ N=>wR (Ym g.v (eh r) (Ym h.v (eh m) (Ym (iV d) (eh o) (bE c fun a0 t c=>yY (yIa SL_24 e0 e0 b (rdI j) t) ?_))))))
  obtain ⟨a2,b⟩:=iLs b j t
  refine yY (yCt O_22 e0 b F1 rfl) (bE c fun O R c=>yC (yCall FN_47 (a1 e0)) (sparsekit_TwinInts_ok R F0 b) ?_)
  rintro _ w ⟨u,rfl,b⟩
  refine ⟨_,rfl,?_⟩
  refine yH (rLt (n:=1) (l:=[O]) b.fz SL_24 [u.v] (bp1 e0) rfl rfl (mks1 (cs:=[u.v]) rfl (mkS F0) mks0)) fun a3 w b=>bE c fun a4 S c=>yH (rAp (b.pk 2 [1,0] rfl) SL_24 e0 e0 rO1 S) fun T w b=>Ya T.v e0 (wN (N _ _ _ (L _ _ (wR (Ym (iV d) (eh o) (yY (yadd e0 rfl) (Ya (iV (wa .i64 d 1)) e0 (wN ?_))))))))
  cases c
  exact F _ _ _ rfl ⟨_,_,_,_,rfl,rfl,m,rfl,rfl,((b.pk 2 [0] rfl).facts (allT (allT (allT allI))))⟩
 refine wp_exit (I _ _ _ rfl ?_)
 cases c
 refine G _ _ _ _ rfl rfl ?_
 obtain rfl:=E _ rfl
 refine C _ _ _ (A _ _ (sR fun _ U=>Ym g.v (eh r) (Ya g.v e0 (wK U (wp_ret ?_)))))
 cases i
 exact x _ _ _ (fin1r Tryz.results48 ⟨rfl,rfl⟩ ⟨_,rfl,b⟩)
theorem sparsekit_TwinGraph_ok {f:L2} {b:Hdr} {out:L2} (d:sparsekit_TwinGraph f=some out) (h:imm S1 b.v f∈ros) (a:St w0 ros rs w):
  Calls Tryz.prog 26 #[.agg #[b.v]] w (fun e w=>∃ (g:Hdr),e=.returned (.agg #[g.v])∧St w0 ros (row 22 S1 g.v out::rs) w):=by
 refine enterQ Tryz.func26 rfl Tryz.ntmps26 rfl fun Q i=>sR fun _ j=>yBb (r_box (vals:=[b.v]) a e0 rfl) fun m w a=>yBb (rAl a ZT_26) fun n w a=>wK j (sR fun _ k=>yY (yFb FL_26_0 e0) (yY (lb_ b.v O_24 e0 a R1) (bE d fun o l d=>?_)))
 refine yC (yCall FN_48 (a1 e0)) (sparsekit_TwinLists_ok l h a) ?_
 rintro _ w ⟨c,rfl,a⟩
 refine ⟨_,rfl,?_⟩
 refine yY (ybuild (us:=[c.v]) [(0,c.v)] SO_26 (bp1 e0) rfl) (yT (r_stbn (vals':=[c.v]) (us:=[c.v]) (a.pk 2 [1,0] rfl) ST_26 e0 e0 rfl rfl (one_of rfl) rfl) fun w a=>wK k (wp_ret ?_))
 cases d
 exact i _ _ _ (fin1r Tryz.results26 (rcs2 rfl rfl a R0 ST_26 rfl) ⟨_,rfl,(a.pk 3 [1] rfl)⟩)
theorem sparsekit_Ascending_ok {l:LI} {g:Hdr} {out:Bool} (i:sparsekit_Ascending l=some out) (h:imm I1 g.v l∈ros) (c:St w0 ros rs w):
  Calls Tryz.prog 66 #[g.v] w (fun e w=>e=.returned (.bool out)∧St w0 ros rs w):=by
 refine enterQ Tryz.func66 rfl Tryz.ntmps66 rfl fun Q m=>sR fun _ u=>Ya (.bool false) rfl (wK u (seqQ fun N x y=>sR fun _ z=>Ya (iV 1) rfl (wK z (blockQ fun _ n=>bE i fun O A i=>?_))))
 refine loopQ (fun s a w=>∃ (d:Int) (f:FV),d=s∧a=fr 20 f∧f 0=g.v∧f 3=iV d∧St w0 ros rs w) A ⟨_,_,rfl,rfl,rfl,rfl,c⟩ ?_
 rintro _ _ w R ⟨d,f,rfl,rfl,j,k,c⟩ b o S B p
 refine seqQ fun T C D=>sR fun _ E=>Ym (iV d) (eh k) (Ym g.v (eh j) (yY (yLen SL_22 e0 c (rdI h)) (yY (ylss e0 e0) (wK E ?_))))
 refine cIf e0 b (fun F b=>?_) fun F b=>?_
 ·refine wp_skip (C _ _ (seqQ fun U G H=>blockQ fun _ q=>sQ fun _ I=>bE b fun V r b=>bE b fun W t b=>dR [0,0,3,7,0,0,32,112,240,511] [] 0 folM ?_))
  replace c:=c.drew
  refine Dz [0,1,2,3,4,5,6,7,8,9] [] (yR rfl (m_ g.v (eh j)) (yR rfl (m_ (iV d) (eh k)) (yR rfl (yIa SL_22 e0 e0 c (rdI h) r) (yR rfl (yI O_3 e0 c (rdI h) r) (yR rfl (m_ g.v (eh j)) (yR rfl (m_ (iV d) (eh k)) (yR rfl (ysub e0 rfl) (yR rfl (yIa SL_22 e0 e0 c (rdI h) t) (yR rfl (yI O_3 e0 c (rdI h) t) (yR rfl (yleq e0 e0) (Rn QSn (I _ _ ?_))))))))))))
  refine cIf e0 b (fun J b=>?_) fun J b=>?_
  ·refine sR fun _ K=>Ya (.bool false) rfl (wK K (wp_ret (q _ _ _ (H _ _ _ rfl ?_))))
   cases b
   refine p _ _ _ _ rfl rfl ?_
   obtain rfl:=o _ rfl
   refine n _ _ _ (y _ _ _ rfl ?_)
   cases i
   exact m _ _ _ (fin1r Tryz.results66 ⟨rfl,rfl⟩ ⟨rfl,c⟩)
  refine wp_skip (q _ _ _ (G _ _ (wR (Ym (iV d) (eh k) (yY (yadd e0 rfl) (Ya (iV (wa .i64 d 1)) e0 (wN ?_)))))))
  cases b
  exact B _ _ _ rfl ⟨_,_,rfl,rfl,j,rfl,c⟩
 refine wp_exit (D _ _ _ rfl ?_)
 cases b
 refine p _ _ _ _ rfl rfl ?_
 obtain rfl:=o _ rfl
 refine n _ _ _ (x _ _ (sR fun _ L=>Ya (.bool true) rfl (wK L (wp_ret ?_))))
 cases i
 exact m _ _ _ (fin1r Tryz.results66 ⟨rfl,rfl⟩ ⟨rfl,c⟩)
theorem sparsekit_In_ok {m:LI} {h:Int} {g:Hdr} {out:Bool} (i:sparsekit_In m h=some out) (j:imm I1 g.v m∈ros) (c:St w0 ros rs w):
  Calls Tryz.prog 37 #[g.v,iV h] w (fun e w=>e=.returned (.bool out)∧St w0 ros rs w):=by
 refine enterQ Tryz.func37 rfl Tryz.ntmps37 rfl fun Q n=>sR fun _ x=>Ya (.bool false) rfl (wK x (seqQ fun O y z=>sR fun _ A=>Ya (iV 0) rfl (wK A (blockQ fun _ o=>bE i fun R B i=>?_))))
 refine loopQ (fun s a w=>∃ (d:Int) (f:FV),d=s∧a=fr 18 f∧f 0=g.v∧f 1=iV h∧f 5=iV d∧St w0 ros rs w) B ⟨_,_,rfl,rfl,rfl,rfl,rfl,c⟩ ?_
 rintro _ _ w S ⟨d,f,rfl,rfl,k,p,l,c⟩ b q T C r
 refine seqQ fun U D E=>sR fun _ F=>Ym (iV d) (eh l) (Ym g.v (eh k) (yY (yLen SL_22 e0 c (rdI j)) (yY (ylss e0 e0) (wK F ?_))))
 refine cIf e0 b (fun G b=>?_) fun G b=>?_
 ·refine wp_skip (D _ _ (seqQ fun V H I=>blockQ fun _ t=>sR fun _ J=>Ym g.v (eh k) (Ym (iV d) (eh l) (bE b fun W u b=>yY (yIa SL_22 e0 e0 c (rdI j) u) (yY (yI O_3 e0 c (rdI j) u) (Ym (iV h) (eh p) (yY (yeql e0 e0) (wN ?_))))))))
  refine J _ _ ?_
  refine cIf e0 b (fun K b=>?_) fun K b=>?_
  ·refine sR fun _ L=>Ya (.bool true) rfl (wK L (wp_ret (t _ _ _ (I _ _ _ rfl ?_))))
   cases b
   refine r _ _ _ _ rfl rfl ?_
   obtain rfl:=q _ rfl
   refine o _ _ _ (z _ _ _ rfl ?_)
   cases i
   exact n _ _ _ (fin1r Tryz.results37 ⟨rfl,rfl⟩ ⟨rfl,c⟩)
  refine wp_skip (t _ _ _ (H _ _ (wR (Ym (iV d) (eh l) (yY (yadd e0 rfl) (Ya (iV (wa .i64 d 1)) e0 (wN ?_)))))))
  cases b
  exact C _ _ _ rfl ⟨_,_,rfl,rfl,k,p,rfl,c⟩
 refine wp_exit (E _ _ _ rfl ?_)
 cases b
 refine r _ _ _ _ rfl rfl ?_
 obtain rfl:=q _ rfl
 refine o _ _ _ (y _ _ (sR fun _ N=>Ya (.bool false) rfl (wK N (wp_ret ?_))))
 cases i
 exact n _ _ _ (fin1r Tryz.results37 ⟨rfl,rfl⟩ ⟨rfl,c⟩)
theorem sparseref12_Check_ok {h:L2} {k:Hdr} {out:Int} (r:sparseref12_Check h=some out) (p:imm S1 k.v h∈ros) (b:St w0 ros rs w):
  Calls Tryz.prog 54 #[.agg #[k.v]] w (fun e w=>e=.returned (iV out)∧St w0 ros rs w):=by
 refine enterQ Tryz.func54 rfl Tryz.ntmps54 rfl fun Q z=>sR fun _ b1=>yBb (r_box (vals:=[k.v]) b e0 rfl) fun n w b=>Ya (iV 0) rfl (wK b1 (sR fun _ b2=>yY (yFb FL_26_0 e0) (yY (lb_ k.v O_24 e0 b R0) (yY (yLen SL_24 e0 b (rdI p)) (Ya (iV (h.length:Int)) e0 ?_)))))
 refine wK b2 (seqQ fun g4 b4 b5=>sR fun _ b6=>Ym (iV (h.length:Int)) e0 (yY (ygtr e0 rfl) (wK b6 ?_)))
 refine cIf e0 r (fun b7 r=>?_) fun b7 r=>?_
 ·refine sR fun _ b8=>Ya (iV 6) rfl (wK b8 (wp_ret (b5 _ _ _ rfl ?_)))
  cases r
  exact z _ _ _ (fin1r Tryz.results54 ⟨rfl,rfl⟩ ⟨rfl,(b.pk 1 [] rfl)⟩)
 refine wp_skip (b4 _ _ (seqQ fun g5 b9 c0=>sR fun _ c1=>Ya (iV 0) rfl (wK c1 (blockQ fun c2 J=>bE r fun c3 c5 r=>?_))))
 have K:∀ (f:FV) w,f 2=iV 1→St w0 ros rs w→.inr ()=c3→c2 .ret (fr 64 f) w:=by
  intro f w c6 b ho
  subst ho
  refine J _ _ _ (c0 _ _ _ rfl ?_)
  cases r
  exact z _ _ _ (fin1r Tryz.results54 ⟨rfl,c6⟩ ⟨rfl,b⟩)
 refine loopQ (fun s a w=>∃ (g:Int) (f:FV),g=s∧a=fr 64 f∧f 1=(pB n)∧f 3=iV (h.length:Int)∧f 4=iV g∧St w0 ros (box n 26 [k.v]::rs) w) c5 ⟨_,_,rfl,rfl,rfl,rfl,rfl,b⟩ ?_
 rintro _ _ w g6 ⟨g,f,rfl,rfl,L,N,A,b⟩ j B g7 c7 C
 refine seqQ fun g8 c8 c9=>sR fun _ d0=>Ym (iV g) (eh A) (Ym (iV (h.length:Int)) (eh N) (yY (ylss e0 e0) (wK d0 ?_)))
 refine cIf e0 j (fun d1 j=>?_) fun d1 j=>?_
 ·refine wp_skip (c8 _ _ (seqQ fun g9 d2 O=>blockQ fun _ D=>seqQ fun h0 d3 d4=>sR fun _ d5=>yY (yFb FL_26_0 (eh L)) (yY (lb_ k.v O_24 e0 b R0) (Ym (iV g) (eh A) (bE j fun h1 R j=>yY (yIa SL_24 e0 e0 b (rdI p) R) ?_)))))
  obtain ⟨h3,b⟩:=iLs b p R
  refine yY (yCt O_22 e0 b F1 rfl) (bE j fun h4 d6 j=>yC (yCall FN_66 (a1 e0)) (sparsekit_Ascending_ok d6 F0 b) ?_)
  rintro _ w ⟨rfl,b⟩
  refine ⟨_,rfl,?_⟩
  refine yY (ynot e0) (wK d5 ?_)
  rcases iteS j with ⟨E,j⟩ | ⟨E,j⟩
  ·refine condF e0 (nF E) (wp_skip (d3 _ _ (sR fun _ d7=>Ya (iV 0) rfl (wK d7 (blockQ fun _ S=>bE j fun h5 d8 j=>?_)))))
   refine loopQ (fun s a w=>∃ (o:Int) (f:FV),o=s∧a=fr 64 f∧f 1=(pB n)∧f 3=iV (h.length:Int)∧f 4=iV g∧f 5=iV o∧St w0 ros (box n 26 [k.v]::rs) w) d8 ⟨_,_,rfl,rfl,L,N,A,rfl,(b.facts (allT (allT allI)))⟩ ?_
   rintro _ _ w h6 ⟨o,f,rfl,rfl,t,x,u,y,b⟩ i T h7 d9 U
   refine seqQ fun h8 e1 e2=>sR fun _ e3=>Ym (iV o) (eh y) (yY (yFb FL_26_0 (eh t)) (yY (lb_ k.v O_24 e0 b R0) (Ym (iV g) (eh u) (bE i fun h9 V i=>yY (yIa SL_24 e0 e0 b (rdI p) V) ?_))))
   obtain ⟨i0,b⟩:=iLs b p V
   refine yY (yCt O_22 e0 b F1 rfl) (yY (yLen SL_22 e0 b (rdI F0)) (yY (ylss e0 e0) (wK e3 ?_)))
   refine cIf e0 i (fun e4 i=>?_) fun e4 i=>?_
   ·refine wp_skip (e1 _ _ (seqQ fun i1 e5 e6=>blockQ fun _ W=>sR fun _ e7=>yY (yFb FL_26_0 (eh t)) (yY (lb_ k.v O_24 e0 b R0) (Ym (iV g) (eh u) (bE i fun i2 X i=>yY (yIa SL_24 e0 e0 b (rdI (F_2 p)) X) ?_)))))
    obtain ⟨i3,b⟩:=iLs b (F_2 p) X
    refine yY (yCt O_22 e0 b F1 rfl) (Ym (iV o) (eh y) (bE i fun c Z i=>yY (yIa SL_22 e0 e0 b (rdI F0) Z) (yY (yI O_3 e0 b (rdI F0) Z) (Ya (iV c) e0 (wK e7 (sR fun _ e8=>Ym (iV c) e0 (yY (ylss e0 rfl) (Ym (.bool (decide (c < 0))) e0 ?_))))))))
    refine joinW 4 (fun f w=>f 1=(pB n)∧f 3=iV (h.length:Int)∧f 4=iV g∧f 5=iV o∧f 6=iV c∧f 48=.bool ((decide (c < 0)) || (decide ((h.length:Int)≤c)))∧St w0 ros (box n 26 [k.v]::rs) w) (fun a0=>?_) ?_
    ·rcases Bool.eq_false_or_eq_true (decide (c < 0)) with l | l
     ·exact gN l (gN l (gN l (yY (pt_ (.bool true) e0 l rfl) (a0 _ _ ⟨t,x,u,y,rfl,(congrArg Value.bool (orT l)),(b.facts (allT (allT (allT (allT allI)))))⟩))))
     exact yG l (m_ (iV c) e0) (yG l (m_ (iV (h.length:Int)) (eh x)) (yG l (ygeq e0 e0) (yY (pf_ (.bool (decide ((h.length:Int)≤c))) e0 l e0) (a0 _ _ ⟨t,x,u,y,rfl,(congrArg Value.bool (orF l)),(b.facts (allT (allT (allT (allT allI)))))⟩))))
    rintro f w ⟨a3,a4,F,a5,G,e9,b⟩
    refine Ym (.bool ((decide (c < 0)) || (decide ((h.length:Int)≤c)))) (eh e9) ?_
    refine joinW 4 (fun f w=>f 1=(pB n)∧f 3=iV (h.length:Int)∧f 4=iV g∧f 5=iV o∧f 6=iV c∧f 53=.bool (((decide (c < 0)) || (decide ((h.length:Int)≤c))) || (decide (c=g)))∧St w0 ros (box n 26 [k.v]::rs) w) (fun a6=>?_) ?_
    ·rcases Bool.eq_false_or_eq_true ((decide (c < 0)) || (decide ((h.length:Int)≤c))) with m | m
     ·exact gN m (gN m (gN m (yY (pt_ (.bool true) e0 m rfl) (a6 _ _ ⟨a3,a4,F,a5,G,(congrArg Value.bool (orT m)),b⟩))))
     exact yG m (m_ (iV c) (eh G)) (yG m (m_ (iV g) (eh F)) (yG m (yeql e0 e0) (yY (pf_ (.bool (decide (c=g))) e0 m e0) (a6 _ _ ⟨a3,a4,F,a5,G,(congrArg Value.bool (orF m)),b⟩))))
    rintro f w ⟨H,a7,I,a8,f0,f1,b⟩
    refine Ym (.bool (((decide (c < 0)) || (decide ((h.length:Int)≤c))) || (decide (c=g)))) (eh f1) (bE i fun f2 q i=>?_)
    refine joinW 9 (fun f w=>f 1=(pB n)∧f 3=iV (h.length:Int)∧f 4=iV g∧f 5=iV o∧f 63=.bool f2∧St w0 ros (box n 26 [k.v]::rs) w) (fun a9=>?_) ?_
    ·rcases iteS q with ⟨d,q⟩ | ⟨d,q⟩
     ·refine gN d (gN d (gN d (gN d (gN d (gN d (gN d (gN d (yY (pt_ (.bool true) e0 d rfl) ?_))))))))
      cases q
      exact a9 _ _ ⟨H,a7,I,a8,rfl,b⟩
     refine yG (bfalse d) (yFb FL_26_0 (eh H)) (yG (bfalse d) (lb_ k.v O_24 e0 b R0) (yG (bfalse d) (m_ (iV c) (eh f0)) (bE q fun i4 b0 q=>yG (bfalse d) (yIa SL_24 e0 e0 b (rdI p) b0) ?_)))
     obtain ⟨i5,b⟩:=iLs b p b0
     refine yG (bfalse d) (yCt O_22 e0 b F1 rfl) (yG (bfalse d) (m_ (iV g) (eh I)) (bE q fun f3 f4 q=>Yc (wG (bfalse d)) rfl (yCall FN_37 (a2 e0 e0)) (sparsekit_In_ok f4 F0 b) ?_))
     rintro _ w ⟨rfl,b⟩
     refine ⟨_,rfl,?_⟩
     refine yG (bfalse d) (ynot e0) (yY (pf_ (.bool (!f3)) e0 (bfalse d) e0) ?_)
     cases q
     exact a9 _ _ ⟨H,a7,I,a8,rfl,(b.facts (allT (allT allI)))⟩
    rintro f w ⟨f5,f6,f7,f8,f9,b⟩
    refine wK e8 (cB (eh f9) i (fun g0 i=>?_) fun g0 i=>?_)
    ·refine sR fun _ g1=>Ya (iV 1) rfl (wK g1 (wp_ret (W _ _ _ (e6 _ _ _ rfl ?_))))
     cases i
     refine U _ _ _ _ rfl rfl ?_
     obtain rfl:=T _ rfl
     refine S _ _ _ (D _ _ _ (O _ _ _ rfl ?_))
     cases j
     exact C _ _ _ _ rfl rfl (K _ _ rfl (b.pk 1 [] rfl) (B _ rfl))
    refine wp_skip (W _ _ _ (e5 _ _ (wR (Ym (iV o) (eh f8) (yY (yadd e0 rfl) (Ya (iV (wa .i64 o 1)) e0 (wN ?_)))))))
    cases i
    exact d9 _ _ _ rfl ⟨_,_,rfl,rfl,f5,f6,f7,rfl,b⟩
   refine wp_exit (e2 _ _ _ rfl ?_)
   cases i
   refine U _ _ _ _ rfl rfl ?_
   obtain rfl:=T _ rfl
   refine S _ _ _ (D _ _ _ (d2 _ _ (wR (Ym (iV g) (eh u) (yY (yadd e0 rfl) (Ya (iV (wa .i64 g 1)) e0 (wN ?_)))))))
   cases j
   exact c7 _ _ _ rfl ⟨_,_,rfl,rfl,t,x,rfl,(b.facts (allT (allT allI)))⟩
  refine condT e0 (nT (bfalse E)) (sR fun _ g2=>Ya (iV 1) rfl (wK g2 (wp_ret (d4 _ _ _ rfl (D _ _ _ (O _ _ _ rfl ?_))))))
  cases j
  exact C _ _ _ _ rfl rfl (K _ _ rfl ((b.pk 1 [] rfl).facts (allT (allT allI))) (B _ rfl))
 refine wp_exit (c9 _ _ _ rfl ?_)
 cases j
 refine C _ _ _ _ rfl rfl ?_
 obtain rfl:=B _ rfl
 refine J _ _ _ (b9 _ _ (sR fun _ g3=>Ya (iV 0) rfl (wK g3 (wp_ret ?_))))
 cases r
 exact z _ _ _ (fin1r Tryz.results54 ⟨rfl,rfl⟩ ⟨rfl,(b.pk 1 [] rfl)⟩)
theorem sparseref18_Ones_ok {D:L2} {c:Hdr} {out:L2×LI×L2} (z:sparseref18_Ones D=some out) (p:imm S1 c.v D∈ros) (b:St w0 ros rs w):
  Calls Tryz.prog 57 #[.agg #[c.v]] w (fun e w=>∃ (E F G:Hdr),e=.returned (.agg #[E.v,F.v,G.v])∧St w0 (imm S1 E.v out.1::ros) (row 3 I1 F.v out.2.1::row 22 S1 G.v out.2.2::rs) w):=by
 refine enterQ Tryz.func57 rfl Tryz.ntmps57 rfl fun Q S=>sR fun _ T=>yBb (r_box (vals:=[c.v]) b e0 rfl) fun q w b=>yBb (rAl b ZT_28) fun r w b=>wK T (sR fun _ U=>yY (lbs_ [c.v] ST_26 e0 b R1) (yY (ybuild (us:=[c.v,hnil.v,hnil.v]) [(0,.agg #[c.v])] SO_28 (bp1 e0) rfl) (yBb (rAl b ZT_28) ?_)))
 refine fun t w b=>yT (r_stbn (vals':=[c.v,hnil.v,hnil.v]) (us:=[c.v,hnil.v,hnil.v]) b ST_28 e0 e0 rfl rfl (one_of rfl) rfl) fun w b=>wK U (sQ fun _ V=>sR fun _ W=>Ya (iV 0) rfl (wK W (blockQ fun _ X=>bE z fun d3 Z z=>?_)))
 replace b:=(b.rowNh 3 I1).rowNh 22 S1
 refine loopQ (fun s a w=>∃ (u:LI) (x:L2) (j:Int) (f:FV) (h g:Hdr),(u,x,j)=s∧a=fr 41 f∧f 1=(pB q)∧f 2=(pB r)∧f 3=(pB t)∧f 4=iV j∧St w0 ros (box q 26 [c.v]::box r 28 [hnil.v,hnil.v,hnil.v]::row 3 I1 h.v u::row 22 S1 g.v x::box t 28 [c.v,h.v,g.v]::rs) w) Z ⟨_,_,_,_,_,_,rfl,rfl,rfl,rfl,rfl,rfl,(b.pk 5 [4,3,1,0,0] rfl)⟩ ?_
 rintro _ _ w d4 ⟨u,x,j,f,h,g,rfl,rfl,H,A,I,J,b⟩ d a0 d5 a1 a2
 refine seqQ fun d6 a3 a4=>sR fun _ a5=>Ym (iV j) (eh J) (yY (yFb FL_26_0 (eh H)) (yY (lb_ c.v O_24 e0 b R0) (yY (yLen SL_24 e0 b (rdI p)) (yY (ylss e0 e0) (wK a5 ?_)))))
 refine cIf e0 d (fun a6 d=>?_) fun a6 d=>?_
 ·refine wp_skip (a3 _ _ (sQ fun _ a7=>blockQ fun _ a8=>sR fun _ a9=>Ya hnil.v rfl (wK a9 (sQ fun _ b0=>sR fun _ b1=>Ya (iV 0) rfl (wN ?_)))))
  refine b1 _ _ (blockQ fun _ b2=>bE d fun d7 b6 d=>?_)
  replace b:=b.rowNh 3 I1
  refine loopQ (fun s a w=>∃ (y:LI) (m:Int) (f:FV) (k:Hdr),(y,m)=s∧a=fr 41 f∧f 1=(pB q)∧f 2=(pB r)∧f 3=(pB t)∧f 4=iV j∧f 5=k.v∧f 6=iV m∧St w0 ros (box q 26 [c.v]::box r 28 [hnil.v,hnil.v,hnil.v]::row 3 I1 h.v u::row 22 S1 g.v x::box t 28 [c.v,h.v,g.v]::row 3 I1 k.v y::rs) w) b6 ⟨_,_,_,_,rfl,rfl,H,A,I,J,rfl,rfl,(b.pk 6 [1,1,1,1,1,0] rfl)⟩ ?_
  rintro _ _ w d8 ⟨y,m,f,k,rfl,rfl,B,K,o,C,L,N,b⟩ i b7 d9 b8 b9
  refine seqQ fun e1 c0 c1=>sR fun _ c2=>Ym (iV m) (eh N) (yY (yFb FL_26_0 (eh B)) (yY (lb_ c.v O_24 e0 b R0) (Ym (iV j) (eh C) (bE i fun e2 O i=>yY (yIa SL_24 e0 e0 b (rdI p) O) ?_))))
  obtain ⟨e3,b⟩:=iLs b p O
  refine yY (yCt O_22 e0 b F1 rfl) (yY (yLen SL_22 e0 b (rdI F0)) (yY (ylss e0 e0) (wK c2 ?_)))
  refine cIf e0 i (fun c3 i=>?_) fun c3 i=>?_
  ·refine wp_skip (c0 _ _ (sQ fun _ c4=>blockQ fun _ c5=>wR (Ym k.v (eh L) (yH (rLt (n:=1) (l:=[1]) b SL_22 [iV 1] (bp1 rfl) rfl rfl (mks1 (cs:=[iV 1]) rfl mkI mks0)) fun e4 w b=>bE i fun e5 c6 i=>yH (rAp (b.pk 7 [6,0,0,0,0,0,0] rfl) SL_22 e0 e0 rO1 c6) fun c7 w b=>Ya c7.v e0 (wN (c5 _ _ _ ?_))))))
   refine c4 _ _ (wR (Ym (iV m) (eh N) (yY (yadd e0 rfl) (Ya (iV (wa .i64 m 1)) e0 (wN ?_)))))
   cases i
   exact b8 _ _ _ rfl ⟨_,_,_,_,rfl,rfl,B,K,o,C,rfl,rfl,((b.pk 7 [2,2,2,2,2,0] rfl).facts (allT (allT allI)))⟩
  refine wp_exit (c1 _ _ _ rfl ?_)
  cases i
  refine b9 _ _ _ _ rfl rfl ?_
  obtain rfl:=b7 _ rfl
  refine b2 _ _ _ (b0 _ _ (sR fun _ c8=>yY (yFb FL_28_1 (eh o)) (yY (lb_ h.v O_22 e0 b R4) (yH (rLt (n:=1) (l:=[1]) b SL_22 [iV 1] (bp1 rfl) rfl rfl (mks1 (cs:=[iV 1]) rfl mkI mks0)) fun e6 w b=>bE d fun e7 c9 d=>yH (rAp (b.pk 4 [3,0,0,0] rfl) SL_22 e0 e0 rO1 c9) fun R w b=>yY (yFb FL_28_1 (eh o)) (yT (r_stb1 (vals':=[c.v,R.v,g.v]) (b.pk 6 [5,0,0,0,0,0] rfl) O_22 e0 e0 rfl rfl rfl rfl) fun w b=>?_)))))
  refine wK c8 (wR (yY (yFb FL_28_2 (eh o)) (yY (lb_ g.v O_24 e0 b R0) (Ym k.v (eh L) (yH (rLt (n:=1) (l:=[y]) ((b.pk 7 [6,0,0,0,0,0,0] rfl).fz) SL_24 [k.v] (bp1 e0) rfl rfl (mks1 (cs:=[k.v]) rfl (mkS F0) mks0)) fun e8 w b=>bE d fun e9 d0 d=>yH (rAp (b.pk 7 [6,0,0,0,0,0,0] rfl) SL_24 e0 e0 rO1 d0) fun d1 w b=>yY (yFb FL_28_2 (eh o)) (yT (r_stb1 (vals':=[c.v,R.v,d1.v]) (b.pk 3 [2,0,0] rfl) O_24 e0 e0 rfl rfl rfl rfl) fun w b=>?_))))))
  refine wN (a8 _ _ _ (a7 _ _ (wR (Ym (iV j) (eh C) (yY (yadd e0 rfl) (Ya (iV (wa .i64 j 1)) e0 (wN ?_)))))))
  cases d
  exact a1 _ _ _ rfl ⟨_,_,_,_,_,_,rfl,rfl,B,K,o,rfl,((b.pk 7 [5,5,3,1,0] rfl).facts (allT (allT (allT allI))))⟩
 refine wp_exit (a4 _ _ _ rfl ?_)
 cases d
 refine a2 _ _ _ _ rfl rfl ?_
 obtain rfl:=a0 _ rfl
 refine X _ _ _ (V _ _ (sR fun _ d2=>yY (lbs_ [c.v,h.v,g.v] ST_28 (eh I) b R4) (yT (r_stbn (vals':=[c.v,h.v,g.v]) (us:=[c.v,h.v,g.v]) (b.pk 2 [1,0] rfl) ST_28 (eh A) e0 rfl rfl (one_of rfl) rfl) fun w b=>wK d2 (wp_ret ?_))))
 cases z
 exact S _ _ _ (fin1r Tryz.results57 (rcs2 rfl A b R0 ST_28 rfl) ⟨_,_,_,rfl,((b.pk 5 [2,2] rfl).facts (allC p allI))⟩)
theorem sparseref18_edge_ok {q:L2} {r:LI} {t:L2} {g j:Int} {h k i:Hdr} {out:Int} (l:sparseref18_edge q r t g j=some out) (m:imm S1 h.v q∈ros) (a4:imm I1 k.v r∈ros) (u:imm S1 i.v t∈ros) (b:St w0 ros rs w):
  Calls Tryz.prog 55 #[.agg #[h.v,k.v,i.v],iV g,iV j] w (fun e w=>e=.returned (iV out)∧St w0 ros rs w):=by
 refine enterQ Tryz.func55 rfl Tryz.ntmps55 rfl fun Q x=>sR fun _ J=>yBb (r_box (vals:=[h.v,k.v,i.v]) b e0 rfl) fun y w b=>Ya (iV 0) rfl (wK J (seqQ fun a5 K L=>sR fun _ N=>Ya (iV 0) rfl (wK N ?_)))
 refine blockQ fun _ z=>bE l fun a6 O l=>?_
 refine loopQ (fun s a w=>∃ (d:Int) (f:FV),d=s∧a=fr 38 f∧f 1=iV g∧f 2=iV j∧f 3=(pB y)∧f 7=iV d∧St w0 ros (box y 28 [h.v,k.v,i.v]::rs) w) O ⟨_,_,rfl,rfl,rfl,rfl,rfl,rfl,b⟩ ?_
 rintro _ _ w a7 ⟨d,f,rfl,rfl,n,A,o,p,b⟩ c B a8 R C
 refine seqQ fun a9 S T=>sR fun _ U=>Ym (iV d) (eh p) (yY (yFb FL_28_0 (eh o)) (yY (yFb FL_26_0 e0) (yY (lb_ h.v O_24 e0 b R0) (Ym (iV g) (eh n) (bE c fun b0 D c=>yY (yIa SL_24 e0 e0 b (rdI m) D) ?_)))))
 obtain ⟨b1,b⟩:=iLs b m D
 refine yY (yCt O_22 e0 b F1 rfl) (yY (yLen SL_22 e0 b (rdI F0)) (yY (ylss e0 e0) (wK U ?_)))
 refine cIf e0 c (fun V c=>?_) fun V c=>?_
 ·refine wp_skip (S _ _ (seqQ fun b2 W X=>blockQ fun _ E=>sR fun _ Z=>yY (yFb FL_28_0 (eh o)) (yY (yFb FL_26_0 e0) (yY (lb_ h.v O_24 e0 b R0) (Ym (iV g) (eh n) (bE c fun b3 F c=>yY (yIa SL_24 e0 e0 b (rdI (F_2 m)) F) ?_))))))
  obtain ⟨b4,b⟩:=iLs b (F_2 m) F
  refine yY (yCt O_22 e0 b F1 rfl) (Ym (iV d) (eh p) (bE c fun b5 G c=>yY (yIa SL_22 e0 e0 b (rdI F0) G) (yY (yI O_3 e0 b (rdI F0) G) (Ym (iV j) (eh A) (yY (yeql e0 e0) (wK Z ?_))))))
  refine cIf e0 c (fun a0 c=>?_) fun a0 c=>?_
  ·refine sR fun _ a1=>yY (yFb FL_28_2 (eh o)) (yY (lb_ i.v O_24 e0 b R0) (Ym (iV g) (eh n) (bE c fun b6 H c=>yY (yIa SL_24 e0 e0 b (rdI (F_4 u)) H) ?_)))
   obtain ⟨b7,b⟩:=iLs b (F_4 u) H
   refine yY (yCt O_22 e0 b F1 rfl) (Ym (iV d) (eh p) (bE c fun a2 I c=>yY (yIa SL_22 e0 e0 b (rdI F0) I) (yY (yI O_3 e0 b (rdI F0) I) (Ya (iV a2) e0 (wK a1 (wp_ret (E _ _ _ (X _ _ _ rfl ?_))))))))
   cases c
   refine C _ _ _ _ rfl rfl ?_
   obtain rfl:=B _ rfl
   refine z _ _ _ (L _ _ _ rfl ?_)
   cases l
   exact x _ _ _ (fin1r Tryz.results55 ⟨rfl,rfl⟩ ⟨rfl,((b.pk 1 [] rfl).facts (allT (allT (allT (allT (allT (allT allI)))))))⟩)
  refine wp_skip (E _ _ _ (W _ _ (wR (Ym (iV d) (eh p) (yY (yadd e0 rfl) (Ya (iV (wa .i64 d 1)) e0 (wN ?_)))))))
  cases c
  exact R _ _ _ rfl ⟨_,_,rfl,rfl,n,A,o,rfl,(b.facts (allT (allT (allT (allT allI)))))⟩
 refine wp_exit (T _ _ _ rfl ?_)
 cases c
 refine C _ _ _ _ rfl rfl ?_
 obtain rfl:=B _ rfl
 refine z _ _ _ (K _ _ (sR fun _ a3=>Ya (iV 0) rfl (wK a3 (wp_ret ?_))))
 cases l
 exact x _ _ _ (fin1r Tryz.results55 ⟨rfl,rfl⟩ ⟨rfl,((b.pk 1 [] rfl).facts (allT (allT allI)))⟩)
theorem sparseref18_CheckWeighted_ok {g:L2} {J:LI} {O:L2} {o q p:Hdr} {out:Int} (h:sparseref18_CheckWeighted g J O=some out) (E:imm S1 o.v g∈ros) (H:imm I1 q.v J∈ros) (A:imm S1 p.v O∈ros) (b:St w0 ros rs w):
  Calls Tryz.prog 24 #[.agg #[o.v,q.v,p.v]] w (fun e w=>e=.returned (iV out)∧St w0 ros rs w):=by
 refine enterQ Tryz.func24 rfl Tryz.ntmps24 rfl fun Q K=>sR fun _ d4=>yBb (r_box (vals:=[o.v,q.v,p.v]) b e0 rfl) fun u w b=>Ya (iV 0) rfl (wK d4 (seqQ fun m5 d5 d6=>sR fun _ d7=>yY (yFb FL_28_0 e0) (yY (lbs_ [o.v] ST_26 e0 b R0) (bE h fun R d8 h=>?_))))
 refine yC (yCall FN_54 (a1 e0)) (sparseref12_Check_ok d8 E b) ?_
 rintro _ w ⟨rfl,b⟩
 refine ⟨_,rfl,?_⟩
 refine Ya (iV R) e0 (wK d7 (sR fun _ d9=>Ym (iV R) e0 (yY (yneq e0 rfl) (wK d9 ?_))))
 rcases iteS h with ⟨X,h⟩ | ⟨X,h⟩
 ·refine condF e0 (nF (dT X)) (wp_skip (d5 _ _ (sR fun _ e1=>yY (yFb FL_28_0 e0) (yY (yFb FL_26_0 e0) (yY (lb_ o.v O_24 e0 b R0) (yY (yLen SL_24 e0 b (rdI E)) (Ya (iV (g.length:Int)) e0 (wK e1 (seqQ fun m6 e2 e3=>sQ fun _ e4=>?_)))))))))
  refine wR (yY (yFb FL_28_1 e0) (yY (lb_ q.v O_22 e0 b R0) (yY (yLen SL_22 e0 b (rdI H)) (Ym (iV (g.length:Int)) e0 (yY (yneq e0 e0) (Ym (.bool (!(decide ((J.length:Int)=(g.length:Int))))) e0 ?_))))))
  refine joinW 6 (fun f w=>f 1=(pB u)∧f 4=iV (g.length:Int)∧f 30=.bool ((!(decide ((J.length:Int)=(g.length:Int)))) || (!(decide ((O.length:Int)=(g.length:Int)))))∧St w0 ros (box u 28 [o.v,q.v,p.v]::rs) w) (fun a8=>?_) ?_
  ·rcases Bool.eq_false_or_eq_true (!(decide ((J.length:Int)=(g.length:Int)))) with k | k
   ·exact gN k (gN k (gN k (gN k (gN k (yY (pt_ (.bool true) e0 k rfl) (a8 _ _ ⟨rfl,rfl,(congrArg Value.bool (orT k)),b⟩))))))
   exact yG k (yFb FL_28_2 e0) (yG k (lb_ p.v O_24 e0 b R0) (yG k (yLen SL_24 e0 b (rdI A)) (yG k (m_ (iV (g.length:Int)) e0) (yG k (yneq e0 e0) (yY (pf_ (.bool (!(decide ((O.length:Int)=(g.length:Int))))) e0 k e0) (a8 _ _ ⟨rfl,rfl,(congrArg Value.bool (orF k)),b⟩))))))
  rintro f w ⟨e5,e6,e7,b⟩
  refine wK e4 (cB (eh e7) h (fun e8 h=>?_) fun e8 h=>?_)
  ·refine sR fun _ e9=>Ya (iV 1) rfl (wK e9 (wp_ret (e3 _ _ _ rfl ?_)))
   cases h
   exact K _ _ _ (fin1r Tryz.results24 ⟨rfl,rfl⟩ ⟨rfl,(b.pk 1 [] rfl)⟩)
  refine wp_skip (e2 _ _ (seqQ fun m7 f0 f1=>sR fun _ f2=>Ya (iV 0) rfl (wK f2 (blockQ fun _ a9=>bE h fun m8 f3 h=>?_))))
  refine loopQ (fun s a w=>∃ (B:Int) (f:FV),B=s∧a=fr 109 f∧f 1=(pB u)∧f 4=iV (g.length:Int)∧f 5=iV B∧St w0 ros (box u 28 [o.v,q.v,p.v]::rs) w) f3 ⟨_,_,rfl,rfl,e5,e6,rfl,b⟩ ?_
  rintro _ _ w m9 ⟨B,f,rfl,rfl,S,Z,T,b⟩ r b0 n0 f4 b1
  refine seqQ fun n1 f5 f6=>sR fun _ f7=>Ym (iV B) (eh T) (Ym (iV (g.length:Int)) (eh Z) (yY (ylss e0 e0) (wK f7 ?_)))
  refine cIf e0 r (fun f8 r=>?_) fun f8 r=>?_
  ·refine wp_skip (f5 _ _ (seqQ fun n3 f9 g0=>blockQ fun _ b2=>sQ fun _ g1=>bE r fun n4 b3 r=>bE r fun n5 b4 r=>dR [0,1,0,7,15,31,0,64,192,0,960,1984,4032,8191] [] 0 folM ?_))
   replace b:=b.drew
   refine Dz [0,1,2,3,4,5,6,7,8,9,10,11,12,13] [] (yR rfl (yFb FL_28_2 (eh S)) (yR rfl (lb_ p.v O_24 e0 b R0) (yR rfl (m_ (iV B) (eh T)) (yR rfl (yIa SL_24 e0 e0 b (rdI A) b3) ?_))))
   obtain ⟨n6,b⟩:=iLs b A b3
   refine yR rfl (yCt O_22 e0 b F1 rfl) (yR rfl (yLen SL_22 e0 b (rdI F0)) (yR rfl (yFb FL_28_0 (eh S)) (yR rfl (yFb FL_26_0 e0) (yR rfl (lb_ o.v O_24 e0 b R0) (yR rfl (m_ (iV B) (eh T)) (yR rfl (yIa SL_24 e0 e0 b (rdI (F_2 E)) b4) ?_))))))
   obtain ⟨n7,b⟩:=iLs b (F_2 E) b4
   refine yR rfl (yCt O_22 e0 b F1 rfl) (yR rfl (yLen SL_22 e0 b (rdI F0)) (yR rfl (yneq e0 e0) (Rn QSn (g1 _ _ ?_))))
   rcases iteS r with ⟨a0,r⟩ | ⟨a0,r⟩
   ·refine condF e0 (nF (dT a0)) (wp_skip (b2 _ _ _ (f9 _ _ (wR (Ym (iV B) (eh T) (yY (yadd e0 rfl) (Ya (iV (wa .i64 B 1)) e0 (wN ?_))))))))
    cases r
    exact f4 _ _ _ rfl ⟨_,_,rfl,rfl,S,Z,rfl,(b.facts (allT (allT (allT (allT allI)))))⟩
   refine condT e0 (nT (dF a0)) (sR fun _ g2=>Ya (iV 1) rfl (wK g2 (wp_ret (b2 _ _ _ (g0 _ _ _ rfl ?_)))))
   cases r
   refine b1 _ _ _ _ rfl rfl ?_
   obtain rfl:=b0 _ rfl
   refine a9 _ _ _ (f1 _ _ _ rfl ?_)
   cases h
   exact K _ _ _ (fin1r Tryz.results24 ⟨rfl,rfl⟩ ⟨rfl,((b.pk 1 [] rfl).facts (allT (allT (allT (allT allI)))))⟩)
  refine wp_exit (f6 _ _ _ rfl ?_)
  cases r
  refine b1 _ _ _ _ rfl rfl ?_
  obtain rfl:=b0 _ rfl
  refine a9 _ _ _ (f0 _ _ (seqQ fun n8 g3 g4=>sR fun _ g5=>Ya (iV 0) rfl (wK g5 (blockQ fun g6 b5=>bE h fun g7 g8 h=>?_))))
  have b6:∀ (f:FV) w,f 2=iV 1→St w0 ros rs w→.inr ()=g7→g6 .ret (fr 109 f) w:=by
   intro f w g9 b ho
   subst ho
   refine b5 _ _ _ (g4 _ _ _ rfl ?_)
   cases h
   exact K _ _ _ (fin1r Tryz.results24 ⟨rfl,g9⟩ ⟨rfl,b⟩)
  refine loopQ (fun s a w=>∃ (l:Int) (f:FV),l=s∧a=fr 109 f∧f 1=(pB u)∧f 4=iV (g.length:Int)∧f 6=iV l∧St w0 ros (box u 28 [o.v,q.v,p.v]::rs) w) g8 ⟨_,_,rfl,rfl,S,Z,rfl,b⟩ ?_
  rintro _ _ w n9 ⟨l,f,rfl,rfl,U,a2,L,b⟩ j a4 o0 h0 a5
  refine seqQ fun o1 h1 h3=>sR fun _ h5=>Ym (iV l) (eh L) (Ym (iV (g.length:Int)) (eh a2) (yY (ylss e0 e0) (wK h5 ?_)))
  refine cIf e0 j (fun h7 j=>?_) fun h7 j=>?_
  ·refine wp_skip (h1 _ _ (seqQ fun o3 h8 b8=>blockQ fun _ a6=>seqQ fun o4 h9 i0=>sR fun _ i1=>yY (yFb FL_28_1 (eh U)) (yY (lb_ q.v O_22 e0 b R0) (Ym (iV l) (eh L) (bE j fun i2 b9 j=>yY (yIa SL_22 e0 e0 b (rdI H) b9) (yY (yI O_3 e0 b (rdI H) b9) (yY (ylss e0 rfl) ?_)))))))
   refine Ym (.bool (decide (i2 < 1))) e0 (bE j fun i3 F j=>?_)
   refine joinW 7 (fun f w=>f 1=(pB u)∧f 4=iV (g.length:Int)∧f 6=iV l∧f 68=.bool i3∧St w0 ros (box u 28 [o.v,q.v,p.v]::rs) w) (fun c0=>?_) ?_
   ·rcases iteS F with ⟨m,F⟩ | ⟨m,F⟩
    ·refine gN (dT m) (gN (dT m) (gN (dT m) (gN (dT m) (gN (dT m) (gN (dT m) (yY (pt_ (.bool true) e0 (dT m) rfl) ?_))))))
     cases F
     exact c0 _ _ ⟨U,a2,L,rfl,b⟩
    refine yG (dF m) (yFb FL_28_1 (eh U)) (yG (dF m) (lb_ q.v O_22 e0 b R0) (yG (dF m) (m_ (iV l) (eh L)) (bE F fun i4 c1 F=>yG (dF m) (yIa SL_22 e0 e0 b (rdI H) c1) (yG (dF m) (yI O_3 e0 b (rdI H) c1) (yG (dF m) (ygtr e0 rfl) (yY (pf_ (.bool (decide ((1099511627776:Int) < i4))) e0 (dF m) e0) ?_))))))
    cases F
    exact c0 _ _ ⟨U,a2,L,rfl,b⟩
   rintro f w ⟨i5,i6,i7,i8,b⟩
   refine wK i1 (cB (eh i8) j (fun i9 j=>?_) fun i9 j=>?_)
   ·refine sR fun _ j0=>Ya (iV 1) rfl (wK j0 (wp_ret (i0 _ _ _ rfl (a6 _ _ _ (b8 _ _ _ rfl ?_)))))
    cases j
    exact a5 _ _ _ _ rfl rfl (b6 _ _ rfl (b.pk 1 [] rfl) (a4 _ rfl))
   refine wp_skip (h9 _ _ (sR fun _ j2=>Ya (iV 0) rfl (wK j2 (blockQ fun _ c2=>bE j fun o5 j3 j=>?_))))
   refine loopQ (fun s a w=>∃ (z:Int) (f:FV),z=s∧a=fr 109 f∧f 1=(pB u)∧f 4=iV (g.length:Int)∧f 6=iV l∧f 7=iV z∧St w0 ros (box u 28 [o.v,q.v,p.v]::rs) w) j3 ⟨_,_,rfl,rfl,i5,i6,i7,rfl,b⟩ ?_
   rintro _ _ w o6 ⟨z,f,rfl,rfl,C,V,D,I,b⟩ d c3 o7 j4 c4
   refine seqQ fun o8 j5 j6=>sR fun _ j7=>Ym (iV z) (eh I) (yY (yFb FL_28_2 (eh C)) (yY (lb_ p.v O_24 e0 b R0) (Ym (iV l) (eh D) (bE d fun o9 c5 d=>yY (yIa SL_24 e0 e0 b (rdI A) c5) ?_))))
   obtain ⟨p0,b⟩:=iLs b A c5
   refine yY (yCt O_22 e0 b F1 rfl) (yY (yLen SL_22 e0 b (rdI F0)) (yY (ylss e0 e0) (wK j7 ?_)))
   refine cIf e0 d (fun j8 d=>?_) fun j8 d=>?_
   ·refine wp_skip (j5 _ _ (seqQ fun p1 j9 k0=>blockQ fun _ c6=>sR fun _ l0=>yY (yFb FL_28_2 (eh C)) (yY (lb_ p.v O_24 e0 b R0) (Ym (iV l) (eh D) (bE d fun p2 c7 d=>yY (yIa SL_24 e0 e0 b (rdI (F_2 A)) c7) ?_)))))
    obtain ⟨p3,b⟩:=iLs b (F_2 A) c7
    refine yY (yCt O_22 e0 b F1 rfl) (Ym (iV z) (eh I) (bE d fun x c8 d=>yY (yIa SL_22 e0 e0 b (rdI F0) c8) (yY (yI O_3 e0 b (rdI F0) c8) (Ya (iV x) e0 (wK l0 (sQ fun _ l1=>bE d fun G N d=>bE d fun W t d=>?_))))))
    refine joinN (n:=109) (fun f w=>f 1=(pB u)∧f 4=iV (g.length:Int)∧f 6=iV l∧f 7=iV z∧f 108=.bool W∧St w0 ros (box u 28 [o.v,q.v,p.v]::rs) w) (fun a7=>?_) ?_
    ·rcases iteS N with ⟨y,N⟩ | ⟨y,N⟩
     ·have d0:=someI N
      have i:G=true:=d0.symm
      rw [if_pos i] at t
      have l2:=someI t
      refine dR [0,1,3,7,15,31,63,127,127,127,639,1663,127,7807,15999,127,65151,130687,127,524159,1048575,2097151] [19] 1 folM ?_
      replace b:=b.drew
      refine Dn [0,1,2,3,4,5,6,7,8,9,10,11,12,13,14,15,16,17,18] [] [19] (yR rfl (m_ (iV x) e0) (yR rfl (ylss e0 rfl) (yR rfl (m_ (.bool (decide (x < 1))) e0) (Rx rfl rfl (wX (dT y)) (Rx rfl rfl (wX (dT y)) (yR rfl (pt_ (.bool G) e0 (dT y) (eqv d0 rfl)) (yR rfl (m_ (.bool G) e0) (Rx rfl rfl (wX i) (Rx rfl rfl (wX i) (Rx rfl rfl (wX i) (Rx rfl rfl (wX i) (Rx rfl rfl (wX i) (Rx rfl rfl (wX i) ?_)))))))))))))
      refine Rx rfl rfl (wX i) (Rx rfl rfl (wX i) (Rx rfl rfl (wX i) (Rx rfl rfl (wX i) (Rx rfl rfl (wX i) (Rx rfl rfl (wX i) (Rn QSn ?_))))))
      refine Lc1 rfl ?_
      exact Lx (wX i) (Dz [20,21] [7] (Rx rfl rfl (wX i) (yR rfl (pt_ (.bool W) e0 i (eqv l2 rfl)) (Rn (Sx_ rfl rfl (wX i) rfl QSn) (a7 _ _ ⟨C,V,D,I,rfl,(b.facts (allT (allT (allT (allT allI)))))⟩)))))
     have d1:=someI N
     rcases iteS t with ⟨c,t⟩ | ⟨c,t⟩
     ·have l3:=someI t
      refine dR [0,1,3,7,15,31,63,127,127,127,639,1663,127,7807,15999,127,65151,130687,127,524159,1048575,2097151] [19] 1 folM ?_
      replace b:=b.drew
      refine Dn [0,1,2,3,4,5,6,7,8,9,10,11,12,13,14,15,16,17,18] [] [19] (yR rfl (m_ (iV x) e0) (yR rfl (ylss e0 rfl) (yR rfl (m_ (.bool (decide (x < 1))) e0) (Ry rfl rfl (wG (dF y)) (m_ (iV x) e0) (Ry rfl rfl (wG (dF y)) (ygtr e0 rfl) (yR rfl (pf_ (.bool G) e0 (dF y) (eqv d1 e0)) (yR rfl (m_ (.bool G) e0) (Rx rfl rfl (wX c) (Rx rfl rfl (wX c) (Rx rfl rfl (wX c) (Rx rfl rfl (wX c) (Rx rfl rfl (wX c) (Rx rfl rfl (wX c) ?_)))))))))))))
      refine Rx rfl rfl (wX c) (Rx rfl rfl (wX c) (Rx rfl rfl (wX c) (Rx rfl rfl (wX c) (Rx rfl rfl (wX c) (Rx rfl rfl (wX c) (Rn QSn ?_))))))
      refine Lc1 rfl ?_
      exact Lx (wX c) (Dz [20,21] [7] (Rx rfl rfl (wX c) (yR rfl (pt_ (.bool W) e0 c (eqv l3 rfl)) (Rn (Sx_ rfl rfl (wX c) rfl QSn) (a7 _ _ ⟨C,V,D,I,rfl,(b.facts (allT (allT (allT (allT allI)))))⟩)))))
     refine bE t fun p4 d2 t=>bE t fun p5 d3 t=>bE t fun p6 l4 t=>?_
     have l5:=someI t
     refine dR [0,1,3,7,15,31,63,127,127,127,639,1663,127,7807,15999,127,65151,130687,127,524159,1048575,2097151] [19] 1 folM ?_
     replace b:=b.drew
     refine Dn [0,1,2,3,4,5,6,7,8,9,10,11,12,13,14,15,16,17,18] [] [19] (yR rfl (m_ (iV x) e0) (yR rfl (ylss e0 rfl) (yR rfl (m_ (.bool (decide (x < 1))) e0) (Ry rfl rfl (wG (dF y)) (m_ (iV x) e0) (Ry rfl rfl (wG (dF y)) (ygtr e0 rfl) (yR rfl (pf_ (.bool G) e0 (dF y) (eqv d1 e0)) (yR rfl (m_ (.bool G) e0) (Ry rfl rfl (wG (bfalse c)) (m_ (iV x) e0) (Ry rfl rfl (wG (bfalse c)) (lbs_ [o.v,q.v,p.v] ST_28 (eh C) b R0) (Ry rfl rfl (wG (bfalse c)) (yFb FL_28_0 (eh C)) (Ry rfl rfl (wG (bfalse c)) (yFb FL_26_0 e0) (Ry rfl rfl (wG (bfalse c)) (lb_ o.v O_24 e0 b R0) (Ry rfl rfl (wG (bfalse c)) (m_ (iV l) (eh D)) ?_)))))))))))))
     refine Ry rfl rfl (wG (bfalse c)) (yIa SL_24 e0 e0 b (rdI (F_4 E)) d2) ?_
     obtain ⟨p7,b⟩:=iLs b (F_4 E) d2
     refine Ry rfl rfl (wG (bfalse c)) (yCt O_22 e0 b F1 rfl) (Ry rfl rfl (wG (bfalse c)) (m_ (iV z) (eh I)) (Ry rfl rfl (wG (bfalse c)) (yIa SL_22 e0 e0 b (rdI F0) d3) (Ry rfl rfl (wG (bfalse c)) (yI O_3 e0 b (rdI F0) d3) (Ry rfl rfl (wG (bfalse c)) (m_ (iV l) (eh D)) (Rn QSn ?_)))))
     refine Lc1 rfl ?_
     refine Lk (wG (bfalse c)) (yCall FN_55 (a3 e0 e0 e0)) (sparseref18_edge_ok l4 (F_6 E) (F_6 H) (F_6 A) b) ?_
     rintro _ w ⟨rfl,b⟩
     refine ⟨_,rfl,?_⟩
     exact Dz [20,21] [7] (Ry rfl rfl (wG (bfalse c)) (yneq e0 e0) (yR rfl (pf_ (.bool W) e0 (bfalse c) (eqv l5 e0)) (Rn (Sy rfl rfl (wG (bfalse c)) (m_ (iV x) e0) rfl QSn) (a7 _ _ ⟨C,V,D,I,rfl,(b.facts (allT (allT (allT (allT (allT (allT allI)))))))⟩))))
    rintro f w ⟨l6,l7,l8,l9,m0,b⟩
    refine l1 _ _ (cB (eh m0) d (fun m1 d=>?_) fun m1 d=>?_)
    ·refine sR fun _ m2=>Ya (iV 1) rfl (wK m2 (wp_ret (c6 _ _ _ (k0 _ _ _ rfl ?_))))
     cases d
     refine c4 _ _ _ _ rfl rfl ?_
     obtain rfl:=c3 _ rfl
     refine c2 _ _ _ (a6 _ _ _ (b8 _ _ _ rfl ?_))
     cases j
     exact a5 _ _ _ _ rfl rfl (b6 _ _ rfl (b.pk 1 [] rfl) (a4 _ rfl))
    refine wp_skip (c6 _ _ _ (j9 _ _ (wR (Ym (iV z) (eh l9) (yY (yadd e0 rfl) (Ya (iV (wa .i64 z 1)) e0 (wN ?_)))))))
    cases d
    exact j4 _ _ _ rfl ⟨_,_,rfl,rfl,l6,l7,l8,rfl,b⟩
   refine wp_exit (j6 _ _ _ rfl ?_)
   cases d
   refine c4 _ _ _ _ rfl rfl ?_
   obtain rfl:=c3 _ rfl
   refine c2 _ _ _ (a6 _ _ _ (h8 _ _ (wR (Ym (iV l) (eh D) (yY (yadd e0 rfl) (Ya (iV (wa .i64 l 1)) e0 (wN ?_)))))))
   cases j
   exact h0 _ _ _ rfl ⟨_,_,rfl,rfl,C,V,rfl,(b.facts (allT (allT allI)))⟩
  refine wp_exit (h3 _ _ _ rfl ?_)
  cases j
  refine a5 _ _ _ _ rfl rfl ?_
  obtain rfl:=a4 _ rfl
  refine b5 _ _ _ (g3 _ _ (sR fun _ m3=>Ya (iV 0) rfl (wK m3 (wp_ret ?_))))
  cases h
  exact K _ _ _ (fin1r Tryz.results24 ⟨rfl,rfl⟩ ⟨rfl,(b.pk 1 [] rfl)⟩)
 refine condT e0 (nT (dF X)) (sR fun _ m4=>Ym (iV R) e0 (Ya (iV R) e0 (wK m4 (wp_ret (d6 _ _ _ rfl ?_)))))
 cases h
 exact K _ _ _ (fin1r Tryz.results24 ⟨rfl,rfl⟩ ⟨rfl,(b.pk 1 [] rfl)⟩)
theorem sparseref18_Match_ok {a5:L2} {p:LI} {a6:L2} {q r k:Hdr} {out:LI×Int} (j:sparseref18_Match a5 p a6=some out) (S:imm S1 q.v a5∈ros) (a7:imm I1 r.v p∈ros) (u:imm S1 k.v a6∈ros) (b:St w0 ros rs w):
  Calls Tryz.prog 12 #[.agg #[q.v,r.v,k.v]] w (fun e w=>∃ (a8:Hdr),e=.returned (.tuple #[a8.v,iV out.2])∧St w0 ros (row 3 I1 a8.v out.1::rs) w):=by
 refine enterQ Tryz.func12 rfl Tryz.ntmps12 rfl fun Q a9=>sR fun _ d1=>yBb (r_box (vals:=[q.v,r.v,k.v]) b e0 rfl) fun o w b=>Ya hnil.v rfl (Ya (iV 0) rfl (wK d1 (seqQ fun m4 d2 d3=>sR fun _ d4=>yY (lbs_ [q.v,r.v,k.v] ST_28 e0 b R0) (bE j fun I d5 j=>?_))))
 refine yC (yCall FN_24 (a1 e0)) (sparseref18_CheckWeighted_ok d5 S a7 u b) ?_
 rintro _ w ⟨rfl,b⟩
 refine ⟨_,rfl,?_⟩
 refine Ya (iV I) e0 (wK d4 (sR fun _ d6=>Ym (iV I) e0 (yY (yneq e0 rfl) (wK d6 ?_))))
 rcases iteS j with ⟨T,j⟩ | ⟨T,j⟩
 ·refine condF e0 (nF (dT T)) (wp_skip (d2 _ _ (sR fun _ d7=>yY (yFb FL_28_1 e0) (yY (lb_ r.v O_22 e0 b R0) (yY (yLen SL_22 e0 b (rdI a7)) (Ya (iV (p.length:Int)) e0 (wK d7 (sR fun _ d8=>Ya hnil.v rfl ?_))))))))
  refine wK d8 (sQ fun _ d9=>sR fun _ e1=>Ya (iV 0) rfl (wK e1 (blockQ fun _ e2=>bE j fun m5 e3 j=>?_)))
  replace b:=b.rowNh 3 I1
  refine loopQ (fun s a w=>∃ (U:LI) (A:Int) (f:FV) (h:Hdr),(U,A)=s∧a=fr 94 f∧f 1=(pB o)∧f 5=iV (p.length:Int)∧f 6=h.v∧f 7=iV A∧St w0 ros (box o 28 [q.v,r.v,k.v]::row 3 I1 h.v U::rs) w) e3 ⟨_,_,_,_,rfl,rfl,rfl,rfl,rfl,rfl,(b.pk 2 [1,0] rfl)⟩ ?_
  rintro _ _ w m6 ⟨U,A,f,h,rfl,rfl,b0,V,b1,b2,b⟩ y e4 m7 e5 e6
  refine seqQ fun m8 e7 e8=>sR fun _ e9=>Ym (iV A) (eh b2) (Ym (iV (p.length:Int)) (eh V) (yY (ylss e0 e0) (wK e9 ?_)))
  refine cIf e0 y (fun f0 y=>?_) fun f0 y=>?_
  ·refine wp_skip (e7 _ _ (sQ fun _ f1=>blockQ fun _ f2=>wR (Ym h.v (eh b1) (yH (rLt (n:=1) (l:=[(-1)]) b SL_22 [iV (-1)] (bp1 rfl) rfl rfl (mks1 (cs:=[iV (-1)]) rfl mkI mks0)) fun m9 w b=>bE y fun n0 f3 y=>yH (rAp (b.pk 3 [2,0,0] rfl) SL_22 e0 e0 rO1 f3) fun f4 w b=>Ya f4.v e0 (wN (f2 _ _ _ ?_))))))
   refine f1 _ _ (wR (Ym (iV A) (eh b2) (yY (yadd e0 rfl) (Ya (iV (wa .i64 A 1)) e0 (wN ?_)))))
   cases y
   exact e5 _ _ _ rfl ⟨_,_,_,_,rfl,rfl,b0,V,rfl,rfl,(b.pk 3 [2,0] rfl)⟩
  refine wp_exit (e8 _ _ _ rfl ?_)
  cases y
  refine e6 _ _ _ _ rfl rfl ?_
  obtain rfl:=e4 _ rfl
  refine e2 _ _ _ (d9 _ _ (sQ fun _ f5=>sR fun _ f6=>Ya (iV 0) rfl (wK f6 (blockQ fun _ f7=>bE j fun n2 f8 j=>?_))))
  refine loopQ (fun s a w=>∃ (B:LI) (g:Int) (f:FV),(B,g)=s∧a=fr 94 f∧f 1=(pB o)∧f 5=iV (p.length:Int)∧f 6=h.v∧f 8=iV g∧St w0 ros (box o 28 [q.v,r.v,k.v]::row 3 I1 h.v B::rs) w) f8 ⟨_,_,_,rfl,rfl,b0,V,b1,rfl,b⟩ ?_
  rintro _ _ w f9 ⟨B,g,f,rfl,rfl,b3,W,J,F,b⟩ i g0 n3 g1 g2
  refine seqQ fun n4 g3 g4=>sR fun _ g5=>Ym (iV g) (eh F) (Ym (iV (p.length:Int)) (eh W) (yY (ylss e0 e0) (wK g5 ?_)))
  refine cIf e0 i (fun g6 i=>?_) fun g6 i=>?_
  ·refine wp_skip (g3 _ _ (sQ fun g7 g8=>?_))
   have b4:∀ (X:LI) (f:FV) w,f 1=(pB o)→f 5=iV (p.length:Int)→f 6=h.v→f 8=iV g→St w0 ros (box o 28 [q.v,r.v,k.v]::row 3 I1 h.v X::rs) w→sparseref18_Match_j61 g X=some f9→g7 .normal (fr 94 f) w:=by
    intro X f w g9 h0 h1 h3 b j
    refine g8 _ _ (wR (Ym (iV g) (eh h3) (yY (yadd e0 rfl) (Ya (iV (wa .i64 g 1)) e0 (wN ?_)))))
    cases j
    exact g1 _ _ _ rfl ⟨_,_,_,rfl,rfl,g9,h0,h1,rfl,b⟩
   refine blockQ fun _ b5=>seqQ fun n5 h5 h7=>sR fun _ h8=>Ym h.v (eh J) (Ym (iV g) (eh F) (bE i fun n6 b6 i=>yY (yIa SL_22 e0 e0 b rO1 b6) (yY (yI O_3 e0 b rO1 b6) (yY (ygeq e0 rfl) (wK h8 ?_)))))
   refine cIf e0 i (fun h9 i=>?_) fun h9 i=>?_
   ·exact wp_exit (h7 _ _ _ rfl (b5 _ _ _ (b4 _ _ _ b3 W J F b i)))
   refine wp_skip (h5 _ _ (sR fun _ i0=>Ym (iV g) (eh F) (Ya (iV g) e0 (Ya (iV 0) rfl (wK i0 (sQ fun _ i1=>sR fun _ i2=>Ya (iV 0) rfl (wN ?_)))))))
   refine i2 _ _ (blockQ fun _ i3=>bE i fun n7 i4 i=>?_)
   refine loopQ (fun s a w=>∃ (z C m:Int) (f:FV),(z,C,m)=s∧a=fr 94 f∧f 1=(pB o)∧f 5=iV (p.length:Int)∧f 6=h.v∧f 8=iV g∧f 9=iV z∧f 10=iV C∧f 11=iV m∧St w0 ros (box o 28 [q.v,r.v,k.v]::row 3 I1 h.v B::rs) w) i4 ⟨_,_,_,_,rfl,rfl,b3,W,J,F,rfl,rfl,rfl,b⟩ ?_
   rintro _ _ w i5 ⟨z,C,m,f,rfl,rfl,D,Z,E,x,K,a0,G,b⟩ c i6 n8 i7 i8
   refine seqQ fun n9 i9 j0=>sR fun _ j1=>Ym (iV m) (eh G) (yY (yFb FL_28_2 (eh D)) (yY (lb_ k.v O_24 e0 b R0) (Ym (iV g) (eh x) (bE c fun o0 b8 c=>yY (yIa SL_24 e0 e0 b (rdI u) b8) ?_))))
   obtain ⟨o2,b⟩:=iLs b u b8
   refine yY (yCt O_22 e0 b F1 rfl) (yY (yLen SL_22 e0 b (rdI F0)) (yY (ylss e0 e0) (wK j1 ?_)))
   refine cIf e0 c (fun j2 c=>?_) fun j2 c=>?_
   ·refine wp_skip (i9 _ _ (sQ fun _ j3=>blockQ fun j4 j5=>sR fun _ j6=>yY (yFb FL_28_0 (eh D)) (yY (yFb FL_26_0 e0) (yY (lb_ q.v O_24 e0 b R0) (Ym (iV g) (eh x) (bE c fun o3 b9 c=>yY (yIa SL_24 e0 e0 b (rdI (F_2 S)) b9) ?_))))))
    obtain ⟨o4,b⟩:=iLs b (F_2 S) b9
    refine yY (yCt O_22 e0 b F1 rfl) (Ym (iV m) (eh G) (bE c fun H c0 c=>yY (yIa SL_22 e0 e0 b (rdI F0) c0) (yY (yI O_3 e0 b (rdI F0) c0) (Ya (iV H) e0 (wK j6 (sR fun _ j7=>Ym h.v (eh E) (Ym (iV H) e0 (bE c fun j8 c1 c=>yY (yIa SL_22 e0 e0 b rO1 c1) ?_))))))))
    refine yY (yI O_3 e0 b rO1 c1) (yY (ylss e0 rfl) (Ym (.bool (decide (j8 < 0))) e0 (bE c fun j9 t c=>?_)))
    refine joinW 11 (fun f w=>f 1=(pB o)∧f 5=iV (p.length:Int)∧f 6=h.v∧f 8=iV g∧f 9=iV z∧f 10=iV C∧f 11=iV m∧f 12=iV H∧f 75=.bool j9∧St w0 ros (box o 28 [q.v,r.v,k.v]::row 3 I1 h.v B::rs) w) (fun c2=>?_) ?_
    ·rcases iteS t with ⟨d,t⟩ | ⟨d,t⟩
     ·refine yG (dT d) (yFb FL_28_2 (eh D)) (yG (dT d) (lb_ k.v O_24 e0 b R0) (yG (dT d) (m_ (iV g) (eh x)) (bE t fun o5 c3 t=>yG (dT d) (yIa SL_24 e0 e0 b (rdI (F_4 u)) c3) ?_)))
      obtain ⟨o6,b⟩:=iLs b (F_4 u) c3
      refine yG (dT d) (yCt O_22 e0 b F1 rfl) (yG (dT d) (m_ (iV m) (eh G)) (bE t fun k0 c4 t=>yG (dT d) (yIa SL_22 e0 e0 b (rdI F0) c4) (yG (dT d) (yI O_3 e0 b (rdI F0) c4) (yG (dT d) (m_ (iV C) (eh a0)) (yG (dT d) (ygtr e0 e0) (yY (pt_ (.bool (decide (C < k0))) e0 (dT d) e0) ?_))))))
      cases t
      exact c2 _ _ ⟨D,Z,E,x,K,a0,G,rfl,rfl,(b.facts (allT (allT (allT (allT (allT (allT allI)))))))⟩
     refine gN (dF d) (gN (dF d) (gN (dF d) (gN (dF d) (gN (dF d) (gN (dF d) (gN (dF d) (gN (dF d) (gN (dF d) (gN (dF d) (yY (pf_ (.bool false) e0 (dF d) rfl) ?_))))))))))
     cases t
     exact c2 _ _ ⟨D,Z,E,x,K,a0,G,rfl,rfl,(b.facts (allT (allT (allT (allT allI)))))⟩
    rintro f w ⟨L,c5,c6,N,k9,l0,O,l1,l2,b⟩
    refine wK j7 ?_
    have c7:∀ (a2 a3:Int) (f:FV) w,f 1=(pB o)→f 5=iV (p.length:Int)→f 6=h.v→f 8=iV g→f 9=iV a2→f 10=iV a3→f 11=iV m→St w0 ros (box o 28 [q.v,r.v,k.v]::row 3 I1 h.v B::rs) w→sparseref18_Match_j68 m a2 a3=some i5→j4 .normal (fr 94 f) w:=by
     intro a2 a3 f w l3 l4 l5 l6 l7 l8 l9 b j
     refine j5 _ _ _ (j3 _ _ (wR (Ym (iV m) (eh l9) (yY (yadd e0 rfl) (Ya (iV (wa .i64 m 1)) e0 (wN ?_))))))
     cases j
     exact i7 _ _ _ rfl ⟨_,_,_,_,rfl,rfl,l3,l4,l5,l6,l7,l8,rfl,b⟩
    refine cB (eh l2) c (fun m0 c=>?_) fun m0 c=>?_
    ·refine bE c fun o7 a4 c=>bE c fun m1 R c=>dR [0,0,2,0,14,30,0,126,254,1,1023] [9,10] 2 folM ?_
     replace b:=b.drew
     refine Dn [0,1,2,3,4,5,6,7,8] [] [9] (yR rfl (m_ (iV H) (eh l1)) (yR rfl (yFb FL_28_2 (eh L)) (yR rfl (lb_ k.v O_24 e0 b R0) (yR rfl (m_ (iV g) (eh N)) (yR rfl (yIa SL_24 e0 e0 b (rdI u) a4) ?_)))))
     obtain ⟨o8,b⟩:=iLs b u a4
     refine yR rfl (yCt O_22 e0 b F1 rfl) (yR rfl (m_ (iV m) (eh O)) (yR rfl (yIa SL_22 e0 e0 b (rdI F0) R) (yR rfl (yI O_3 e0 b (rdI F0) R) (Rn QSn ?_))))
     refine Lc1 rfl ?_
     refine Ly wn (a_ (iV H) e0) (Dn [] [1,2,3,4,5,6,7,8] [10] (Rn (yS rfl (yFb FL_28_2 (eh L)) (yS rfl (lb_ k.v O_24 e0 b R0) (yS rfl (m_ (iV g) (eh N)) (yS rfl (yIa SL_24 e0 e0 b (rdI (F_2 u)) a4) (yS rfl (yCt O_22 e0 b F1 rfl) (yS rfl (m_ (iV m) (eh O)) (yS rfl (yIa SL_22 e0 e0 b (rdI F0) R) (yS rfl (yI O_3 e0 b (rdI F0) R) QSn)))))))) ?_))
     refine Lc1 rfl ?_
     exact Ly wn (a_ (iV m1) e0) (Dz [] [] (Rn QSn (c7 _ _ _ _ L c5 c6 N rfl rfl O (b.facts (allT (allT allI))) c)))
    exact wp_skip (c7 _ _ _ _ L c5 c6 N k9 l0 O b c)
   refine wp_exit (j0 _ _ _ rfl ?_)
   cases c
   refine i8 _ _ _ _ rfl rfl ?_
   obtain rfl:=i6 _ rfl
   refine i3 _ _ _ (i1 _ _ (wR (Ym h.v (eh E) (Ym (iV g) (eh x) (Ym h.v (eh E) (Ym (iV z) (eh K) (Ym (iV z) (eh K) (Ym (iV g) (eh x) (bE i fun o9 c8 i=>yY (yIs SL_22 e0 e0 b rO1 c8) (yT (r_sti (cs:=[iV z]) (b.pk 2 [1,0] rfl) O_3 rfl e0 e0 rfl mkI c8) fun w b=>bE i fun p0 d0 i=>?_))))))))))
   exact yY (yIs SL_22 e0 e0 b rO0 d0) (yT (r_sti (cs:=[iV g]) b O_3 rfl e0 e0 rfl mkI d0) fun w b=>wN (b5 _ _ _ (b4 _ _ _ D Z E x ((b.pk 2 [1,0] rfl).facts (allT (allT allI))) i)))
  refine wp_exit (g4 _ _ _ rfl ?_)
  cases i
  refine g2 _ _ _ _ rfl rfl ?_
  obtain rfl:=g0 _ rfl
  refine f7 _ _ _ (f5 _ _ (sR fun _ m2=>Ym h.v (eh J) (Ya h.v e0 (Ya (iV 0) rfl (wK m2 (wp_ret ?_))))))
  cases j
  exact a9 _ _ _ (fin2r Tryz.results12 ⟨rfl,rfl⟩ ⟨rfl,rfl⟩ ⟨_,rfl,(b.pk 2 [1] rfl)⟩)
 refine condT e0 (nT (dF T)) (sR fun _ m3=>Ym (iV I) e0 (Ya hnil.v rfl (Ya (iV I) e0 (wK m3 (wp_ret (d3 _ _ _ rfl ?_))))))
 cases j
 replace b:=b.rowNh 3 I1
 exact a9 _ _ _ (fin2r Tryz.results12 ⟨rfl,rfl⟩ ⟨rfl,rfl⟩ ⟨_,rfl,(b.pk 2 [0] rfl)⟩)
theorem sparseref18_Total_ok {o:L2} {p:LI} {q:L2} {i h j:Hdr} {out:Int} (k:sparseref18_Total o p q=some out) (S:imm S1 i.v o∈ros) (l:imm I1 h.v p∈ros) (T:imm S1 j.v q∈ros) (b:St w0 ros rs w):
  Calls Tryz.prog 75 #[.agg #[i.v,h.v,j.v]] w (fun e w=>e=.returned (iV out)∧St w0 ros rs w):=by
 refine enterQ Tryz.func75 rfl Tryz.ntmps75 rfl fun Q x=>sR fun _ y=>yBb (r_box (vals:=[i.v,h.v,j.v]) b e0 rfl) fun r w b=>Ya (iV 0) rfl (wK y (sR fun _ z=>Ya (iV 0) rfl (wK z (sQ fun _ A=>?_))))
 refine sR fun _ B=>Ya (iV 0) rfl (wK B (blockQ fun _ C=>bE k fun U D k=>?_))
 refine loopQ (fun s a w=>∃ (c d:Int) (f:FV),(c,d)=s∧a=fr 20 f∧f 1=(pB r)∧f 3=iV c∧f 4=iV d∧St w0 ros (box r 28 [i.v,h.v,j.v]::rs) w) D ⟨_,_,_,rfl,rfl,rfl,rfl,rfl,b⟩ ?_
 rintro _ _ w V ⟨c,d,f,rfl,rfl,m,t,n,b⟩ g E W F G
 refine seqQ fun X H I=>sR fun _ J=>Ym (iV d) (eh n) (yY (yFb FL_28_1 (eh m)) (yY (lb_ h.v O_22 e0 b R0) (yY (yLen SL_22 e0 b (rdI l)) (yY (ylss e0 e0) (wK J ?_)))))
 refine cIf e0 g (fun K g=>?_) fun K g=>?_
 ·refine wp_skip (H _ _ (sQ fun _ L=>blockQ fun _ N=>wR (Ym (iV c) (eh t) (yY (yFb FL_28_1 (eh m)) (yY (lb_ h.v O_22 e0 b R0) (Ym (iV d) (eh n) (bE g fun O u g=>yY (yIa SL_22 e0 e0 b (rdI l) u) (yY (yI O_3 e0 b (rdI l) u) (yY (yadd e0 e0) (Ya (iV (wa .i64 c O)) e0 ?_))))))))))
  refine wN (N _ _ _ (L _ _ (wR (Ym (iV d) (eh n) (yY (yadd e0 rfl) (Ya (iV (wa .i64 d 1)) e0 (wN ?_)))))))
  cases g
  exact F _ _ _ rfl ⟨_,_,_,rfl,rfl,m,rfl,rfl,b⟩
 refine wp_exit (I _ _ _ rfl ?_)
 cases g
 refine G _ _ _ _ rfl rfl ?_
 obtain rfl:=E _ rfl
 refine C _ _ _ (A _ _ (sR fun _ R=>Ym (iV c) (eh t) (Ya (iV c) e0 (wK R (wp_ret ?_)))))
 cases k
 exact x _ _ _ (fin1r Tryz.results75 ⟨rfl,rfl⟩ ⟨rfl,(b.pk 1 [] rfl)⟩)
theorem sparseref12_Levels_ok {g:L2} {d:Int} {q:Hdr} {out:L2} (k:sparseref12_Levels g d=some out) (S:imm S1 q.v g∈ros) (b:St w0 ros rs w):
  Calls Tryz.prog 78 #[.agg #[q.v],iV d] w (fun e w=>∃ (c6:Hdr),e=.returned (c6.v)∧St w0 ros (row 22 S1 c6.v out::rs) w):=by
 refine enterQ Tryz.func78 rfl Tryz.ntmps78 rfl fun Q c8=>sR fun _ f3=>yBb (r_box (vals:=[q.v]) b e0 rfl) fun h w b=>Ya hnil.v rfl (wK f3 (sR fun _ f4=>yY (yFb FL_26_0 e0) (yY (lb_ q.v O_24 e0 b R0) (yY (yLen SL_24 e0 b (rdI S)) (Ya (iV (g.length:Int)) e0 ?_)))))
 refine wK f4 (seqQ fun q7 f5 f6=>sR fun _ f7=>yY (lbs_ [q.v] ST_26 e0 b R0) (bE k fun I f8 k=>yC (yCall FN_54 (a1 e0)) (sparseref12_Check_ok f8 S b) ?_))
 rintro _ w ⟨rfl,b⟩
 refine ⟨_,rfl,?_⟩
 refine yY (yneq e0 rfl) (Ym (.bool (!(decide (I=0)))) e0 ?_)
 refine joinW 3 (fun f w=>f 1=iV d∧f 2=(pB h)∧f 5=iV (g.length:Int)∧f 24=.bool ((!(decide (I=0))) || (decide (d < 0)))∧St w0 ros (box h 26 [q.v]::rs) w) (fun d0=>?_) ?_
 ·rcases Bool.eq_false_or_eq_true (!(decide (I=0))) with B | B
  ·exact gN B (gN B (yY (pt_ (.bool true) e0 B rfl) (d0 _ _ ⟨rfl,rfl,rfl,(congrArg Value.bool (orT B)),b⟩)))
  exact yG B (m_ (iV d) e0) (yG B (ylss e0 rfl) (yY (pf_ (.bool (decide (d < 0))) e0 B e0) (d0 _ _ ⟨rfl,rfl,rfl,(congrArg Value.bool (orF B)),b⟩)))
 rintro f w ⟨a3,d1,a4,f9,b⟩
 refine Ym (.bool ((!(decide (I=0))) || (decide (d < 0)))) (eh f9) ?_
 refine joinW 4 (fun f w=>f 1=iV d∧f 2=(pB h)∧f 5=iV (g.length:Int)∧f 29=.bool (((!(decide (I=0))) || (decide (d < 0))) || (decide ((g.length:Int)≤d)))∧St w0 ros (box h 26 [q.v]::rs) w) (fun d2=>?_) ?_
 ·rcases Bool.eq_false_or_eq_true ((!(decide (I=0))) || (decide (d < 0))) with x | x
  ·exact gN x (gN x (gN x (yY (pt_ (.bool true) e0 x rfl) (d2 _ _ ⟨a3,d1,a4,(congrArg Value.bool (orT x)),b⟩))))
  exact yG x (m_ (iV d) (eh a3)) (yG x (m_ (iV (g.length:Int)) (eh a4)) (yG x (ygeq e0 e0) (yY (pf_ (.bool (decide ((g.length:Int)≤d))) e0 x e0) (d2 _ _ ⟨a3,d1,a4,(congrArg Value.bool (orF x)),b⟩))))
 rintro f w ⟨d3,g0,d4,g1,b⟩
 refine wK f7 (cB (eh g1) k (fun g2 k=>?_) fun g2 k=>?_)
 ·refine sR fun _ g3=>Ya hnil.v rfl (wK g3 (wp_ret (f6 _ _ _ rfl ?_)))
  cases k
  replace b:=b.rowNh 22 S1
  exact c8 _ _ _ (fin1r Tryz.results78 ⟨rfl,rfl⟩ ⟨_,rfl,(b.pk 2 [0] rfl)⟩)
 refine wp_skip (f5 _ _ (sR fun _ g4=>Ym (iV (g.length:Int)) (eh d4) (bE k fun q8 g5 k=>yH (rMk b SL_93 e0 g5) fun i w b=>Ya i.v e0 (wK g4 (sR fun _ g6=>Ym i.v e0 ?_)))))
 refine Ym (iV d) (eh d3) (bE k fun q9 d5 k=>yY (yIs SL_93 e0 e0 b rO0 d5) (yT (r_sti (cs:=[.bool true]) b O_4 rfl e0 rfl rfl mkB d5) fun w b=>wK g6 (sR fun _ g7=>Ym (iV d) (eh d3) (yH (rLt (n:=1) (l:=[d]) b SL_22 [iV d] (bp1 e0) rfl rfl (mks1 (cs:=[iV d]) rfl mkI mks0)) fun g8 w b=>Ya g8.v e0 (wN ?_)))))
 refine g7 _ _ (sR fun _ g9=>Ya hnil.v rfl (wK g9 (sQ fun _ h0=>blockQ fun _ h1=>bE k fun r0 h3 k=>?_)))
 replace b:=b.rowNh 22 S1
 refine loopQ (fun s a w=>∃ (J:List Bool) (G:LI) (a5:L2) (f:FV) (m K:Hdr),(J,G,a5)=s∧a=fr 107 f∧f 2=(pB h)∧f 5=iV (g.length:Int)∧f 6=i.v∧f 7=m.v∧f 8=K.v∧St w0 ros (box h 26 [q.v]::row 4 rB i.v J::row 3 I1 m.v G::row 22 S1 K.v a5::rs) w) h3 ⟨_,_,_,_,_,_,rfl,rfl,g0,d4,rfl,rfl,rfl,(b.pk 4 [3,2,1,0] rfl)⟩ ?_
 rintro _ _ w r1 ⟨J,G,a5,f,m,K,rfl,rfl,h4,d6,h5,a6,d7,b⟩ t h6 r2 h7 h8
 refine seqQ fun r3 h9 i0=>sR fun _ i1=>Ym m.v (eh a6) (yY (yLen SL_22 e0 b rO2) (yY (ygtr e0 rfl) (wK i1 ?_)))
 refine cIf e0 t (fun i2 t=>?_) fun i2 t=>?_
 ·refine wp_skip (h9 _ _ (blockQ fun _ i3=>sR fun _ i4=>Ym K.v (eh d7) (Ym m.v (eh a6) (yH (rLt (n:=1) (l:=[G]) ((b.pk 3 [2,0,0] rfl).fz) SL_24 [m.v] (bp1 e0) rfl rfl (mks1 (cs:=[m.v]) rfl (mkS F0) mks0)) fun r4 w b=>bE t fun O i5 t=>yH (rAp (b.pk 4 [3,0,0,0] rfl) SL_24 e0 e0 rO1 i5) fun y w b=>Ya y.v e0 (wN ?_)))))
  refine i4 _ _ (sR fun _ i6=>Ym (iV (g.length:Int)) (eh d6) (bE t fun r6 i7 t=>yH (rMk b SL_93 e0 i7) fun j w b=>Ya j.v e0 (wK i6 (sQ fun _ i8=>sR fun _ i9=>Ya (iV 0) rfl ?_))))
  refine wK i9 (blockQ fun _ j0=>bE t fun r7 j3 t=>?_)
  refine loopQ (fun s a w=>∃ (R:List Bool) (C:Int) (f:FV),(R,C)=s∧a=fr 107 f∧f 2=(pB h)∧f 5=iV (g.length:Int)∧f 6=i.v∧f 7=m.v∧f 8=y.v∧f 9=j.v∧f 10=iV C∧St w0 (imm I1 m.v G::ros) (box h 26 [q.v]::row 4 rB i.v J::row 22 S1 y.v O::row 4 rB j.v R::rs) w) j3 ⟨_,_,_,rfl,rfl,h4,d6,h5,a6,rfl,rfl,rfl,(b.pk 5 [3,3,1,0] rfl)⟩ ?_
  rintro _ _ w r8 ⟨R,C,f,rfl,rfl,a7,d8,d9,a8,e1,e2,a9,b⟩ z j4 r9 j5 j6
  refine seqQ fun s0 j7 j8=>sR fun _ j9=>Ym (iV C) (eh a9) (Ym m.v (eh a8) (yY (yLen SL_22 e0 b (rdI F0)) (yY (ylss e0 e0) (wK j9 ?_))))
  refine cIf e0 z (fun k0 z=>?_) fun k0 z=>?_
  ·refine wp_skip (j7 _ _ (sQ fun _ l0=>blockQ fun _ l1=>sQ fun _ l2=>bE z fun s1 e3 z=>bE z fun e4 e5 z=>dR [0,1,0,0,12,28,63,127,255] [8] 1 folM ?_))
   replace b:=b.drew
   refine Dn [0,1,2,3,4,5,6,7] [] [8] (yR rfl (yFb FL_26_0 (eh a7)) (yR rfl (lb_ q.v O_24 e0 b R0) (yR rfl (m_ m.v (eh a8)) (yR rfl (m_ (iV C) (eh a9)) (yR rfl (yIa SL_22 e0 e0 b (rdI F0) e3) (yR rfl (yI O_3 e0 b (rdI F0) e3) (yR rfl (yIa SL_24 e0 e0 b (rdI (mtF S)) e5) ?_)))))))
   obtain ⟨A,b⟩:=iLs b (mtF S) e5
   refine yR rfl (yCt O_22 e0 b F1 rfl) (Rn QSn ?_)
   refine Lc1 rfl ?_
   refine Ly wn (a_ A.v e0) (Dz [] [] (Rn QSn (l2 _ _ (sR fun _ l3=>Ya (iV 0) rfl (wK l3 (blockQ fun _ l4=>bE z fun s2 l5 z=>?_))))))
   refine loopQ (fun s a w=>∃ (b0:List Bool) (u:Int) (f:FV),(b0,u)=s∧a=fr 107 f∧f 2=(pB h)∧f 5=iV (g.length:Int)∧f 6=i.v∧f 7=m.v∧f 8=y.v∧f 9=j.v∧f 10=iV C∧f 11=A.v∧f 12=iV u∧St w0 (imm I1 m.v G::imm I1 A.v e4::ros) (box h 26 [q.v]::row 4 rB i.v J::row 22 S1 y.v O::row 4 rB j.v b0::rs) w) l5 ⟨_,_,_,rfl,rfl,a7,d8,d9,a8,e1,e2,a9,rfl,rfl,(b.facts (allC F2 (allC F0 (allT (allT (allT allI))))))⟩ ?_
   rintro _ _ w s3 ⟨b0,u,f,rfl,rfl,b1,b2,T,b3,b5,H,b6,E,F,b⟩ o l6 s4 l7 l8
   refine seqQ fun s5 l9 m0=>sR fun _ m1=>Ym (iV u) (eh F) (Ym A.v (eh E) (yY (yLen SL_22 e0 b (rdI F1)) (yY (ylss e0 e0) (wK m1 ?_))))
   refine cIf e0 o (fun m2 o=>?_) fun m2 o=>?_
   ·refine wp_skip (l9 _ _ (sQ fun _ m3=>blockQ fun _ m4=>bE o fun s6 U o=>bE o fun s7 V o=>bE o fun e6 W o=>bE o fun X D o=>bE o fun m5 Z o=>?_))
    refine joinN (n:=107) (fun f w=>f 2=(pB h)∧f 5=iV (g.length:Int)∧f 6=i.v∧f 7=m.v∧f 8=y.v∧f 9=j.v∧f 10=iV C∧f 11=A.v∧f 12=iV u∧St w0 (imm I1 m.v G::imm I1 A.v e4::ros) (box h 26 [q.v]::row 4 rB i.v J::row 22 S1 y.v O::row 4 rB j.v m5::rs) w) (fun e7=>?_) ?_
    ·rcases iteS D with ⟨c,D⟩ | ⟨c,D⟩
     ·have m6:=someI D
      refine dR [0,0,0,6,14,0,0,0,192,448,992,2016,4064,8160,8160,8160,57312,122848,262112,524256,1048544,2097120,4194303,8388607] [23] 1 folM ?_
      replace b:=b.drew
      refine Dn [0,1,2,3,4,5,6,7,8,9,10,11,12,13,14,15,16,17,18,19,20,21,22] [] [23] (yR rfl (m_ j.v (eh H)) (yR rfl (m_ A.v (eh E)) (yR rfl (m_ (iV u) (eh F)) (yR rfl (yIa SL_22 e0 e0 b (rdI F1) U) (yR rfl (yI O_3 e0 b (rdI F1) U) (yR rfl (m_ j.v (eh H)) (yR rfl (m_ A.v (eh E)) (yR rfl (m_ (iV u) (eh F)) (yR rfl (yIa SL_22 e0 e0 b (rdI F1) V) (yR rfl (yI O_3 e0 b (rdI F1) V) (yR rfl (yIa SL_93 e0 e0 b rO3 W) (yR rfl (yB O_4 e0 b rO3 W) (yR rfl (m_ (.bool e6) e0) ?_)))))))))))))
      refine Rx rfl rfl (wX c) (Rx rfl rfl (wX c) (Rx rfl rfl (wX c) (Rx rfl rfl (wX c) (Rx rfl rfl (wX c) (Rx rfl rfl (wX c) (Rx rfl rfl (wX c) (Rx rfl rfl (wX c) (yR rfl (pt_ (.bool X) e0 c (eqv m6 rfl)) (yR rfl (yIs SL_93 e0 e0 b rO3 Z) (Rn QSn ?_))))))))))
      refine Lc1 rfl ?_
      replace b:=b.pk 4 [3,0,0,0] rfl
      exact LT wn (r_sti (cs:=[.bool X]) b O_4 rfl e0 e0 rfl mkB Z) fun w b=>Dz [] [] (Rn QSn (e7 _ _ ⟨b1,b2,T,b3,b5,H,b6,E,F,(b.pk 4 [1,1,1,0] rfl)⟩))
     refine bE D fun s8 e8 D=>bE D fun s9 e9 D=>?_
     have m7:=someI D
     refine dR [0,0,0,6,14,0,0,0,192,448,992,2016,4064,8160,8160,8160,57312,122848,262112,524256,1048544,2097120,4194303,8388607] [23] 1 folM ?_
     replace b:=b.drew
     refine Dn [0,1,2,3,4,5,6,7,8,9,10,11,12,13,14,15,16,17,18,19,20,21,22] [] [23] (yR rfl (m_ j.v (eh H)) (yR rfl (m_ A.v (eh E)) (yR rfl (m_ (iV u) (eh F)) (yR rfl (yIa SL_22 e0 e0 b (rdI F1) U) (yR rfl (yI O_3 e0 b (rdI F1) U) (yR rfl (m_ j.v (eh H)) (yR rfl (m_ A.v (eh E)) (yR rfl (m_ (iV u) (eh F)) (yR rfl (yIa SL_22 e0 e0 b (rdI F1) V) (yR rfl (yI O_3 e0 b (rdI F1) V) (yR rfl (yIa SL_93 e0 e0 b rO3 W) (yR rfl (yB O_4 e0 b rO3 W) (yR rfl (m_ (.bool e6) e0) ?_)))))))))))))
     refine Ry rfl rfl (wG (bfalse c)) (m_ i.v (eh T)) (Ry rfl rfl (wG (bfalse c)) (m_ A.v (eh E)) (Ry rfl rfl (wG (bfalse c)) (m_ (iV u) (eh F)) (Ry rfl rfl (wG (bfalse c)) (yIa SL_22 e0 e0 b (rdI F1) e8) (Ry rfl rfl (wG (bfalse c)) (yI O_3 e0 b (rdI F1) e8) (Ry rfl rfl (wG (bfalse c)) (yIa SL_93 e0 e0 b rO1 e9) (Ry rfl rfl (wG (bfalse c)) (yB O_4 e0 b rO1 e9) (Ry rfl rfl (wG (bfalse c)) (ynot e0) (yR rfl (pf_ (.bool X) e0 (bfalse c) (eqv m7 e0)) (yR rfl (yIs SL_93 e0 e0 b rO3 Z) (Rn QSn ?_))))))))))
     refine Lc1 rfl ?_
     replace b:=b.pk 4 [3,0,0,0] rfl
     exact LT wn (r_sti (cs:=[.bool X]) b O_4 rfl e0 e0 rfl mkB Z) fun w b=>Dz [] [] (Rn QSn (e7 _ _ ⟨b1,b2,T,b3,b5,H,b6,E,F,(b.pk 4 [1,1,1,0] rfl)⟩))
    rintro f w ⟨m8,m9,n0,n1,n2,n3,n4,n5,n6,b⟩
    refine m4 _ _ _ (m3 _ _ (wR (Ym (iV u) (eh n6) (yY (yadd e0 rfl) (Ya (iV (wa .i64 u 1)) e0 (wN ?_))))))
    cases o
    exact l7 _ _ _ rfl ⟨_,_,_,rfl,rfl,m8,m9,n0,n1,n2,n3,n4,n5,rfl,b⟩
   refine wp_exit (m0 _ _ _ rfl ?_)
   cases o
   refine l8 _ _ _ _ rfl rfl ?_
   obtain rfl:=l6 _ rfl
   refine l4 _ _ _ (l1 _ _ _ (l0 _ _ (wR (Ym (iV C) (eh b6) (yY (yadd e0 rfl) (Ya (iV (wa .i64 C 1)) e0 (wN ?_)))))))
   cases z
   exact j5 _ _ _ rfl ⟨_,_,_,rfl,rfl,b1,b2,T,b3,b5,H,rfl,(b.facts (allC F0 (allT (allT allI))))⟩
  refine wp_exit (j8 _ _ _ rfl ?_)
  cases z
  refine j6 _ _ _ _ rfl rfl ?_
  obtain rfl:=j4 _ rfl
  refine j0 _ _ _ (i8 _ _ (sR fun _ n7=>Ya hnil.v rfl (wK n7 (sQ fun _ n8=>sR fun _ n9=>Ya (iV 0) rfl (wK n9 (blockQ fun _ o0=>?_))))))
  refine bE t fun t0 o1 t=>?_
  replace b:=b.rowNh 3 I1
  refine loopQ (fun s a w=>∃ (b7:List Bool) (b8:LI) (r:Int) (f:FV) (L:Hdr),(b7,b8,r)=s∧a=fr 107 f∧f 2=(pB h)∧f 5=iV (g.length:Int)∧f 6=i.v∧f 8=y.v∧f 9=j.v∧f 13=L.v∧f 14=iV r∧St w0 ros (box h 26 [q.v]::row 4 rB i.v b7::row 22 S1 y.v O::row 4 rB j.v R::row 3 I1 L.v b8::rs) w) o1 ⟨_,_,_,_,_,rfl,rfl,a7,d8,d9,e1,e2,rfl,rfl,((b.pk 5 [1,1,1,1,0] rfl).facts (allT allI))⟩ ?_
  rintro _ _ w o2 ⟨b7,b8,r,f,L,rfl,rfl,b9,a0,a2,c0,c1,c2,N,b⟩ p o3 t1 o4 o5
  refine seqQ fun t2 o6 o7=>sR fun _ o8=>Ym (iV r) (eh N) (Ym (iV (g.length:Int)) (eh a0) (yY (ylss e0 e0) (wK o8 ?_)))
  refine cIf e0 p (fun o9 p=>?_) fun o9 p=>?_
  ·refine wp_skip (o6 _ _ (sQ fun _ p0=>blockQ fun p1 p2=>sR fun _ p3=>Ym j.v (eh c1) (Ym (iV r) (eh N) (bE p fun t3 f0 p=>yY (yIa SL_93 e0 e0 b rO3 f0) (yY (yB O_4 e0 b rO3 f0) (wK p3 ?_))))))
   have f1:∀ (c3:List Bool) (c4:LI) (c5:Hdr) (f:FV) w,f 2=(pB h)→f 5=iV (g.length:Int)→f 6=i.v→f 8=y.v→f 9=j.v→f 13=c5.v→f 14=iV r→St w0 ros (box h 26 [q.v]::row 4 rB i.v c3::row 22 S1 y.v O::row 4 rB j.v R::row 3 I1 c5.v c4::rs) w→sparseref12_Levels_j98 r c3 c4=some o2→p1 .normal (fr 107 f) w:=by
    intro c3 c4 c5 f w p4 p5 p6 p7 p8 p9 q0 b k
    refine p2 _ _ _ (p0 _ _ (wR (Ym (iV r) (eh q0) (yY (yadd e0 rfl) (Ya (iV (wa .i64 r 1)) e0 (wN ?_))))))
    cases k
    exact o4 _ _ _ rfl ⟨_,_,_,_,_,rfl,rfl,p4,p5,p6,p7,p8,p9,rfl,b⟩
   refine cB e0 p (fun q2 p=>?_) fun q2 p=>?_
   ·refine sR fun _ q3=>Ym L.v (eh c2) (Ym (iV r) (eh N) (yH (rLt (n:=1) (l:=[r]) b SL_22 [iV r] (bp1 e0) rfl rfl (mks1 (cs:=[iV r]) rfl mkI mks0)) fun t4 w b=>bE p fun t5 q4 p=>yH (rAp (b.pk 6 [5,0,0,0,0,0] rfl) SL_22 e0 e0 rO1 q4) fun q5 w b=>Ya q5.v e0 (wK q3 (wR (Ym i.v (eh a2) ?_)))))
    exact Ym (iV r) (eh N) (bE p fun t6 f2 p=>yY (yIs SL_93 e0 e0 b rO3 f2) (yT (r_sti (cs:=[.bool true]) (b.pk 4 [3,0,0,0] rfl) O_4 rfl e0 rfl rfl mkB f2) fun w b=>wN (f1 _ _ _ _ _ b9 a0 a2 c0 c1 rfl N (b.pk 6 [3,0,2,2,0] rfl) p)))
   exact wp_skip (f1 _ _ _ _ _ b9 a0 a2 c0 c1 c2 N b p)
  refine wp_exit (o7 _ _ _ rfl ?_)
  cases p
  refine o5 _ _ _ _ rfl rfl ?_
  obtain rfl:=o3 _ rfl
  refine o0 _ _ _ (n8 _ _ (wR (Ym L.v (eh c2) (Ya L.v e0 (wN (i3 _ _ _ ?_))))))
  cases t
  exact h7 _ _ _ rfl ⟨_,_,_,_,_,_,rfl,rfl,b9,a0,a2,rfl,c0,(b.pk 5 [0,0,2,0] rfl)⟩
 refine wp_exit (i0 _ _ _ rfl ?_)
 cases t
 refine h8 _ _ _ _ rfl rfl ?_
 obtain rfl:=h6 _ rfl
 refine h1 _ _ _ (h0 _ _ (sR fun _ q6=>Ym K.v (eh d7) (Ya K.v e0 (wK q6 (wp_ret ?_)))))
 cases k
 exact c8 _ _ _ (fin1r Tryz.results78 ⟨rfl,rfl⟩ ⟨_,rfl,(b.pk 4 [3] rfl)⟩)
theorem sparseref12_Components_ok {m:L2} {p:Hdr} {out:L2} (d:sparseref12_Components m=some out) (L:imm S1 p.v m∈ros) (b:St w0 ros rs w):
  Calls Tryz.prog 77 #[.agg #[p.v]] w (fun e w=>∃ (b1:Hdr),e=.returned (b1.v)∧St w0 ros (row 22 S1 b1.v out::rs) w):=by
 refine enterQ Tryz.func77 rfl Tryz.ntmps77 rfl fun Q b2=>sR fun _ d9=>yBb (r_box (vals:=[p.v]) b e0 rfl) fun q w b=>Ya hnil.v rfl (wK d9 (seqQ fun o6 e1 e2=>sR fun _ e3=>yY (lbs_ [p.v] ST_26 e0 b R0) (bE d fun o7 e4 d=>yC (yCall FN_54 (a1 e0)) (sparseref12_Check_ok e4 L b) ?_)))
 rintro _ w ⟨rfl,b⟩
 refine ⟨_,rfl,?_⟩
 refine yY (yneq e0 rfl) (wK e3 ?_)
 rcases iteS d with ⟨N,d⟩ | ⟨N,d⟩
 ·refine condF e0 (nF (dT N)) (wp_skip (e1 _ _ (sR fun _ e5=>yY (yFb FL_26_0 e0) (yY (lb_ p.v O_24 e0 b R0) (yY (yLen SL_24 e0 b (rdI L)) (Ya (iV (m.length:Int)) e0 (wK e5 (sR fun _ e6=>Ym (iV (m.length:Int)) e0 ?_))))))))
  refine bE d fun o8 e7 d=>yH (rMk b SL_93 e0 e7) fun g w b=>Ya g.v e0 (wK e6 (sR fun _ e8=>Ya hnil.v rfl (wK e8 (sQ fun _ e9=>sR fun _ f0=>?_))))
  refine Ya (iV 0) rfl (wK f0 (blockQ fun _ f1=>bE d fun o9 f2 d=>?_))
  replace b:=b.rowNh 22 S1
  refine loopQ (fun s a w=>∃ (C:List Bool) (x:L2) (i:Int) (f:FV) (j:Hdr),(C,x,i)=s∧a=fr 80 f∧f 1=(pB q)∧f 3=iV (m.length:Int)∧f 4=g.v∧f 5=j.v∧f 6=iV i∧St w0 ros (box q 26 [p.v]::row 4 rB g.v C::row 22 S1 j.v x::rs) w) f2 ⟨_,_,_,_,_,rfl,rfl,rfl,rfl,rfl,rfl,rfl,(b.pk 3 [2,1,0] rfl)⟩ ?_
  rintro _ _ w f3 ⟨C,x,i,f,j,rfl,rfl,O,F,R,S,D,b⟩ c f4 p0 f5 f6
  refine seqQ fun p1 f7 f8=>sR fun _ f9=>Ym (iV i) (eh D) (Ym (iV (m.length:Int)) (eh F) (yY (ylss e0 e0) (wK f9 ?_)))
  refine cIf e0 c (fun g0 c=>?_) fun g0 c=>?_
  ·refine wp_skip (f7 _ _ (sQ fun g1 g2=>?_))
   have b4:∀ (T:List Bool) (U:L2) (V:Hdr) (f:FV) w,f 1=(pB q)→f 3=iV (m.length:Int)→f 4=g.v→f 5=V.v→f 6=iV i→St w0 ros (box q 26 [p.v]::row 4 rB g.v T::row 22 S1 V.v U::rs) w→sparseref12_Components_j68 i T U=some f3→g1 .normal (fr 80 f) w:=by
    intro T U V f w g3 g4 g5 g6 g7 b d
    refine g2 _ _ (wR (Ym (iV i) (eh g7) (yY (yadd e0 rfl) (Ya (iV (wa .i64 i 1)) e0 (wN ?_)))))
    cases d
    exact f5 _ _ _ rfl ⟨_,_,_,_,_,rfl,rfl,g3,g4,g5,g6,rfl,b⟩
   refine blockQ fun _ b5=>seqQ fun p2 g8 g9=>sR fun _ h0=>Ym g.v (eh R) (Ym (iV i) (eh D) (bE c fun p3 b6 c=>yY (yIa SL_93 e0 e0 b rO1 b6) (yY (yB O_4 e0 b rO1 b6) (wK h0 (cB e0 c (fun h1 c=>?_) fun h1 c=>?_)))))
   ·exact wp_exit (g9 _ _ _ rfl (b5 _ _ _ (b4 _ _ _ _ _ O F R S D b c)))
   refine wp_skip (g8 _ _ (sR fun _ h3=>yY (lbs_ [p.v] ST_26 (eh O) b R0) (Ym (iV i) (eh D) (bE c fun b7 h4 c=>yC (yCall FN_78 (a2 e0 e0)) (sparseref12_Levels_ok h4 L b) ?_))))
   rintro _ w ⟨u,rfl,b⟩
   refine ⟨_,rfl,?_⟩
   refine Ya u.v e0 (wK h3 (sR fun _ h5=>Ym (iV (m.length:Int)) (eh F) (bE c fun p4 h7 c=>yH (rMk b SL_93 e0 h7) fun r w b=>Ya r.v e0 (wK h5 (sQ fun _ h8=>sQ fun _ h9=>?_)))))
   refine wR (Ya (iV 0) rfl (wK h9 (blockQ fun _ i0=>bE c fun p5 i1 c=>?_)))
   refine loopQ (fun s a w=>∃ (E:List Bool) (t:Int) (f:FV),(E,t)=s∧a=fr 80 f∧f 1=(pB q)∧f 3=iV (m.length:Int)∧f 4=g.v∧f 5=j.v∧f 6=iV i∧f 7=u.v∧f 8=r.v∧f 9=iV t∧St w0 ros (box q 26 [p.v]::row 4 rB g.v C::row 22 S1 j.v x::row 22 S1 u.v b7::row 4 rB r.v E::rs) w) i1 ⟨_,_,_,rfl,rfl,O,F,R,S,D,rfl,rfl,rfl,(b.pk 5 [2,2,2,1,0] rfl)⟩ ?_
   rintro _ _ w p6 ⟨E,t,f,rfl,rfl,b8,b9,c0,c1,c2,c3,c4,c6,b⟩ y i2 p7 i3 i4
   refine seqQ fun p8 i5 i6=>sR fun _ i7=>Ym (iV t) (eh c6) (Ym u.v (eh c3) (yY (yLen SL_24 e0 b rO3) (yY (ylss e0 e0) (wK i7 ?_))))
   refine cIf e0 y (fun i8 y=>?_) fun i8 y=>?_
   ·refine wp_skip (i5 _ _ (sQ fun _ i9=>blockQ fun _ j0=>sR fun _ j1=>Ya (iV 0) rfl (wK j1 (blockQ fun _ j2=>bE y fun p9 j3 y=>?_))))
    refine loopQ (fun s a w=>∃ (W:List Bool) (z:Int) (f:FV),(W,z)=s∧a=fr 80 f∧f 1=(pB q)∧f 3=iV (m.length:Int)∧f 4=g.v∧f 5=j.v∧f 6=iV i∧f 7=u.v∧f 8=r.v∧f 9=iV t∧f 10=iV z∧St w0 ros (box q 26 [p.v]::row 4 rB g.v C::row 22 S1 j.v x::row 22 S1 u.v b7::row 4 rB r.v W::rs) w) j3 ⟨_,_,_,rfl,rfl,b8,b9,c0,c1,c2,c3,c4,c6,rfl,b⟩ ?_
    rintro _ _ w q0 ⟨W,z,f,rfl,rfl,c7,c8,c9,d0,d1,G,X,H,Z,b⟩ o j4 q2 j5 j6
    refine seqQ fun q3 j7 j8=>sR fun _ j9=>Ym (iV z) (eh Z) (Ym u.v (eh G) (Ym (iV t) (eh H) (bE o fun q4 d2 o=>yY (yIa SL_24 e0 e0 b rO3 d2) ?_)))
    obtain ⟨q5,k0,b⟩:=rLs b rO3 d2
    refine yY (yCe O_22 e0 k0 rfl) (yY (yLen SL_22 e0 b (rdI F0)) (yY (ylss e0 e0) (wK j9 ?_)))
    refine cIf e0 o (fun k9 o=>?_) fun k9 o=>?_
    ·refine wp_skip (j7 _ _ (sQ fun _ l0=>blockQ fun _ l1=>wR (Ym r.v (eh X) (Ym u.v (eh G) (Ym (iV t) (eh H) (bE o fun q6 d3 o=>yY (yIa SL_24 e0 e0 b rO3 d3) ?_))))))
     obtain ⟨q7,l2,b⟩:=rLs b rO3 d3
     refine yY (yCe O_22 e0 l2 rfl) (Ym (iV z) (eh Z) (bE o fun q8 d4 o=>yY (yIa SL_22 e0 e0 b (rdI F0) d4) (yY (yI O_3 e0 b (rdI F0) d4) (bE o fun q9 d5 o=>yY (yIs SL_93 e0 e0 b rO4 d5) (yT (r_sti (cs:=[.bool true]) (b.pk 5 [4,0,0,0,0] rfl) O_4 rfl e0 rfl rfl mkB d5) fun w b=>wN (l1 _ _ _ (l0 _ _ (wR (Ym (iV z) (eh Z) ?_)))))))))
     refine yY (yadd e0 rfl) (Ya (iV (wa .i64 z 1)) e0 (wN ?_))
     cases o
     exact j5 _ _ _ rfl ⟨_,_,_,rfl,rfl,c7,c8,c9,d0,d1,G,X,H,rfl,((b.pk 5 [1,1,1,1,0] rfl).facts (allT (allT allI)))⟩
    refine wp_exit (j8 _ _ _ rfl ?_)
    cases o
    refine j6 _ _ _ _ rfl rfl ?_
    obtain rfl:=j4 _ rfl
    refine j2 _ _ _ (j0 _ _ _ (i9 _ _ (wR (Ym (iV t) (eh H) (yY (yadd e0 rfl) (Ya (iV (wa .i64 t 1)) e0 (wN ?_)))))))
    cases y
    exact i3 _ _ _ rfl ⟨_,_,_,rfl,rfl,c7,c8,c9,d0,d1,G,X,rfl,(b.facts (allT allI))⟩
   refine wp_exit (i6 _ _ _ rfl ?_)
   cases y
   refine i4 _ _ _ _ rfl rfl ?_
   obtain rfl:=i2 _ rfl
   refine i0 _ _ _ (h8 _ _ (sR fun _ l3=>Ya hnil.v rfl (wK l3 (sQ fun _ l4=>sR fun _ l5=>Ya (iV 0) rfl (wK l5 (blockQ fun _ l6=>?_))))))
   refine bE c fun r0 l7 c=>?_
   replace b:=b.rowNh 3 I1
   refine loopQ (fun s a w=>∃ (a0:List Bool) (I:LI) (k:Int) (f:FV) (A:Hdr),(a0,I,k)=s∧a=fr 80 f∧f 1=(pB q)∧f 3=iV (m.length:Int)∧f 4=g.v∧f 5=j.v∧f 6=iV i∧f 8=r.v∧f 11=A.v∧f 12=iV k∧St w0 ros (box q 26 [p.v]::row 4 rB g.v a0::row 22 S1 j.v x::row 4 rB r.v E::row 3 I1 A.v I::rs) w) l7 ⟨_,_,_,_,_,rfl,rfl,b8,b9,c0,c1,c2,c4,rfl,rfl,(b.pk 6 [1,1,1,2,0] rfl)⟩ ?_
   rintro _ _ w l8 ⟨a0,I,k,f,A,rfl,rfl,a3,J,K,a4,a5,a6,a7,B,b⟩ h l9 r1 m0 m1
   refine seqQ fun r2 m2 m3=>sR fun _ m4=>Ym (iV k) (eh B) (Ym (iV (m.length:Int)) (eh J) (yY (ylss e0 e0) (wK m4 ?_)))
   refine cIf e0 h (fun m5 h=>?_) fun m5 h=>?_
   ·refine wp_skip (m2 _ _ (sQ fun _ m6=>blockQ fun m7 m8=>sR fun _ m9=>Ym r.v (eh a6) (Ym (iV k) (eh B) (bE h fun r3 d6 h=>yY (yIa SL_93 e0 e0 b rO3 d6) (yY (yB O_4 e0 b rO3 d6) (wK m9 ?_))))))
    have d7:∀ (a8:List Bool) (a9:LI) (b0:Hdr) (f:FV) w,f 1=(pB q)→f 3=iV (m.length:Int)→f 4=g.v→f 5=j.v→f 6=iV i→f 8=r.v→f 11=b0.v→f 12=iV k→St w0 ros (box q 26 [p.v]::row 4 rB g.v a8::row 22 S1 j.v x::row 4 rB r.v E::row 3 I1 b0.v a9::rs) w→sparseref12_Components_j75 k a8 a9=some l8→m7 .normal (fr 80 f) w:=by
     intro a8 a9 b0 f w n0 n1 n2 n3 n4 n5 n6 n7 b d
     refine m8 _ _ _ (m6 _ _ (wR (Ym (iV k) (eh n7) (yY (yadd e0 rfl) (Ya (iV (wa .i64 k 1)) e0 (wN ?_))))))
     cases d
     exact m0 _ _ _ rfl ⟨_,_,_,_,_,rfl,rfl,n0,n1,n2,n3,n4,n5,n6,rfl,b⟩
    refine cB e0 h (fun n8 h=>?_) fun n8 h=>?_
    ·refine sR fun _ n9=>Ym A.v (eh a7) (Ym (iV k) (eh B) (yH (rLt (n:=1) (l:=[k]) b SL_22 [iV k] (bp1 e0) rfl rfl (mks1 (cs:=[iV k]) rfl mkI mks0)) fun r5 w b=>bE h fun r6 o0 h=>yH (rAp (b.pk 6 [5,0,0,0,0,0] rfl) SL_22 e0 e0 rO1 o0) fun o1 w b=>Ya o1.v e0 (wK n9 (wR (Ym g.v (eh K) ?_)))))
     exact Ym (iV k) (eh B) (bE h fun r7 d8 h=>yY (yIs SL_93 e0 e0 b rO3 d8) (yT (r_sti (cs:=[.bool true]) (b.pk 4 [3,0,0,0] rfl) O_4 rfl e0 rfl rfl mkB d8) fun w b=>wN (d7 _ _ _ _ _ a3 J K a4 a5 a6 rfl B (b.pk 6 [3,0,2,2,0] rfl) h)))
    exact wp_skip (d7 _ _ _ _ _ a3 J K a4 a5 a6 a7 B b h)
   refine wp_exit (m3 _ _ _ rfl ?_)
   cases h
   refine m1 _ _ _ _ rfl rfl ?_
   obtain rfl:=l9 _ rfl
   exact l6 _ _ _ (l4 _ _ (wR (Ym j.v (eh a4) (Ym A.v (eh a7) (yH (rLt (n:=1) (l:=[I]) ((b.pk 5 [4,0,0,0,0] rfl).fz) SL_24 [A.v] (bp1 e0) rfl rfl (mks1 (cs:=[A.v]) rfl (mkS F0) mks0)) fun r8 w b=>bE c fun r9 o2 c=>yH (rAp (b.pk 4 [3,0,0,0] rfl) SL_24 e0 e0 rO1 o2) fun o3 w b=>Ya o3.v e0 (wN (b5 _ _ _ (b4 _ _ _ _ _ a3 J K rfl a5 ((b.pk 5 [2,2,0] rfl).facts (allT allI)) c))))))))
  refine wp_exit (f8 _ _ _ rfl ?_)
  cases c
  refine f6 _ _ _ _ rfl rfl ?_
  obtain rfl:=f4 _ rfl
  refine f1 _ _ _ (e9 _ _ (sR fun _ o4=>Ym j.v (eh S) (Ya j.v e0 (wK o4 (wp_ret ?_)))))
  cases d
  exact b2 _ _ _ (fin1r Tryz.results77 ⟨rfl,rfl⟩ ⟨_,rfl,(b.pk 3 [2] rfl)⟩)
 refine condT e0 (nT (dF N)) (sR fun _ o5=>Ya hnil.v rfl (wK o5 (wp_ret (e2 _ _ _ rfl ?_))))
 cases d
 replace b:=b.rowNh 22 S1
 exact b2 _ _ _ (fin1r Tryz.results77 ⟨rfl,rfl⟩ ⟨_,rfl,(b.pk 2 [0] rfl)⟩)
end Go.Proofs.YthpeajepbffinaaGreat
