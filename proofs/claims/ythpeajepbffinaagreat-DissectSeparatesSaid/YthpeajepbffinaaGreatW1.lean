/- Walks: each function computes its model, printed. -/
import Derived.Test.YthpeajepbffinaaGreatW0
namespace Go.Proofs.YthpeajepbffinaaGreat
open Go Sx M
set_option maxRecDepth 100000
set_option maxHeartbeats 40000000
set_option linter.unusedVariables false
attribute [local irreducible] wpList Code.wp Calls DR QR QS LA LS St
variable {w0:World} {ros:List Fact} {rs:List Res} {w:World}
theorem slices_Grow_int_ok {c:Int} {out:LI} (a:slices_Grow_int c=some out) (b:St w0 ros rs w):
  Calls Tryz.prog 119 #[hnil.v,iV c] w (fun e w=>∃ (i:Hdr),e=.returned (i.v)∧St w0 ros (row 3 I1 i.v out::rs) w):=by
 refine enterQ Tryz.func119 rfl Tryz.ntmps119 rfl fun Q l=>sR fun _ k1=>Ya hnil.v rfl (wK k1 (sQ fun m n=>sR fun _ o=>Ym (iV c) e0 (yY (ylss e0 rfl) (wK o ?_))))
 have p:∀ (f:FV) w,f 0=hnil.v→f 1=iV c→St w0 ros rs w→slices_Grow_int_j1 c=some out→m .normal (fr 27 f) w:=by
  intro f w d q b a
  refine n _ _ (sQ fun r s=>sR fun _ t=>Ym (iV c) (eh q) (Ym hnil.v (eh d) (yY (yCapN (by kernel_rfl:Tryz.prog.underlying 22=some (.slice 3)) e0) (Ym hnil.v (eh d) (yY (yLen SL_22 e0 b rdN) (yY (ysub e0 e0) (yY (ysub e0 e0) (Ya (iV (ws .i64 c (ws .i64 0 0))) e0 (wK t ?_)))))))))
  refine sR fun _ u=>Ym (iV (ws .i64 c (ws .i64 0 0))) e0 (yY (ygtr e0 rfl) (wK u ?_))
  have j:∀ (h:LI) (g:Hdr) (f:FV) w,f 0=g.v→St w0 ros (row 3 I1 g.v h::rs) w→slices_Grow_int_j2 h=some out→r .normal (fr 27 f) w:=by
   intro h g f w x b a
   refine s _ _ (sR fun _ y=>Ym g.v (eh x) (Ya g.v e0 (wK y (wp_ret ?_))))
   cases a
   exact l _ _ _ (fin1r Tryz.results119 ⟨rfl,rfl⟩ ⟨_,rfl,b⟩)
  refine cIf e0 a (fun z a=>?_) fun z a=>?_
  ·refine wR (Ym hnil.v (eh d) (Ym hnil.v (eh d) (yY (yCapN (by kernel_rfl:Tryz.prog.underlying 22=some (.slice 3)) e0) (yY (ySlN SL_22 e0 e0) (Ym (iV (ws .i64 c (ws .i64 0 0))) e0 (bE a fun D A a=>yH (rZn b SL_22 (by kernel_rfl:Tryz.prog.underlying 3=some (.int .i64)) e0 e0 A) fun E w b=>Ym hnil.v (eh d) (yY (yLen SL_22 e0 b rdN) (bE a fun F k a=>yY (ySl (k1:=.i64) (hi:=(0:Int)) SL_22 e0 b rO0 (.inr ⟨rfl,rfl⟩) (.inl (congrArg some e0)) k) ?_))))))))
   obtain ⟨B,eh12,b⟩:=b.resl k
   rw [← eh12]
   exact Ya B.v e0 (wN (j _ _ _ _ rfl b a))
  refine wp_skip ?_
  replace b:=b.rowNh 3 I1
  exact j _ _ _ _ d b a
 refine cIf e0 a (fun C a=>?_) fun C a=>?_
 ·cases a
 exact wp_skip (p _ _ rfl rfl b a)
theorem slices_Concat_int_ok {m:L2} {d:Hdr} {out:LI} (g:slices_Concat_int m=some out) (j:imm S1 d.v m∈ros) (b:St w0 ros rs w):
  Calls Tryz.prog 98 #[d.v] w (fun e w=>∃ (t:Hdr),e=.returned (t.v)∧St w0 ros (row 3 I1 t.v out::rs) w):=by
 refine enterQ Tryz.func98 rfl Tryz.ntmps98 rfl fun Q H=>sR fun _ I=>Ya hnil.v rfl (wK I (sR fun _ J=>Ya (iV 0) rfl (wK J (sQ fun _ K=>sR fun _ L=>?_))))
 refine Ym d.v e0 (yY (yLen SL_24 e0 b (rdI j)) (Ym (iV 0) rfl (wK L (blockQ fun _ N=>bE g fun d4 O g=>?_))))
 refine loopQ (fun s a w=>∃ (h k:Int) (f:FV),(h,k)=s∧a=fr 36 f∧f 0=d.v∧f 3=iV h∧f 9=d.v∧f 10=iV (m.length:Int)∧f 11=iV k∧St w0 ros rs w) O ⟨_,_,_,rfl,rfl,rfl,rfl,rfl,rfl,rfl,b⟩ ?_
 rintro _ _ w R ⟨h,k,f,rfl,rfl,u,x,y,z,p,b⟩ c S d5 T U
 refine sR fun _ V=>yY (ylss (eh p) (eh z)) (wK V (seqQ fun d6 W X=>?_))
 refine cIf e0 c (fun Z c=>?_) fun Z c=>?_
 ·refine wp_skip (W _ _ (sQ fun _ a0=>blockQ fun a1 a3=>sR fun _ a4=>bE c fun n A c=>yY (yIa SL_24 (eh y) (eh p) b (rdI j) A) ?_))
  obtain ⟨B,b⟩:=iLs b j A
  refine yY (yCt O_22 e0 b F1 rfl) (Ya B.v e0 (wK a4 (sR fun _ a5=>Ym (iV h) (eh x) (Ym B.v e0 (yY (yLen SL_22 e0 b (rdI F0)) (yY (yadd e0 e0) (Ya (iV (wa .i64 h (n.length:Int))) e0 (wK a5 (sQ fun _ a6=>?_)))))))))
  refine wR (Ym (iV (wa .i64 h (n.length:Int))) e0 (yY (ylss e0 rfl) (wK a6 ?_)))
  have a7:∀ (f:FV) w,f 0=d.v→f 3=iV (wa .i64 h (n.length:Int))→f 9=d.v→f 10=iV (m.length:Int)→f 11=iV k→St w0 ros rs w→slices_Concat_int_j5 h n k=some R→a1 .normal (fr 36 f) w:=by
   intro f w a8 a9 b0 b1 b2 b g
   refine a3 _ _ _ (a0 _ _ (wR (yY (yadd (eh b2) rfl) (Ym (iV (wa .i64 k 1)) e0 (wN ?_)))))
   cases g
   exact T _ _ _ rfl ⟨_,_,_,rfl,rfl,a8,a9,b0,b1,rfl,b⟩
  refine cIf e0 c (fun b3 c=>?_) fun b3 c=>?_
  ·cases c
  exact wp_skip (a7 _ _ u rfl y z p (b.facts (allT (allT allI))) c)
 refine wp_exit (X _ _ _ rfl ?_)
 cases c
 refine U _ _ _ _ rfl rfl ?_
 obtain rfl:=S _ rfl
 refine N _ _ _ (K _ _ (sR fun _ b4=>Ym (iV h) (eh x) (bE g fun d7 b5 g=>yC (yCall FN_119 (a2 rfl e0)) (slices_Grow_int_ok b5 b) ?_)))
 rintro _ w ⟨b6,rfl,b⟩
 refine ⟨_,rfl,?_⟩
 refine Ya b6.v e0 (wK b4 (sQ fun _ b7=>sR fun _ b8=>Ym d.v (eh u) (yY (yLen SL_24 e0 b (rdI j)) (Ym (iV 0) rfl (wK b8 (blockQ fun _ b9=>bE g fun d8 c0 g=>?_))))))
 refine loopQ (fun s a w=>∃ (q:LI) (o:Int) (f:FV) (l:Hdr),(q,o)=s∧a=fr 36 f∧f 6=l.v∧f 25=d.v∧f 26=iV (m.length:Int)∧f 27=iV o∧St w0 ros (row 3 I1 l.v q::rs) w) c0 ⟨_,_,_,_,rfl,rfl,rfl,rfl,rfl,rfl,b⟩ ?_
 rintro _ _ w d9 ⟨q,o,f,l,rfl,rfl,C,D,E,r,b⟩ i c1 e1 c2 c3
 refine sR fun _ c4=>yY (ylss (eh r) (eh E)) (wK c4 (seqQ fun e2 c5 c6=>?_))
 refine cIf e0 i (fun c7 i=>?_) fun c7 i=>?_
 ·refine wp_skip (c5 _ _ (sQ fun _ c8=>blockQ fun _ c9=>sR fun _ d0=>bE i fun e3 F i=>yY (yIa SL_24 (eh D) (eh r) b (rdI j) F) ?_))
  obtain ⟨G,b⟩:=iLs b j F
  refine yY (yCt O_22 e0 b F1 rfl) (Ya G.v e0 (wK d0 (wR (Ym l.v (eh C) (Ym G.v e0 (bE i fun e4 d1 i=>yH (rAp b SL_22 e0 e0 (rdI F0) d1) fun d2 w b=>Ya d2.v e0 (wN (c9 _ _ _ (c8 _ _ ?_)))))))))
  refine wR (yY (yadd (eh r) rfl) (Ym (iV (wa .i64 o 1)) e0 (wN ?_)))
  cases i
  exact c2 _ _ _ rfl ⟨_,_,_,_,rfl,rfl,rfl,D,E,rfl,(b.facts (allT (allT allI)))⟩
 refine wp_exit (c6 _ _ _ rfl ?_)
 cases i
 refine c3 _ _ _ _ rfl rfl ?_
 obtain rfl:=c1 _ rfl
 refine b9 _ _ _ (b7 _ _ (sR fun _ d3=>Ym l.v (eh C) (Ya l.v e0 (wK d3 (wp_ret ?_)))))
 cases g
 exact H _ _ _ (fin1r Tryz.results98 ⟨rfl,rfl⟩ ⟨_,rfl,b⟩)
theorem graph_Components_ok {p:L2} {h:Hdr} {out:L2} (d:graph_Components p=some out) (q:imm S1 h.v p∈ros) (b:St w0 ros rs w):
  Calls Tryz.prog 97 #[.agg #[h.v]] w (fun e w=>∃ (K:Hdr),e=.returned (K.v)∧St w0 ros (row 22 S1 K.v out::rs) w):=by
 refine enterQ Tryz.func97 rfl Tryz.ntmps97 rfl fun Q L=>sR fun _ a5=>yBb (r_box (vals:=[h.v]) b e0 rfl) fun o w b=>Ya hnil.v rfl (wK a5 (seqQ fun g3 a6 a7=>sR fun _ a8=>yY (lbs_ [h.v] ST_26 e0 b R0) (bE d fun g4 a9 d=>yC (yCall FN_51 (a1 e0)) (graph_Check_ok a9 q b) ?_)))
 rintro _ w ⟨rfl,b⟩
 refine ⟨_,rfl,?_⟩
 refine yY (yneq e0 rfl) (wK a8 ?_)
 rcases iteS d with ⟨x,d⟩ | ⟨x,d⟩
 ·refine condF e0 (nF (dT x)) (wp_skip (a6 _ _ (sR fun _ b0=>yY (yFb FL_26_0 e0) (yY (lb_ h.v O_24 e0 b R0) (yY (yLen SL_24 e0 b (rdI q)) (bE d fun g5 b1 d=>yH (rMk b SL_93 e0 b1) fun i w b=>Ya i.v e0 (wK b0 ?_)))))))
  refine sR fun _ b2=>Ya hnil.v rfl (wK b2 (sQ fun _ b4=>sR fun _ b5=>yY (yFb FL_26_0 e0) (yY (lb_ h.v O_24 e0 b R1) (yY (yLen SL_24 e0 b (rdI q)) (Ym (iV 0) rfl (wK b5 ?_))))))
  refine blockQ fun _ b6=>bE d fun g6 b7 d=>?_
  replace b:=b.rowNh 22 S1
  refine loopQ (fun s a w=>∃ (y:List Bool) (r:L2) (g:Int) (f:FV) (m:Hdr),(y,r,g)=s∧a=fr 48 f∧f 1=(pB o)∧f 3=i.v∧f 4=m.v∧f 18=iV (p.length:Int)∧f 19=iV g∧St w0 ros (box o 26 [h.v]::row 4 rB i.v y::row 22 S1 m.v r::rs) w) b7 ⟨_,_,_,_,_,rfl,rfl,rfl,rfl,rfl,rfl,rfl,(b.pk 3 [2,1,0] rfl)⟩ ?_
  rintro _ _ w b8 ⟨y,r,g,f,m,rfl,rfl,z,A,B,C,t,b⟩ c b9 g7 c0 c1
  refine sR fun _ c2=>yY (ylss (eh t) (eh C)) (wK c2 (seqQ fun g8 c3 c4=>?_))
  refine cIf e0 c (fun c6 c=>?_) fun c6 c=>?_
  ·refine wp_skip (c3 _ _ (sQ fun c7 c8=>?_))
   have N:∀ (D:List Bool) (E:L2) (F:Hdr) (f:FV) w,f 1=(pB o)→f 3=i.v→f 4=F.v→f 18=iV (p.length:Int)→f 19=iV g→St w0 ros (box o 26 [h.v]::row 4 rB i.v D::row 22 S1 F.v E::rs) w→graph_Components_j12 g D E=some b8→c7 .normal (fr 48 f) w:=by
    intro D E F f w c9 d0 d1 d2 d3 b d
    refine c8 _ _ (wR (yY (yadd (eh d3) rfl) (Ym (iV (wa .i64 g 1)) e0 (wN ?_))))
    cases d
    exact c0 _ _ _ rfl ⟨_,_,_,_,_,rfl,rfl,c9,d0,d1,d2,rfl,b⟩
   refine blockQ fun _ O=>sR fun _ d4=>Ym (iV g) (eh t) (Ya (iV g) e0 (wK d4 (seqQ fun g9 d5 d6=>sR fun _ d7=>Ym i.v (eh A) (Ym (iV g) e0 (bE c fun h0 R c=>yY (yIa SL_93 e0 e0 b rO1 R) ?_)))))
   refine yY (yB O_4 e0 b rO1 R) (wK d7 (cB e0 c (fun d8 c=>?_) fun d8 c=>?_))
   ·exact wp_exit (d6 _ _ _ rfl (O _ _ _ (N _ _ _ _ _ z A B C t b c)))
   refine wp_skip (d5 _ _ (sR fun _ d9=>yY (lbs_ [h.v] ST_26 (eh z) b R0) (Ym (iV g) e0 (bE c fun h1 e1 c=>yC (yCall FN_117 (a2 e0 e0)) (graph_levels_ok e1 q b) ?_))))
   rintro _ w ⟨h3,rfl,b⟩
   refine ⟨_,rfl,?_⟩
   refine bE c fun h4 e2 c=>?_
   replace b:=b.fz
   refine yC (yCall FN_98 (a1 e0)) (slices_Concat_int_ok e2 F0 b) ?_
   rintro _ w ⟨j,rfl,b⟩
   refine ⟨_,rfl,?_⟩
   refine Ya j.v e0 (wK d9 (sR fun _ e3=>Ym j.v e0 (bE c fun G e4 c=>yC (yCall FN_118 (a1 e0)) (sortI_ok e4 b) ?_)))
   rintro _ w ⟨rfl,b⟩
   refine ⟨_,rfl,?_⟩
   refine wK e3 (sQ fun _ e5=>sR fun _ e6=>Ym j.v e0 (yY (yLen SL_22 e0 b rO0) (Ym (iV 0) rfl (wK e6 (blockQ fun _ e7=>bE c fun h5 e8 c=>?_)))))
   refine loopQ (fun s a w=>∃ (H:List Bool) (u:Int) (f:FV),(H,u)=s∧a=fr 48 f∧f 1=(pB o)∧f 3=i.v∧f 4=m.v∧f 6=j.v∧f 18=iV (p.length:Int)∧f 19=iV g∧f 32=j.v∧f 33=iV (G.length:Int)∧f 34=iV u∧St w0 ros (box o 26 [h.v]::row 4 rB i.v H::row 22 S1 m.v r::row 3 I1 j.v G::rs) w) e8 ⟨_,_,_,rfl,rfl,z,A,B,rfl,C,t,rfl,rfl,rfl,((b.pk 4 [1,1,1,0] rfl).facts (allT allI))⟩ ?_
   rintro _ _ w h7 ⟨H,u,f,rfl,rfl,S,I,T,U,V,W,X,Z,J,b⟩ k e9 h8 f0 f1
   refine sR fun _ f2=>yY (ylss (eh J) (eh Z)) (wK f2 (seqQ fun h9 f3 f4=>?_))
   refine cIf e0 k (fun f5 k=>?_) fun f5 k=>?_
   ·refine wp_skip (f3 _ _ (sQ fun _ f6=>blockQ fun _ f7=>sR fun _ f8=>bE k fun a0 a3 k=>yY (yIa SL_22 (eh X) (eh J) b rO3 a3) (yY (yI O_3 e0 b rO3 a3) (Ya (iV a0) e0 (wK f8 (wR (Ym i.v (eh I) ?_)))))))
    refine Ym (iV a0) e0 (bE k fun i0 a4 k=>yY (yIs SL_93 e0 e0 b rO1 a4) (yT (r_sti (cs:=[.bool true]) (b.pk 2 [1,0] rfl) O_4 rfl e0 rfl rfl mkB a4) fun w b=>wN (f7 _ _ _ (f6 _ _ (wR (yY (yadd (eh J) rfl) (Ym (iV (wa .i64 u 1)) e0 (wN ?_))))))))
    cases k
    exact f0 _ _ _ rfl ⟨_,_,_,rfl,rfl,S,I,T,U,V,W,X,Z,rfl,(b.pk 4 [1,0,0,0] rfl)⟩
   refine wp_exit (f4 _ _ _ rfl ?_)
   cases k
   refine f1 _ _ _ _ rfl rfl ?_
   obtain rfl:=e9 _ rfl
   exact e7 _ _ _ (e5 _ _ (wR (Ym m.v (eh T) (Ym j.v (eh U) (yH (rLt (n:=1) (l:=[G]) ((b.pk 4 [3,0,0,0] rfl).fz) SL_24 [j.v] (bp1 e0) rfl rfl (mks1 (cs:=[j.v]) rfl (mkS F0) mks0)) fun i1 w b=>bE c fun i2 f9 c=>yH (rAp (b.pk 4 [3,0,0,0] rfl) SL_24 e0 e0 rO1 f9) fun g0 w b=>Ya g0.v e0 (wN (O _ _ _ (N _ _ _ _ _ S I rfl V W ((b.pk 4 [2,2,0] rfl).facts (allT allI)) c))))))))
  refine wp_exit (c4 _ _ _ rfl ?_)
  cases c
  refine c1 _ _ _ _ rfl rfl ?_
  obtain rfl:=b9 _ rfl
  refine b6 _ _ _ (b4 _ _ (sR fun _ g1=>Ym m.v (eh B) (Ya m.v e0 (wK g1 (wp_ret ?_)))))
  cases d
  exact L _ _ _ (fin1r Tryz.results97 ⟨rfl,rfl⟩ ⟨_,rfl,(b.pk 3 [2] rfl)⟩)
 refine condT e0 (nT (dF x)) (sR fun _ g2=>Ya hnil.v rfl (wK g2 (wp_ret (a7 _ _ _ rfl ?_))))
 cases d
 replace b:=b.rowNh 22 S1
 exact L _ _ _ (fin1r Tryz.results97 ⟨rfl,rfl⟩ ⟨_,rfl,(b.pk 2 [0] rfl)⟩)
theorem graph_vertex_ok {d:L2} {b:Int} {g:Hdr} {out:Bool} (i:graph_vertex d b=some out) (j:imm S1 g.v d∈ros) (c:St w0 ros rs w):
  Calls Tryz.prog 112 #[.agg #[g.v],iV b] w (fun e w=>e=.returned (.bool out)∧St w0 ros rs w):=by
 refine enterQ Tryz.func112 rfl Tryz.ntmps112 rfl fun Q k=>sR fun _ l=>yBb (r_box (vals:=[g.v]) c e0 rfl) fun o w c=>Ya (.bool false) rfl (wK l (sR fun _ m=>Ym (iV b) e0 (yY (ygeq e0 rfl) (Ym (.bool (decide ((0:Int)≤b))) e0 ?_))))
 refine joinW 6 (fun f w=>f 13=.bool ((decide ((0:Int)≤b)) && (decide (b < (d.length:Int))))∧St w0 ros rs w) (fun h=>?_) ?_
 ·rcases Bool.eq_false_or_eq_true (decide ((0:Int)≤b)) with a | a
  ·exact yG a (m_ (iV b) e0) (yG a (yFb FL_26_0 e0) (yG a (lb_ g.v O_24 e0 c R0) (yG a (yLen SL_24 e0 c (rdI j)) (yG a (ylss e0 e0) (yY (pt_ (.bool (decide (b < (d.length:Int)))) e0 a e0) (h _ _ ⟨(congrArg Value.bool (andT a)),(c.pk 1 [] rfl)⟩))))))
  exact gN a (gN a (gN a (gN a (gN a (yY (pf_ (.bool false) e0 a rfl) (h _ _ ⟨(congrArg Value.bool (andF a)),(c.pk 1 [] rfl)⟩))))))
 rintro f w ⟨n,c⟩
 refine Ya (.bool ((decide ((0:Int)≤b)) && (decide (b < (d.length:Int))))) (eh n) (wK m (wp_ret ?_))
 cases i
 exact k _ _ _ (fin1r Tryz.results112 ⟨rfl,rfl⟩ ⟨rfl,c⟩)
theorem graph_Peripheral_ok {I:L2} {t:Int} {g:Hdr} {out:Int} (c:graph_Peripheral I t=some out) (k:imm S1 g.v I∈ros) (b:St w0 ros rs w):
  Calls Tryz.prog 100 #[.agg #[g.v],iV t] w (fun e w=>e=.returned (iV out)∧St w0 ros rs w):=by
 refine enterQ Tryz.func100 rfl Tryz.ntmps100 rfl fun Q J=>sR fun _ X=>yBb (r_box (vals:=[g.v]) b e0 rfl) fun l w b=>Ya (iV 0) rfl (wK X (seqQ fun g1 Z a0=>sR fun _ a3=>yY (lbs_ [g.v] ST_26 e0 b R0) (bE c fun a4 a5 c=>yC (yCall FN_51 (a1 e0)) (graph_Check_ok a5 k b) ?_)))
 rintro _ w ⟨rfl,b⟩
 refine ⟨_,rfl,?_⟩
 refine yY (yneq e0 rfl) (Ym (.bool (!(decide (a4=0)))) e0 (bE c fun a6 m c=>?_))
 refine joinW 5 (fun f w=>f 1=iV t∧f 2=(pB l)∧f 19=.bool a6∧St w0 ros (box l 26 [g.v]::rs) w) (fun K=>?_) ?_
 ·rcases iteS m with ⟨i,m⟩ | ⟨i,m⟩
  ·refine yG (nF (dT i)) (lbs_ [g.v] ST_26 e0 b R0) (yG (nF (dT i)) (m_ (iV t) e0) (bE m fun a7 a8 m=>Yc (wG (nF (dT i))) rfl (yCall FN_112 (a2 e0 e0)) (graph_vertex_ok a8 k b) ?_))
   rintro _ w ⟨rfl,b⟩
   refine ⟨_,rfl,?_⟩
   refine yG (nF (dT i)) (ynot e0) (yY (pf_ (.bool (!a7)) e0 (nF (dT i)) e0) ?_)
   cases m
   exact K _ _ ⟨rfl,rfl,rfl,b⟩
  refine gN (nT (dF i)) (gN (nT (dF i)) (gN (nT (dF i)) (gN (nT (dF i)) (yY (pt_ (.bool true) e0 (nT (dF i)) rfl) ?_))))
  cases m
  exact K _ _ ⟨rfl,rfl,rfl,b⟩
 rintro f w ⟨L,N,a9,b⟩
 refine wK a3 (cB (eh a9) c (fun b0 c=>?_) fun b0 c=>?_)
 ·refine sR fun _ b1=>Ya (iV (-1)) rfl (wK b1 (wp_ret (a0 _ _ _ rfl ?_)))
  cases c
  exact J _ _ _ (fin1r Tryz.results100 ⟨rfl,rfl⟩ ⟨rfl,(b.pk 1 [] rfl)⟩)
 refine wp_skip (Z _ _ (sR fun _ b2=>yY (lbs_ [g.v] ST_26 (eh N) b R0) (Ym (iV t) (eh L) (bE c fun g2 b3 c=>yC (yCall FN_117 (a2 e0 e0)) (graph_levels_ok b3 k b) ?_))))
 rintro _ w ⟨b5,rfl,b⟩
 refine ⟨_,rfl,?_⟩
 refine Ya b5.v e0 (wK b2 (blockQ fun _ b6=>bE c fun g3 b7 c=>?_))
 refine loopQ (fun s a w=>∃ (n:Int) (u:L2) (f:FV) (j:Hdr),(n,u)=s∧a=fr 64 f∧f 1=iV n∧f 2=(pB l)∧f 5=j.v∧St w0 ros (box l 26 [g.v]::row 22 S1 j.v u::rs) w) b7 ⟨_,_,_,_,rfl,rfl,L,N,rfl,(b.pk 2 [1,0] rfl)⟩ ?_
 rintro _ _ w g4 ⟨n,u,f,j,rfl,rfl,b8,b9,C,b⟩ h c0 g5 c1 c2
 refine blockQ fun _ O=>sR fun _ c3=>Ym j.v (eh C) (Ym j.v (eh C) (yY (yLen SL_24 e0 b rO1) (yY (ysub e0 rfl) (bE h fun x R h=>yY (yIa SL_24 e0 e0 b rO1 R) ?_))))
 obtain ⟨o,c4,b⟩:=rLs b rO1 R
 refine yY (yCe O_22 e0 c4 rfl) (Ya o.v e0 (wK c3 (sR fun _ c5=>Ym o.v e0 (bE h fun c6 S h=>yY (yIa SL_22 e0 rfl b (rdI F0) S) (yY (yI O_3 e0 b (rdI F0) S) (Ya (iV c6) e0 (wK c5 (sQ fun _ c7=>?_))))))))
 refine sR fun _ c8=>Ym o.v e0 (yY (yLen SL_22 e0 b (rdI F0)) (Ym (iV 0) rfl (wK c8 (blockQ fun _ d0=>bE h fun g6 d1 h=>?_))))
 refine loopQ (fun s a w=>∃ (p q:Int) (f:FV),(p,q)=s∧a=fr 64 f∧f 1=iV n∧f 2=(pB l)∧f 5=j.v∧f 7=iV p∧f 32=o.v∧f 33=iV (x.length:Int)∧f 34=iV q∧St w0 (imm I1 o.v x::ros) (box l 26 [g.v]::row 22 S1 j.v u::rs) w) d1 ⟨_,_,_,rfl,rfl,b8,b9,C,rfl,rfl,rfl,rfl,b⟩ ?_
 rintro _ _ w d2 ⟨p,q,f,rfl,rfl,D,r,E,y,F,G,z,b⟩ d d3 g7 d4 d5
 refine sR fun _ d6=>yY (ylss (eh z) (eh G)) (wK d6 (seqQ fun g8 d7 d8=>?_))
 refine cIf e0 d (fun d9 d=>?_) fun d9 d=>?_
 ·refine wp_skip (d7 _ _ (sQ fun _ e1=>blockQ fun e2 e3=>sR fun _ e4=>bE d fun A T d=>yY (yIa SL_22 (eh F) (eh z) b (rdI F0) T) (yY (yI O_3 e0 b (rdI F0) T) (Ya (iV A) e0 (wK e4 (sQ fun _ e5=>bE d fun g9 U d=>?_))))))
  refine bE d fun h0 V d=>dR [0,1,0,7,15,31,0,64,0,448,960,1984,4095] [] 0 folM ?_
  replace b:=b.drew
  refine Dz [0,1,2,3,4,5,6,7,8,9,10,11,12] [] (yR rfl (yFb FL_26_0 (eh r)) (yR rfl (lb_ g.v O_24 e0 b R0) (yR rfl (m_ (iV A) e0) (yR rfl (yIa SL_24 e0 e0 b (rdI (mtF k)) U) ?_))))
  obtain ⟨h1,b⟩:=iLs b (mtF k) U
  refine yR rfl (yCt O_22 e0 b F1 rfl) (yR rfl (yLen SL_22 e0 b (rdI F0)) (yR rfl (yFb FL_26_0 (eh r)) (yR rfl (lb_ g.v O_24 e0 b R0) (yR rfl (m_ (iV p) (eh y)) (yR rfl (yIa SL_24 e0 e0 b (rdI (F_3 k)) V) ?_)))))
  obtain ⟨h3,b⟩:=iLs b (F_3 k) V
  refine yR rfl (yCt O_22 e0 b F1 rfl) (yR rfl (yLen SL_22 e0 b (rdI F0)) (yR rfl (ylss e0 e0) (Rn QSn (e5 _ _ ?_))))
  have W:∀ (H:Int) (f:FV) w,f 1=iV n→f 2=(pB l)→f 5=j.v→f 7=iV H→f 32=o.v→f 33=iV (x.length:Int)→f 34=iV q→St w0 (imm I1 o.v x::ros) (box l 26 [g.v]::row 22 S1 j.v u::rs) w→graph_Peripheral_j14 q H=some d2→e2 .normal (fr 64 f) w:=by
   intro H f w e6 e7 e8 e9 f0 f1 f2 b c
   refine e3 _ _ _ (e1 _ _ (wR (yY (yadd (eh f2) rfl) (Ym (iV (wa .i64 q 1)) e0 (wN ?_)))))
   cases c
   exact d4 _ _ _ rfl ⟨_,_,_,rfl,rfl,e6,e7,e8,e9,f0,f1,rfl,b⟩
  refine cIf e0 d (fun f3 d=>?_) fun f3 d=>?_
  ·exact wR (Ym (iV A) e0 (Ya (iV A) e0 (wN (W _ _ _ D r E rfl F G z (b.facts (allC F4 (allT (allT (allT (allT (allT allI))))))) d))))
  exact wp_skip (W _ _ _ D r E y F G z (b.facts (allC F4 (allT (allT (allT (allT (allT allI))))))) d)
 refine wp_exit (d8 _ _ _ rfl ?_)
 cases d
 refine d5 _ _ _ _ rfl rfl ?_
 obtain rfl:=d3 _ rfl
 refine d0 _ _ _ (c7 _ _ (sR fun _ f4=>yY (lbs_ [g.v] ST_26 (eh r) b R0) (Ym (iV p) (eh y) (bE h fun h4 f5 h=>yC (yCall FN_117 (a2 e0 e0)) (graph_levels_ok f5 (mtF k) b) ?_))))
 rintro _ w ⟨B,rfl,b⟩
 refine ⟨_,rfl,?_⟩
 refine Ya B.v e0 (wK f4 (seqQ fun h5 f6 f7=>sR fun _ f8=>Ym B.v e0 (yY (yLen SL_24 e0 b rO0) (Ym j.v (eh E) (yY (yLen SL_24 e0 b rO2) (yY (yleq e0 e0) (wK f8 ?_)))))))
 refine cIf e0 h (fun f9 h=>?_) fun f9 h=>?_
 ·refine sR fun _ g0=>Ym (iV n) (eh D) (Ya (iV n) e0 (wK g0 (wp_ret (f7 _ _ _ rfl (O _ _ _ ?_)))))
  cases h
  refine c2 _ _ _ _ rfl rfl ?_
  obtain rfl:=c0 _ rfl
  refine b6 _ _ _ ?_
  cases c
  exact J _ _ _ (fin1r Tryz.results100 ⟨rfl,rfl⟩ ⟨rfl,((b.pk 3 [] rfl).facts (allT allI))⟩)
 refine wp_skip (f6 _ _ (wR (Ym (iV p) (eh y) (Ym B.v e0 (Ya (iV p) e0 (Ya B.v e0 (wN (O _ _ _ ?_))))))))
 cases h
 exact c1 _ _ _ rfl ⟨_,_,_,_,rfl,rfl,rfl,r,rfl,((b.pk 3 [1,0] rfl).facts (allT allI))⟩
theorem graph_Levels_ok {j:L2} {h:Int} {d:Hdr} {out:L2} (b:graph_Levels j h=some out) (i:imm S1 d.v j∈ros) (a:St w0 ros rs w):
  Calls Tryz.prog 99 #[.agg #[d.v],iV h] w (fun e w=>∃ (k:Hdr),e=.returned (k.v)∧St w0 ros (row 22 S1 k.v out::rs) w):=by
 refine enterQ Tryz.func99 rfl Tryz.ntmps99 rfl fun Q l=>sR fun _ o=>yBb (r_box (vals:=[d.v]) a e0 rfl) fun m w a=>Ya hnil.v rfl (wK o (seqQ fun H p q=>sR fun _ r=>yY (lbs_ [d.v] ST_26 e0 a R0) (bE b fun s t b=>yC (yCall FN_51 (a1 e0)) (graph_Check_ok t i a) ?_)))
 rintro _ w ⟨rfl,a⟩
 refine ⟨_,rfl,?_⟩
 refine yY (yneq e0 rfl) (Ym (.bool (!(decide (s=0)))) e0 (bE b fun u g b=>?_))
 refine joinW 5 (fun f w=>f 1=iV h∧f 2=(pB m)∧f 13=.bool u∧St w0 ros (box m 26 [d.v]::rs) w) (fun n=>?_) ?_
 ·rcases iteS g with ⟨c,g⟩ | ⟨c,g⟩
  ·refine yG (nF (dT c)) (lbs_ [d.v] ST_26 e0 a R0) (yG (nF (dT c)) (m_ (iV h) e0) (bE g fun x y g=>Yc (wG (nF (dT c))) rfl (yCall FN_112 (a2 e0 e0)) (graph_vertex_ok y i a) ?_))
   rintro _ w ⟨rfl,a⟩
   refine ⟨_,rfl,?_⟩
   refine yG (nF (dT c)) (ynot e0) (yY (pf_ (.bool (!x)) e0 (nF (dT c)) e0) ?_)
   cases g
   exact n _ _ ⟨rfl,rfl,rfl,a⟩
  refine gN (nT (dF c)) (gN (nT (dF c)) (gN (nT (dF c)) (gN (nT (dF c)) (yY (pt_ (.bool true) e0 (nT (dF c)) rfl) ?_))))
  cases g
  exact n _ _ ⟨rfl,rfl,rfl,a⟩
 rintro f w ⟨z,A,B,a⟩
 refine wK r (cB (eh B) b (fun C b=>?_) fun C b=>?_)
 ·refine sR fun _ D=>Ya hnil.v rfl (wK D (wp_ret (q _ _ _ rfl ?_)))
  cases b
  replace a:=a.rowNh 22 S1
  exact l _ _ _ (fin1r Tryz.results99 ⟨rfl,rfl⟩ ⟨_,rfl,(a.pk 2 [0] rfl)⟩)
 refine wp_skip (p _ _ (sR fun _ E=>yY (lbs_ [d.v] ST_26 (eh A) a R0) (Ym (iV h) (eh z) (bE b fun I F b=>yC (yCall FN_117 (a2 e0 e0)) (graph_levels_ok F i a) ?_))))
 rintro _ w ⟨G,rfl,a⟩
 refine ⟨_,rfl,?_⟩
 refine Ya G.v e0 (wK E (wp_ret ?_))
 cases b
 exact l _ _ _ (fin1r Tryz.results99 ⟨rfl,rfl⟩ ⟨_,rfl,(a.pk 2 [0] rfl)⟩)
theorem dissect_grown_ok {K:L2} {L:LI} {N:L2} {i j m:Hdr} {out:LI} (g:dissect_grown K L N=some out) (A:imm S1 i.v K∈ros) (p:imm I1 j.v L∈ros) (g3:imm S1 m.v N∈ros) (b:St w0 ros rs w):
  Calls Tryz.prog 73 #[.agg #[i.v,j.v,m.v]] w (fun e w=>∃ (O:Hdr),e=.returned (O.v)∧St w0 ros (row 3 I1 O.v out::rs) w):=by
 refine enterQ Tryz.func73 rfl Tryz.ntmps73 rfl fun Q R=>sR fun _ c0=>yBb (r_box (vals:=[i.v,j.v,m.v]) b e0 rfl) fun q w b=>Ya hnil.v rfl (wK c0 (sR fun _ c1=>yH (rLt (n:=1) (l:=[1]) b SL_22 [iV 1] (bp1 rfl) rfl rfl (mks1 (cs:=[iV 1]) rfl mkI mks0)) fun g4 w b=>yY (yFb FL_28_1 e0) (yY (lb_ j.v O_22 e0 b R1) ?_)))
 refine yY (yLen SL_22 e0 b (rdI p)) (bE g fun g5 c2 g=>?_)
 replace b:=b.fz
 refine yC (yCall FN_72 (a2 e0 e0)) (slices_Repeat_int_ok c2 F0 b) ?_
 rintro _ w ⟨h,rfl,b⟩
 refine ⟨_,rfl,?_⟩
 refine Ya h.v e0 (wK c1 (sR fun _ c3=>yY (yFb FL_28_1 e0) (yY (lb_ j.v O_22 e0 b R1) (bE g fun r c4 g=>yC (yCall FN_96 (a1 e0)) (dissect_total_ok c4 (mtF p) b) ?_))))
 rintro _ w ⟨rfl,b⟩
 refine ⟨_,rfl,?_⟩
 refine Ya (iV r) e0 (Ya (iV 0) rfl (wK c3 (seqQ fun g6 c5 c6=>sR fun _ c7=>yY (yFb FL_28_0 e0) (yY (lbs_ [i.v] ST_26 e0 b R1) (bE g fun t c8 g=>yC (yCall FN_97 (a1 e0)) (graph_Components_ok c8 (mtF A) b) ?_)))))
 rintro _ w ⟨u,rfl,b⟩
 refine ⟨_,rfl,?_⟩
 refine yY (yLen SL_24 e0 b rO0) (Ym (iV 0) rfl (wK c7 (blockQ fun _ S=>bE g fun g7 c9 g=>?_)))
 refine loopQ (fun s a w=>∃ (B:LI) (C o:Int) (f:FV),(B,C,o)=s∧a=fr 59 f∧f 1=(pB q)∧f 3=h.v∧f 4=iV r∧f 5=iV C∧f 20=u.v∧f 21=iV (t.length:Int)∧f 22=iV o∧St w0 ros (box q 28 [i.v,j.v,m.v]::row 3 I1 h.v B::row 22 S1 u.v t::rs) w) c9 ⟨_,_,_,_,rfl,rfl,rfl,rfl,rfl,rfl,rfl,rfl,rfl,((b.pk 3 [2,1,0] rfl).facts (allT allI))⟩ ?_
 rintro _ _ w g8 ⟨B,C,o,f,rfl,rfl,x,T,d0,d1,U,V,D,b⟩ c W g9 d2 X
 refine sR fun _ d3=>yY (ylss (eh D) (eh V)) (wK d3 (seqQ fun h0 d4 d5=>?_))
 refine cIf e0 c (fun d6 c=>?_) fun d6 c=>?_
 ·refine wp_skip (d4 _ _ (seqQ fun h1 d7 d8=>blockQ fun _ Z=>sR fun _ d9=>bE c fun h3 a0 c=>yY (yIa SL_24 (eh U) (eh D) b rO2 a0) ?_))
  obtain ⟨a3,e1,b⟩:=rLs b rO2 a0
  refine yY (yCe O_22 e0 e1 rfl) (Ya a3.v e0 (wK d9 (sQ fun _ e2=>bE c fun h5 a4 c=>bE c fun h7 e3 c=>bE c fun h9 e4 c=>bE c fun a5 e5 c=>dR [0,1,0,4,0,16,48,124,255,511,1023,0] [7,8,9] 3 folM ?_)))
  replace b:=b.drew
  refine Dn [0,1,2,3,4,5,6,11] [] [7] (yR rfl (yFb FL_28_0 (eh x)) (yR rfl (lbs_ [i.v] ST_26 e0 b R0) (yR rfl (yFb FL_28_0 (eh x)) (yR rfl (lbs_ [i.v] ST_26 e0 b R0) (yR rfl (m_ a3.v e0) (yR rfl (yIa SL_22 e0 rfl b (rdI F0) a4) (yR rfl (yI O_3 e0 b (rdI F0) a4) (yR rfl (m_ (iV 0) rfl) (Rn QSn ?_)))))))))
  refine Lc1 rfl ?_
  refine Lk wn (yCall FN_100 (a2 e0 e0)) (graph_Peripheral_ok e3 (mtF A) b) ?_
  rintro _ w ⟨rfl,b⟩
  refine ⟨_,rfl,?_⟩
  refine Dn [] [0,1,11] [8] (Rn (yS rfl (yFb FL_28_0 (eh x)) (yS rfl (lbs_ [i.v] ST_26 e0 b R0) (yS rfl (m_ (iV 0) rfl) QSn))) ?_)
  refine Lc1 rfl ?_
  refine Lk wn (yCall FN_99 (a2 e0 e0)) (graph_Levels_ok e4 (mtF A) b) ?_
  rintro _ w ⟨i0,rfl,b⟩
  refine ⟨_,rfl,?_⟩
  refine Dn [] [11] [9] (Rn (yS rfl (m_ (iV 0) rfl) QSn) ?_)
  refine Lc1 rfl ?_
  replace b:=b.fz
  refine Lk wn (yCall FN_98 (a1 e0)) (slices_Concat_int_ok e5 F0 b) ?_
  rintro _ w ⟨a6,rfl,b⟩
  refine ⟨_,rfl,?_⟩
  refine Dz [10] [11] (yR rfl (yLen SL_22 e0 b rO0) (Rn (yS rfl (m_ (iV 0) rfl) QSn) (e2 _ _ (blockQ fun _ a7=>bE c fun i1 e6 c=>?_))))
  refine loopQ (fun s a w=>∃ (E:LI) (k y:Int) (f:FV),(E,k,y)=s∧a=fr 59 f∧f 1=(pB q)∧f 3=h.v∧f 4=iV r∧f 5=iV k∧f 20=u.v∧f 21=iV (t.length:Int)∧f 22=iV o∧f 35=a6.v∧f 36=iV (a5.length:Int)∧f 37=iV y∧St w0 ros (box q 28 [i.v,j.v,m.v]::row 3 I1 h.v E::row 22 S1 u.v t::row 3 I1 a6.v a5::rs) w) e6 ⟨_,_,_,_,rfl,rfl,x,T,d0,d1,U,V,D,rfl,rfl,rfl,((b.pk 4 [1,1,1,0] rfl).facts (allT (allT allI)))⟩ ?_
  rintro _ _ w i2 ⟨E,k,y,f,rfl,rfl,F,z,G,H,a8,a9,b0,b1,b2,I,b⟩ d b3 i3 e7 b4
  refine sR fun _ e8=>yY (ylss (eh I) (eh b2)) (wK e8 (seqQ fun i4 e9 f0=>?_))
  refine cIf e0 d (fun f1 d=>?_) fun f1 d=>?_
  ·refine wp_skip (e9 _ _ (seqQ fun i5 f2 f3=>blockQ fun _ b5=>sR fun _ f4=>bE d fun J b6 d=>yY (yIa SL_22 (eh b1) (eh I) b rO3 b6) (yY (yI O_3 e0 b rO3 b6) (Ya (iV J) e0 (wK f4 (seqQ fun i6 f5 f6=>sQ fun _ f7=>?_))))))
   refine wR (Ym (iV k) (eh H) (yY (ymul rfl e0) (Ym (iV r) (eh G) (yY (ygeq e0 e0) (wK f7 ?_)))))
   refine cIf e0 d (fun f8 d=>?_) fun f8 d=>?_
   ·refine sR fun _ f9=>Ym h.v (eh z) (Ya h.v e0 (wK f9 (wp_ret (f6 _ _ _ rfl (b5 _ _ _ (f3 _ _ _ rfl ?_))))))
    cases d
    refine b4 _ _ _ _ rfl rfl ?_
    obtain rfl:=b3 _ rfl
    refine a7 _ _ _ (Z _ _ _ (d8 _ _ _ rfl ?_))
    cases c
    refine X _ _ _ _ rfl rfl ?_
    obtain rfl:=W _ rfl
    refine S _ _ _ (c6 _ _ _ rfl ?_)
    cases g
    exact R _ _ _ (fin1r Tryz.results73 ⟨rfl,rfl⟩ ⟨_,rfl,(b.pk 4 [1] rfl)⟩)
   refine wp_skip (f5 _ _ (sR fun _ g0=>Ym h.v (eh z) (Ym (iV J) e0 (bE d fun i7 b8 d=>yY (yIs SL_22 e0 e0 b rO1 b8) (yT (r_sti (cs:=[iV 0]) (b.pk 2 [1,0] rfl) O_3 rfl e0 rfl rfl mkI b8) fun w b=>wK g0 (wR (Ym (iV k) (eh H) ?_)))))))
   refine yY (yFb FL_28_1 (eh F)) (yY (lb_ j.v O_22 e0 b R1) (Ym (iV J) e0 (bE d fun g1 b9 d=>yY (yIa SL_22 e0 e0 b (rdI p) b9) (yY (yI O_3 e0 b (rdI p) b9) (yY (yadd e0 e0) (Ya (iV (wa .i64 k g1)) e0 (wN (b5 _ _ _ (f2 _ _ (wR (yY (yadd (eh I) rfl) (Ym (iV (wa .i64 y 1)) e0 ?_))))))))))))
   refine wN ?_
   cases d
   exact e7 _ _ _ rfl ⟨_,_,_,_,rfl,rfl,F,z,G,rfl,a8,a9,b0,b1,b2,rfl,(b.pk 4 [1,0,0,0] rfl)⟩
  refine wp_exit (f0 _ _ _ rfl ?_)
  cases d
  refine b4 _ _ _ _ rfl rfl ?_
  obtain rfl:=b3 _ rfl
  refine a7 _ _ _ (Z _ _ _ (d7 _ _ (wR (yY (yadd (eh b0) rfl) (Ym (iV (wa .i64 o 1)) e0 (wN ?_))))))
  cases c
  exact d2 _ _ _ rfl ⟨_,_,_,_,rfl,rfl,F,z,G,H,a8,a9,rfl,(b.pk 4 [0,0,0] rfl)⟩
 refine wp_exit (d5 _ _ _ rfl ?_)
 cases c
 refine X _ _ _ _ rfl rfl ?_
 obtain rfl:=W _ rfl
 refine S _ _ _ (c5 _ _ (sR fun _ g2=>Ym h.v (eh T) (Ya h.v e0 (wK g2 (wp_ret ?_)))))
 cases g
 exact R _ _ _ (fin1r Tryz.results73 ⟨rfl,rfl⟩ ⟨_,rfl,(b.pk 3 [1] rfl)⟩)
theorem dissect_match_ok {u:L2} {a6:LI} {a7:L2} {j p m:Hdr} {out:LI} (q:dissect_match u a6 a7=some out) (O:imm S1 j.v u∈ros) (d1:imm I1 p.v a6∈ros) (C:imm S1 m.v a7∈ros) (b:St w0 ros rs w):
  Calls Tryz.prog 40 #[.agg #[j.v,p.v,m.v]] w (fun e w=>∃ (a8:Hdr),e=.returned (a8.v)∧St w0 ros (row 3 I1 a8.v out::rs) w):=by
 refine enterQ Tryz.func40 rfl Tryz.ntmps40 rfl fun Q d2=>sR fun _ d3=>yBb (r_box (vals:=[j.v,p.v,m.v]) b e0 rfl) fun o w b=>Ya hnil.v rfl (wK d3 (sR fun _ d4=>yH (rLt (n:=1) (l:=[(-1)]) b SL_22 [iV (-1)] (bp1 rfl) rfl rfl (mks1 (cs:=[iV (-1)]) rfl mkI mks0)) fun k7 w b=>yY (yFb FL_28_1 e0) (yY (lb_ p.v O_22 e0 b R1) ?_)))
 refine yY (yLen SL_22 e0 b (rdI d1)) (bE q fun k8 d5 q=>?_)
 replace b:=b.fz
 refine yC (yCall FN_72 (a2 e0 e0)) (slices_Repeat_int_ok d5 F0 b) ?_
 rintro _ w ⟨i,rfl,b⟩
 refine ⟨_,rfl,?_⟩
 refine Ya i.v e0 (wK d4 (sQ fun _ d6=>sR fun _ d7=>yY (yFb FL_28_0 e0) (yY (yFb FL_26_0 e0) (yY (lb_ j.v O_24 e0 b R1) (yY (yLen SL_24 e0 b (rdI (mtF O))) (Ym (iV 0) rfl (wK d7 (blockQ fun _ d8=>?_))))))))
 refine bE q fun k9 d9 q=>?_
 refine loopQ (fun s a w=>∃ (y:LI) (c:Int) (f:FV),(y,c)=s∧a=fr 74 f∧f 1=(pB o)∧f 3=i.v∧f 17=j.v∧f 18=iV (u.length:Int)∧f 19=iV c∧St w0 ros (box o 28 [j.v,p.v,m.v]::row 3 I1 i.v y::rs) w) d9 ⟨_,_,_,rfl,rfl,rfl,rfl,rfl,rfl,rfl,((b.pk 2 [1,0] rfl).facts (allT allI))⟩ ?_
 rintro _ _ w e1 ⟨y,c,f,rfl,rfl,a9,H,R,S,D,b⟩ g e2 l0 e3 e4
 refine sR fun _ e5=>yY (ylss (eh D) (eh S)) (wK e5 (seqQ fun l1 e6 e7=>?_))
 refine cIf e0 g (fun e8 g=>?_) fun e8 g=>?_
 ·refine wp_skip (e6 _ _ (sQ fun e9 f0=>?_))
  have b0:∀ (T:LI) (f:FV) w,f 1=(pB o)→f 3=i.v→f 17=j.v→f 18=iV (u.length:Int)→f 19=iV c→St w0 ros (box o 28 [j.v,p.v,m.v]::row 3 I1 i.v T::rs) w→dissect_match_j60 c T=some e1→e9 .normal (fr 74 f) w:=by
   intro T f w f1 f2 f3 f4 f5 b q
   refine f0 _ _ (wR (yY (yadd (eh f5) rfl) (Ym (iV (wa .i64 c 1)) e0 (wN ?_))))
   cases q
   exact e3 _ _ _ rfl ⟨_,_,_,rfl,rfl,f1,f2,f3,f4,rfl,b⟩
  refine blockQ fun _ b1=>sR fun _ f6=>Ym (iV c) (eh D) (bE g fun z b2 g=>yY (yIa SL_24 (eh R) (eh D) b (rdI O) b2) ?_)
  obtain ⟨t,b⟩:=iLs b O b2
  refine yY (yCt O_22 e0 b F1 rfl) (Ya (iV c) e0 (Ya t.v e0 (wK f6 (seqQ fun l2 f7 f8=>sR fun _ f9=>Ym i.v (eh H) (Ym (iV c) e0 (bE g fun l3 b3 g=>yY (yIa SL_22 e0 e0 b rO1 b3) (yY (yI O_3 e0 b rO1 b3) (yY (yneq e0 rfl) ?_))))))))
  refine wK f9 ?_
  rcases iteS g with ⟨U,g⟩ | ⟨U,g⟩
  ·refine condF e0 (nF (dT U)) (wp_skip (f7 _ _ (sR fun _ g0=>Ym (iV c) e0 (Ya (iV c) e0 (Ya (iV 0) rfl (wK g0 (sQ fun _ g1=>sR fun _ g2=>Ym t.v e0 ?_)))))))
   refine yY (yLen SL_22 e0 b (rdI F0)) (Ym (iV 0) rfl (wK g2 (blockQ fun _ g3=>bE g fun l4 g4 g=>?_)))
   refine loopQ (fun s a w=>∃ (x A k:Int) (f:FV),(x,A,k)=s∧a=fr 74 f∧f 1=(pB o)∧f 3=i.v∧f 4=iV c∧f 6=iV x∧f 7=iV A∧f 17=j.v∧f 18=iV (u.length:Int)∧f 19=iV c∧f 30=t.v∧f 31=iV (z.length:Int)∧f 32=iV k∧St w0 (imm I1 t.v z::ros) (box o 28 [j.v,p.v,m.v]::row 3 I1 i.v y::rs) w) g4 ⟨_,_,_,_,rfl,rfl,a9,H,rfl,rfl,rfl,R,S,D,rfl,rfl,rfl,(b.facts (allC F0 (allT (allT allI))))⟩ ?_
   rintro _ _ w g5 ⟨x,A,k,f,rfl,rfl,I,B,E,J,V,W,X,Z,a0,a1,F,b⟩ h g6 l5 g7 g8
   refine sR fun _ g9=>yY (ylss (eh F) (eh a1)) (wK g9 (seqQ fun l6 h0 h1=>?_))
   refine cIf e0 h (fun h3 h=>?_) fun h3 h=>?_
   ·refine wp_skip (h0 _ _ (sQ fun _ h5=>blockQ fun h7 h9=>sR fun _ i0=>Ym (iV k) (eh F) (bE h fun G b4 h=>yY (yIa SL_22 (eh a0) (eh F) b (rdI F0) b4) (yY (yI O_3 e0 b (rdI F0) b4) (Ya (iV k) e0 (Ya (iV G) e0 (wK i0 ?_)))))))
    refine sR fun _ i1=>Ym i.v (eh B) (Ym (iV G) e0 (bE h fun i2 b5 h=>yY (yIa SL_22 e0 e0 b rO1 b5) (yY (yI O_3 e0 b rO1 b5) (yY (yeql e0 rfl) (Ym (.bool (decide (i2=(-1)))) e0 (bE h fun i3 r h=>?_))))))
    refine joinW 11 (fun f w=>f 1=(pB o)∧f 3=i.v∧f 4=iV c∧f 6=iV x∧f 7=iV A∧f 8=iV k∧f 9=iV G∧f 17=j.v∧f 18=iV (u.length:Int)∧f 19=iV c∧f 30=t.v∧f 31=iV (z.length:Int)∧f 32=iV k∧f 53=.bool i3∧St w0 (imm I1 t.v z::ros) (box o 28 [j.v,p.v,m.v]::row 3 I1 i.v y::rs) w) (fun b6=>?_) ?_
    ·rcases iteS r with ⟨d,r⟩ | ⟨d,r⟩
     ·refine yG (dT d) (yFb FL_28_2 (eh I)) (yG (dT d) (lb_ m.v O_24 e0 b R0) (yG (dT d) (m_ (iV c) (eh E)) (bE r fun l7 b8 r=>yG (dT d) (yIa SL_24 e0 e0 b (rdI (mtF C)) b8) ?_)))
      obtain ⟨l8,b⟩:=iLs b (mtF C) b8
      refine yG (dT d) (yCt O_22 e0 b F1 rfl) (yG (dT d) (m_ (iV k) e0) (bE r fun i4 b9 r=>yG (dT d) (yIa SL_22 e0 e0 b (rdI F0) b9) (yG (dT d) (yI O_3 e0 b (rdI F0) b9) (yG (dT d) (m_ (iV A) (eh V)) (yG (dT d) (ygtr e0 e0) (yY (pt_ (.bool (decide (A < i4))) e0 (dT d) e0) ?_))))))
      cases r
      exact b6 _ _ ⟨I,B,E,J,V,rfl,rfl,W,X,Z,a0,a1,F,rfl,(b.facts (allC F2 (allT (allT (allT allI)))))⟩
     refine gN (dF d) (gN (dF d) (gN (dF d) (gN (dF d) (gN (dF d) (gN (dF d) (gN (dF d) (gN (dF d) (gN (dF d) (gN (dF d) (yY (pf_ (.bool false) e0 (dF d) rfl) ?_))))))))))
     cases r
     exact b6 _ _ ⟨I,B,E,J,V,rfl,rfl,W,X,Z,a0,a1,F,rfl,b⟩
    rintro f w ⟨K,c0,L,i5,i6,c1,i7,c2,c3,c4,c5,c6,c7,i8,b⟩
    refine wK i1 ?_
    have c8:∀ (a3 a4:Int) (f:FV) w,f 1=(pB o)→f 3=i.v→f 4=iV c→f 6=iV a3→f 7=iV a4→f 17=j.v→f 18=iV (u.length:Int)→f 19=iV c→f 30=t.v→f 31=iV (z.length:Int)→f 32=iV k→St w0 (imm I1 t.v z::ros) (box o 28 [j.v,p.v,m.v]::row 3 I1 i.v y::rs) w→dissect_match_j67 k a3 a4=some g5→h7 .normal (fr 74 f) w:=by
     intro a3 a4 f w i9 j0 j1 j2 j3 j4 j5 j6 j7 j8 j9 b q
     refine h9 _ _ _ (h5 _ _ (wR (yY (yadd (eh j9) rfl) (Ym (iV (wa .i64 k 1)) e0 (wN ?_)))))
     cases q
     exact g7 _ _ _ rfl ⟨_,_,_,_,rfl,rfl,i9,j0,j1,j2,j3,j4,j5,j6,j7,j8,rfl,b⟩
    refine cB (eh i8) h (fun k0 h=>?_) fun k0 h=>?_
    ·refine bE h fun l9 a5 h=>bE h fun k5 N h=>dR [0,0,2,0,14,30,0,126,254,1,1023] [9,10] 2 folM ?_
     replace b:=b.drew
     refine Dn [0,1,2,3,4,5,6,7,8] [] [9] (yR rfl (m_ (iV G) (eh i7)) (yR rfl (yFb FL_28_2 (eh K)) (yR rfl (lb_ m.v O_24 e0 b R0) (yR rfl (m_ (iV c) (eh L)) (yR rfl (yIa SL_24 e0 e0 b (rdI (mtF C)) a5) ?_)))))
     obtain ⟨m0,b⟩:=iLs b (mtF C) a5
     refine yR rfl (yCt O_22 e0 b F1 rfl) (yR rfl (m_ (iV k) (eh c1)) (yR rfl (yIa SL_22 e0 e0 b (rdI F0) N) (yR rfl (yI O_3 e0 b (rdI F0) N) (Rn QSn ?_))))
     refine Lc1 rfl ?_
     refine Ly wn (a_ (iV G) e0) (Dn [] [1,2,3,4,5,6,7,8] [10] (Rn (yS rfl (yFb FL_28_2 (eh K)) (yS rfl (lb_ m.v O_24 e0 b R0) (yS rfl (m_ (iV c) (eh L)) (yS rfl (yIa SL_24 e0 e0 b (rdI (F_3 C)) a5) (yS rfl (yCt O_22 e0 b F1 rfl) (yS rfl (m_ (iV k) (eh c1)) (yS rfl (yIa SL_22 e0 e0 b (rdI F0) N) (yS rfl (yI O_3 e0 b (rdI F0) N) QSn)))))))) ?_))
     refine Lc1 rfl ?_
     exact Ly wn (a_ (iV k5) e0) (Dz [] [] (Rn QSn (c8 _ _ _ _ K c0 L rfl rfl c2 c3 c4 c5 c6 c7 (b.facts (allC F2 (allT (allT (allT allI))))) h)))
    exact wp_skip (c8 _ _ _ _ K c0 L i5 i6 c2 c3 c4 c5 c6 c7 b h)
   refine wp_exit (h1 _ _ _ rfl ?_)
   cases h
   refine g8 _ _ _ _ rfl rfl ?_
   obtain rfl:=g6 _ rfl
   refine g3 _ _ _ (g1 _ _ (wR (Ym i.v (eh B) (Ym (iV c) (eh E) (Ym i.v (eh B) (Ym (iV x) (eh J) (Ym (iV x) (eh J) (Ym (iV c) (eh E) (bE g fun m1 c9 g=>yY (yIs SL_22 e0 e0 b rO1 c9) (yT (r_sti (cs:=[iV x]) (b.pk 2 [1,0] rfl) O_3 rfl e0 e0 rfl mkI c9) fun w b=>bE g fun m2 d0 g=>?_))))))))))
   exact yY (yIs SL_22 e0 e0 b rO0 d0) (yT (r_sti (cs:=[iV c]) b O_3 rfl e0 e0 rfl mkI d0) fun w b=>wN (b1 _ _ _ (b0 _ _ _ I B W X Z ((b.pk 2 [1,0] rfl).facts (allT allI)) g)))
  exact condT e0 (nT (dF U)) (wp_exit (f8 _ _ _ rfl (b1 _ _ _ (b0 _ _ _ a9 H R S D (b.facts (allT (allT allI))) g))))
 refine wp_exit (e7 _ _ _ rfl ?_)
 cases g
 refine e4 _ _ _ _ rfl rfl ?_
 obtain rfl:=e2 _ rfl
 refine d8 _ _ _ (d6 _ _ (sR fun _ k6=>Ym i.v (eh H) (Ya i.v e0 (wK k6 (wp_ret ?_)))))
 cases q
 exact d2 _ _ _ (fin1r Tryz.results40 ⟨rfl,rfl⟩ ⟨_,rfl,(b.pk 2 [1] rfl)⟩)
theorem dissect_weights_1_ok {a:Int} {out:Bool} (g:dissect_weights_1 a=some out) (c:St w0 ros rs w):
  Calls Tryz.prog 83 #[iV a] w (fun e w=>e=.returned (.bool out)∧St w0 ros rs w):=by
 refine enterQ Tryz.func83 rfl Tryz.ntmps83 rfl fun Q h=>sR fun _ i=>Ya (.bool false) rfl (wK i (sR fun _ j=>Ym (iV a) e0 (yY (ylss e0 rfl) (Ym (.bool (decide (a < 1))) e0 ?_))))
 refine joinW 3 (fun f w=>f 8=.bool ((decide (a < 1)) || (decide ((1099511627776:Int) < a)))∧St w0 ros rs w) (fun d=>?_) ?_
 ·rcases Bool.eq_false_or_eq_true (decide (a < 1)) with b | b
  ·exact gN b (gN b (yY (pt_ (.bool true) e0 b rfl) (d _ _ ⟨(congrArg Value.bool (orT b)),c⟩)))
  exact yG b (m_ (iV a) e0) (yG b (ygtr e0 rfl) (yY (pf_ (.bool (decide ((1099511627776:Int) < a))) e0 b e0) (d _ _ ⟨(congrArg Value.bool (orF b)),c⟩)))
 rintro f w ⟨k,c⟩
 refine Ya (.bool ((decide (a < 1)) || (decide ((1099511627776:Int) < a)))) (eh k) (wK j (wp_ret ?_))
 cases g
 exact h _ _ _ (fin1r Tryz.results83 ⟨rfl,rfl⟩ ⟨rfl,c⟩)
theorem slices_IndexFunc_int_ok {i:LI} {g:Hdr} {out:Int} (h:slices_IndexFunc_int i=some out) (j:imm I1 g.v i∈ros) (c:St w0 ros rs w):
  Calls Tryz.prog 80 #[g.v,.func (.func 83) #[] #[]] w (fun e w=>e=.returned (iV out)∧St w0 ros rs w):=by
 refine enterQ Tryz.func80 rfl Tryz.ntmps80 rfl fun Q l=>sR fun _ x=>Ya (iV 0) rfl (wK x (seqQ fun S y z=>sR fun _ A=>Ym g.v e0 (yY (yLen SL_22 e0 c (rdI j)) (Ym (iV 0) rfl (wK A ?_)))))
 refine blockQ fun _ m=>bE h fun T B h=>?_
 refine loopQ (fun s a w=>∃ (d:Int) (f:FV),d=s∧a=fr 19 f∧f 0=g.v∧f 1=.func (.func 83) #[] #[]∧f 7=iV (i.length:Int)∧f 8=iV d∧St w0 ros rs w) B ⟨_,_,rfl,rfl,rfl,rfl,rfl,rfl,c⟩ ?_
 rintro _ _ w U ⟨d,f,rfl,rfl,n,o,p,k,c⟩ b q V C r
 refine sR fun _ D=>yY (ylss (eh k) (eh p)) (wK D (seqQ fun W E F=>?_))
 refine cIf e0 b (fun G b=>?_) fun G b=>?_
 ·refine wp_skip (E _ _ (seqQ fun X H I=>blockQ fun _ t=>sR fun _ J=>Ym (iV d) (eh k) (Ya (iV d) e0 (wK J (sR fun _ K=>Ym (.func (.func 83) #[] #[]) (eh o) (Ym g.v (eh n) ?_))))))
  refine Ym (iV d) e0 (bE b fun Z u b=>yY (yIa SL_22 e0 e0 c (rdI j) u) (yY (yI O_3 e0 c (rdI j) u) (bE b fun a0 L b=>yC (yCallw FN_83 e0 (a1 e0)) (dissect_weights_1_ok L c) ?_)))
  rintro _ w ⟨rfl,c⟩
  refine ⟨_,rfl,?_⟩
  refine wK K (cB e0 b (fun N b=>?_) fun N b=>?_)
  ·refine sR fun _ O=>Ym (iV d) e0 (Ya (iV d) e0 (wK O (wp_ret (t _ _ _ (I _ _ _ rfl ?_)))))
   cases b
   refine r _ _ _ _ rfl rfl ?_
   obtain rfl:=q _ rfl
   refine m _ _ _ (z _ _ _ rfl ?_)
   cases h
   exact l _ _ _ (fin1r Tryz.results80 ⟨rfl,rfl⟩ ⟨rfl,c⟩)
  refine wp_skip (t _ _ _ (H _ _ (wR (yY (yadd (eh k) rfl) (Ym (iV (wa .i64 d 1)) e0 (wN ?_))))))
  cases b
  exact C _ _ _ rfl ⟨_,_,rfl,rfl,n,o,p,rfl,c⟩
 refine wp_exit (F _ _ _ rfl ?_)
 cases b
 refine r _ _ _ _ rfl rfl ?_
 obtain rfl:=q _ rfl
 refine m _ _ _ (y _ _ (sR fun _ R=>Ya (iV (-1)) rfl (wK R (wp_ret ?_))))
 cases h
 exact l _ _ _ (fin1r Tryz.results80 ⟨rfl,rfl⟩ ⟨rfl,c⟩)
theorem slices_ContainsFunc_int_ok {d:LI} {a:Hdr} {out:Bool} (b:slices_ContainsFunc_int d=some out) (f:imm I1 a.v d∈ros) (c:St w0 ros rs w):
  Calls Tryz.prog 49 #[a.v,.func (.func 83) #[] #[]] w (fun e w=>e=.returned (.bool out)∧St w0 ros rs w):=by
 refine enterQ Tryz.func49 rfl Tryz.ntmps49 rfl fun Q g=>sR fun _ h=>Ya (.bool false) rfl (wK h (sR fun _ i=>Ym a.v e0 (Ym (.func (.func 83) #[] #[]) e0 (bE b fun j k b=>yC (yCall FN_80 (a2 e0 e0)) (slices_IndexFunc_int_ok k f c) ?_))))
 rintro _ w ⟨rfl,c⟩
 refine ⟨_,rfl,?_⟩
 refine yY (ygeq e0 rfl) (Ya (.bool (decide ((0:Int)≤j))) e0 (wK i (wp_ret ?_)))
 cases b
 exact g _ _ _ (fin1r Tryz.results49 ⟨rfl,rfl⟩ ⟨rfl,c⟩)
theorem dissect_weights_ok {d:LI} {a:Hdr} {out:Bool} (b:dissect_weights d=some out) (f:imm I1 a.v d∈ros) (c:St w0 ros rs w):
  Calls Tryz.prog 52 #[a.v] w (fun e w=>e=.returned (.bool out)∧St w0 ros rs w):=by
 refine enterQ Tryz.func52 rfl Tryz.ntmps52 rfl fun Q g=>sR fun _ h=>Ya (.bool false) rfl (wK h (sR fun _ i=>Ym a.v e0 (bE b fun j k b=>yC (yCall FN_49 (a2 e0 rfl)) (slices_ContainsFunc_int_ok k f c) ?_)))
 rintro _ w ⟨rfl,c⟩
 refine ⟨_,rfl,?_⟩
 refine yY (ynot e0) (Ya (.bool (!j)) e0 (wK i (wp_ret ?_)))
 cases b
 exact g _ _ _ (fin1r Tryz.results52 ⟨rfl,rfl⟩ ⟨rfl,c⟩)
theorem dissect_coarsen_ok {c4:L2} {k5:LI} {k6:L2} {c5:LI} {G J R a8:Hdr} {out:L2×LI×L2×LI×Bool} (o:dissect_coarsen c4 k5 k6 c5=some out) (e8:imm S1 G.v c4∈ros) (c6:imm I1 J.v k5∈ros) (k7:imm S1 R.v k6∈ros) (c7:imm I1 a8.v c5∈ros) (b:St w0 ros rs w):
  Calls Tryz.prog 42 #[.agg #[G.v,J.v,R.v],a8.v] w (fun e w=>∃ (k8:Hdr) (k9:List Hdr) (l0 l1:Hdr) (l2:List Hdr) (l3:Hdr),e=.returned (.tuple #[.agg #[k8.v,l0.v,l1.v],l3.v,.bool out.2.2.2.2])∧St w0 (imm I1 l0.v out.2.1::ros) (row 22 rH k8.v k9::fam 3 I1 k9 out.1::row 22 rH l1.v l2::fam 3 I1 l2 out.2.2.1::row 3 I1 l3.v out.2.2.2.1::rs) w):=by
 refine enterQ Tryz.func42 rfl Tryz.ntmps42 rfl fun Q e9=>sR fun _ r8=>yBb (r_box (vals:=[G.v,J.v,R.v]) b e0 rfl) fun K w b=>yBb (rAl b ZT_28) fun z w b=>Ya hnil.v rfl (Ya (.bool false) rfl (wK r8 (sR fun _ r9=>Ym a8.v e0 ?_)))
 refine yY (yLen SL_22 e0 b (rdI c7)) (bE o fun I2 s0 o=>yH (rMk b SL_22 e0 s0) fun k w b=>Ya k.v e0 (wK r9 (sQ fun _ s1=>sR fun _ s2=>Ym a8.v e0 (yY (yLen SL_22 e0 b (rdI c7)) (Ym (iV 0) rfl (wN ?_))))))
 refine s2 _ _ (blockQ fun _ s3=>bE o fun I3 s4 o=>?_)
 replace b:=b.rowNh 3 I1
 refine loopQ (fun s a w=>∃ (p F:LI) (D:Int) (f:FV) (i:Hdr),(p,F,D)=s∧a=fr 200 f∧f 2=(pB K)∧f 4=(pB z)∧f 5=k.v∧f 23=a8.v∧f 24=iV (c5.length:Int)∧f 25=iV D∧St w0 ros (box K 28 [G.v,J.v,R.v]::row 3 I1 i.v p::box z 28 [hnil.v,i.v,hnil.v]::row 3 I1 k.v F::rs) w) s4 ⟨_,_,_,_,_,rfl,rfl,rfl,rfl,rfl,rfl,rfl,rfl,(b.pk 4 [3,0,1,0] rfl)⟩ ?_
 rintro _ _ w s5 ⟨p,F,D,f,i,rfl,rfl,b3,S,a2,f0,f1,b4,b⟩ m s6 I4 s7 s8
 refine sR fun _ s9=>yY (ylss (eh b4) (eh f1)) (wK s9 (seqQ fun I5 t0 t1=>?_))
 refine cIf e0 m (fun t2 m=>?_) fun t2 m=>?_
 ·refine wp_skip (t0 _ _ (sQ fun t3 t4=>?_))
  have l4:∀ (f2 f3:LI) (f4:Hdr) (f:FV) w,f 2=(pB K)→f 4=(pB z)→f 5=k.v→f 23=a8.v→f 24=iV (c5.length:Int)→f 25=iV D→St w0 ros (box K 28 [G.v,J.v,R.v]::row 3 I1 f4.v f2::box z 28 [hnil.v,f4.v,hnil.v]::row 3 I1 k.v f3::rs) w→dissect_coarsen_j50 D f2 f3=some s5→t3 .normal (fr 200 f) w:=by
   intro f2 f3 f4 f w t5 t6 t7 t8 t9 u0 b o
   refine t4 _ _ (wR (yY (yadd (eh u0) rfl) (Ym (iV (wa .i64 D 1)) e0 (wN ?_))))
   cases o
   exact s7 _ _ _ rfl ⟨_,_,_,_,_,rfl,rfl,t5,t6,t7,t8,t9,rfl,b⟩
  refine blockQ fun _ l5=>sR fun _ u1=>Ym (iV D) (eh b4) (bE m fun f5 l6 m=>yY (yIa SL_22 (eh f0) (eh b4) b (rdI c7) l6) (yY (yI O_3 e0 b (rdI c7) l6) (Ya (iV D) e0 (Ya (iV f5) e0 (wK u1 (seqQ fun I6 u2 u3=>sR fun _ u4=>?_))))))
  refine Ym (iV f5) e0 (Ym (iV D) e0 (yY (ylss e0 e0) (wK u4 ?_)))
  refine cIf e0 m (fun u5 m=>?_) fun u5 m=>?_
  ·refine sR fun _ u6=>Ym k.v (eh a2) (Ym (iV D) e0 (Ym k.v (eh a2) (Ym (iV f5) e0 (bE m fun u7 l7 m=>yY (yIa SL_22 e0 e0 b rO3 l7) (yY (yI O_3 e0 b rO3 l7) (bE m fun I7 l8 m=>yY (yIs SL_22 e0 e0 b rO3 l8) (yT (r_sti (cs:=[iV u7]) (b.pk 4 [3,0,0,0] rfl) O_3 rfl e0 e0 rfl mkI l8) fun w b=>wN ?_)))))))
   refine u6 _ _ (sQ fun _ u8=>bE m fun I8 l9 m=>bE m fun u9 m0 m=>bE m fun v0 m1 m=>bE m fun I9 m2 m=>dR [0,1,0,0,12,28,63,127,0,256,0,1792,3840,8191,16383,32767] [15] 1 folM ?_)
   replace b:=b.drew
   refine Dn [0,1,2,3,4,5,6,7,8,9,10,11,12,13,14] [] [15] (yR rfl (yFb FL_28_1 (eh S)) (yR rfl (lb_ i.v O_22 e0 b R3) (yR rfl (m_ k.v (eh a2)) (yR rfl (m_ (iV D) e0) (yR rfl (yIa SL_22 e0 e0 b rO0 l9) (yR rfl (yI O_3 e0 b rO0 l9) (yR rfl (yIa SL_22 e0 e0 b rO2 m0) (yR rfl (yI O_3 e0 b rO2 m0) (yR rfl (yFb FL_28_1 (eh b3)) (yR rfl (lb_ J.v O_22 e0 b R1) (yR rfl (m_ (iV D) e0) (yR rfl (yIa SL_22 e0 e0 b (rdI c6) m1) (yR rfl (yI O_3 e0 b (rdI c6) m1) ?_)))))))))))))
   refine yR rfl (yadd e0 e0) (yR rfl (yIs SL_22 e0 e0 b rO2 m2) (Rn QSn ?_))
   refine Lc1 rfl ?_
   replace b:=b.pk 3 [2,0,0] rfl
   exact LT wn (r_sti (cs:=[iV (wa .i64 u9 v0)]) b O_3 rfl e0 e0 rfl mkI m2) fun w b=>Dz [] [] (Rn QSn (u8 _ _ (wp_exit (u3 _ _ _ rfl (l5 _ _ _ (l4 _ _ _ _ _ b3 S a2 f0 f1 b4 (b.pk 4 [2,0,1,0] rfl) m))))))
  refine wp_skip (u2 _ _ (sR fun _ v1=>Ym k.v (eh a2) (Ym (iV D) e0 (yY (yFb FL_28_1 (eh S)) (yY (lb_ i.v O_22 e0 b R2) (yY (yLen SL_22 e0 b rO1) (bE m fun J0 m3 m=>yY (yIs SL_22 e0 e0 b rO3 m3) (yT (r_sti (cs:=[iV (p.length:Int)]) (b.pk 4 [3,0,0,0] rfl) O_3 rfl e0 e0 rfl mkI m3) fun w b=>wN ?_))))))))
  refine v1 _ _ (bE m fun f6 m4 m=>bE m fun J1 v2 m=>dR [0,1,0,4,0,28,60,124,255,511,1023] [7,8,10] 3 folM ?_)
  replace b:=b.drew
  refine Dn [0,1,2,3,4,5,6] [] [7] (yR rfl (yFb FL_28_1 (eh S)) (yR rfl (lb_ i.v O_22 e0 b R3) (yR rfl (yFb FL_28_1 (eh b3)) (yR rfl (lb_ J.v O_22 e0 b R1) (yR rfl (m_ (iV D) e0) (yR rfl (yIa SL_22 e0 e0 b (rdI c6) m4) (yR rfl (yI O_3 e0 b (rdI c6) m4) (Rn QSn ?_))))))))
  refine Lc1 rfl ?_
  refine LH wn (rLt (n:=1) (l:=[f6]) b SL_22 [iV f6] (bp1 e0) rfl rfl (mks1 (cs:=[iV f6]) rfl mkI mks0)) fun J2 w b=>Dn [] [0,1] [8] (Rn (yS rfl (yFb FL_28_1 (eh S)) (yS rfl (lb_ i.v O_22 e0 b R4) QSn)) ?_)
  refine Lc1 rfl ?_
  replace b:=b.pk 4 [3,0,0,0] rfl
  refine LH wn (rAp b SL_22 e0 e0 rO1 v2) fun v3 w b=>Dn [9] [] [10] (yR rfl (yFb FL_28_1 (eh S)) (Rn QSn ?_))
  refine Lc1 rfl ?_
  replace b:=b.pk 5 [4,0,0,0,0] rfl
  exact LT wn (r_stb1 (vals':=[hnil.v,v3.v,hnil.v]) b O_22 e0 e0 rfl rfl rfl rfl) fun w b=>Dz [] [] (Rn QSn (l5 _ _ _ (l4 _ _ _ _ _ b3 S a2 f0 f1 b4 (b.pk 5 [4,1,0,1] rfl) m)))
 refine wp_exit (t1 _ _ _ rfl ?_)
 cases m
 refine s8 _ _ _ _ rfl rfl ?_
 obtain rfl:=s6 _ rfl
 refine s3 _ _ _ (s1 _ _ (sR fun _ v4=>yY (yFb FL_28_1 (eh S)) (yY (lb_ i.v O_22 e0 b R2) (yY (yLen SL_22 e0 b rO1) (Ya (iV (p.length:Int)) e0 (wK v4 (sR fun _ v5=>Ym (iV (p.length:Int)) e0 (bE o fun v6 v7 o=>?_))))))))
 obtain ⟨v8,em155,v9⟩:=mkL_rep v7 hnil
 refine yH (rMk b SLH_24 e0 v9) fun r w b=>?_
 replace b:=(b.fReps 3 I1 v8).pk 2 [1,0] rfl
 rw [← em155] at b
 refine Ya r.v e0 (wK v5 (sQ fun _ w1=>sR fun _ w2=>Ym r.v e0 (yY (yLenF SLH_24 e0 b rO0 R1) (Ym (iV 0) rfl (wK w2 (blockQ fun _ w3=>bE o fun J3 w4 o=>?_))))))
 refine loopQ (fun s a w=>∃ (f7:L2) (a3:Int) (f:FV) (T:List Hdr),(f7,a3)=s∧a=fr 200 f∧f 2=(pB K)∧f 4=(pB z)∧f 5=k.v∧f 9=iV (p.length:Int)∧f 10=r.v∧f 78=iV (v6.length:Int)∧f 79=iV a3∧St w0 ros (box K 28 [G.v,J.v,R.v]::row 3 I1 i.v p::box z 28 [hnil.v,i.v,hnil.v]::row 3 I1 k.v F::row 22 rH r.v T::fam 3 I1 T f7::rs) w) w4 ⟨_,_,_,_,rfl,rfl,b3,S,a2,rfl,rfl,rfl,rfl,(b.pk 6 [2,2,2,2,0,0] rfl)⟩ ?_
 rintro _ _ w J4 ⟨f7,a3,f,T,rfl,rfl,f8,m5,m6,f9,g0,m7,g1,b⟩ U w5 J5 w6 w7
 refine sR fun _ w8=>yY (ylss (eh g1) (eh m7)) (wK w8 (seqQ fun J6 w9 x0=>?_))
 refine cIf e0 U (fun x2 U=>?_) fun x2 U=>?_
 ·refine wp_skip (w9 _ _ (sQ fun _ x4=>blockQ fun _ x6=>sR fun _ x8=>Ym (iV a3) (eh g1) (Ya (iV a3) e0 (wK x8 (wR (Ym r.v (eh g0) (Ym (iV a3) e0 (Ym (iV (p.length:Int)) (eh f9) ?_))))))))
  refine bE U fun J7 x9 U=>yH (rMk b SL_22 e0 x9) fun m8 w b=>bE U fun J8 m9 U=>?_
  obtain ⟨J9,g2⟩:=setI_len (u:=m8) m9 (b.famL (mtR (mtR (mtR (mtR (mtR (mtR mhR)))))))
  refine yY (yIs SLH_24 e0 e0 b rO5 g2) (yT (r_sti (cs:=[m8.v]) (b.pk 6 [5,0,0,0,0,0] rfl) O_22 rfl e0 e0 rfl (mkF rfl) g2) fun w b=>?_)
  replace b:=(b.pk 7 [1,5,0,0,0,0,0] rfl).fput g2 m9
  refine wN (x6 _ _ _ (x4 _ _ (wR (yY (yadd (eh g1) rfl) (Ym (iV (wa .i64 a3 1)) e0 (wN ?_))))))
  cases U
  exact w6 _ _ _ rfl ⟨_,_,_,_,rfl,rfl,f8,m5,m6,f9,g0,m7,rfl,(b.pk 6 [2,2,2,2,1,0] rfl)⟩
 refine wp_exit (x0 _ _ _ rfl ?_)
 cases U
 refine w7 _ _ _ _ rfl rfl ?_
 obtain rfl:=w5 _ rfl
 refine w3 _ _ _ (w1 _ _ (sQ fun _ y0=>sR fun _ y1=>yY (yFb FL_28_0 (eh f8)) (yY (yFb FL_26_0 e0) (yY (lb_ G.v O_24 e0 b R0) (yY (yLen SL_24 e0 b (rdI e8)) (Ym (iV 0) rfl (wK y1 (blockQ fun _ y2=>bE o fun K0 y3 o=>?_))))))))
 refine loopQ (fun s a w=>∃ (E:L2) (L:Int) (f:FV),(E,L)=s∧a=fr 200 f∧f 2=(pB K)∧f 4=(pB z)∧f 5=k.v∧f 9=iV (p.length:Int)∧f 10=r.v∧f 90=G.v∧f 91=iV (c4.length:Int)∧f 92=iV L∧St w0 ros (box K 28 [G.v,J.v,R.v]::row 3 I1 i.v p::box z 28 [hnil.v,i.v,hnil.v]::row 3 I1 k.v F::row 22 rH r.v T::fam 3 I1 T E::rs) w) y3 ⟨_,_,_,rfl,rfl,f8,m5,m6,f9,g0,rfl,rfl,rfl,b⟩ ?_
 rintro _ _ w K1 ⟨E,L,f,rfl,rfl,y4,N,c8,a9,c9,n0,n1,d0,b⟩ V y5 K2 y6 y7
 refine sR fun _ y8=>yY (ylss (eh d0) (eh n1)) (wK y8 (seqQ fun K3 y9 z0=>?_))
 refine cIf e0 V (fun z1 V=>?_) fun z1 V=>?_
 ·refine wp_skip (y9 _ _ (sQ fun _ z2=>blockQ fun _ z3=>sR fun _ z4=>Ym (iV L) (eh d0) (bE V fun n2 n4 V=>yY (yIa SL_24 (eh n0) (eh d0) b (rdI e8) n4) ?_)))
  obtain ⟨d1,b⟩:=iLs b e8 n4
  refine yY (yCt O_22 e0 b F1 rfl) (Ya (iV L) e0 (Ya d1.v e0 (wK z4 (sR fun _ z5=>Ym d1.v e0 (yY (yLen SL_22 e0 b (rdI F0)) (Ym (iV 0) rfl (wK z5 (blockQ fun _ z6=>bE V fun K4 z7 V=>?_))))))))
  refine loopQ (fun s a w=>∃ (g3:L2) (a4:Int) (f:FV),(g3,a4)=s∧a=fr 200 f∧f 2=(pB K)∧f 4=(pB z)∧f 5=k.v∧f 9=iV (p.length:Int)∧f 10=r.v∧f 12=iV L∧f 90=G.v∧f 91=iV (c4.length:Int)∧f 92=iV L∧f 97=d1.v∧f 98=iV (n2.length:Int)∧f 99=iV a4∧St w0 (imm I1 d1.v n2::ros) (box K 28 [G.v,J.v,R.v]::row 3 I1 i.v p::box z 28 [hnil.v,i.v,hnil.v]::row 3 I1 k.v F::row 22 rH r.v T::fam 3 I1 T g3::rs) w) z7 ⟨_,_,_,rfl,rfl,y4,N,c8,a9,c9,rfl,n0,n1,d0,rfl,rfl,rfl,(b.facts (allC F0 (allT (allT allI))))⟩ ?_
  rintro _ _ w K5 ⟨g3,a4,f,rfl,rfl,g4,n6,d2,n7,g5,g6,o0,o1,o2,o4,o6,d3,b⟩ t z8 K6 z9 A0
  refine sR fun _ A1=>yY (ylss (eh d3) (eh o6)) (wK A1 (seqQ fun K7 A2 A3=>?_))
  refine cIf e0 t (fun A4 t=>?_) fun A4 t=>?_
  ·refine wp_skip (A2 _ _ (sQ fun _ A5=>blockQ fun _ A6=>sR fun _ A7=>Ym (iV a4) (eh d3) (bE t fun o7 p0 t=>yY (yIa SL_22 (eh o4) (eh d3) b (rdI F0) p0) (yY (yI O_3 e0 b (rdI F0) p0) (Ya (iV a4) e0 (Ya (iV o7) e0 (wK A7 ?_)))))))
   refine bE t fun K8 p1 t=>bE t fun K9 b5 t=>bE t fun L0 p2 t=>bE t fun A8 p3 t=>bE t fun L1 p4 t=>bE t fun A9 p5 t=>bE t fun L3 p6 t=>bE t fun L4 B0 t=>dR [0,0,0,6,14,31,63,0,0,384,896,2047,4095,0,8192,0,57344,122880,0,516096,1040384,2097151,4194303,8388607] [23] 1 folM ?_
   replace b:=b.drew
   refine Dn [0,1,2,3,4,5,6,7,8,9,10,11,12,13,14,15,16,17,18,19,20,21,22] [] [23] (yR rfl (m_ r.v (eh g5)) (yR rfl (m_ k.v (eh d2)) (yR rfl (m_ (iV L) (eh g6)) (yR rfl (yIa SL_22 e0 e0 b rO3 p1) (yR rfl (yI O_3 e0 b rO3 p1) ?_)))))
   obtain ⟨L5,a5⟩:=b.famI R5 b5
   refine yR rfl (yIa SLH_24 e0 e0 b rO4 a5) (yR rfl (yF1 O_22 e0 b rO4 a5 rfl) (yR rfl (m_ k.v (eh d2)) (yR rfl (m_ (iV o7) e0) (yR rfl (yIa SL_22 e0 e0 b rO3 p2) (yR rfl (yI O_3 e0 b rO3 p2) (yR rfl (yIa SL_22 e0 e0 b (rdF R5 a5 b5) p3) (yR rfl (yI O_3 e0 b (rdF R5 a5 b5) p3) (yR rfl (yFb FL_28_2 (eh g4)) (yR rfl (lb_ R.v O_24 e0 b R0) (yR rfl (m_ (iV L) (eh g6)) (yR rfl (yIa SL_24 e0 e0 b (rdI (mtF k7)) p4) ?_)))))))))))
   obtain ⟨L6,b⟩:=iLs b (mtF k7) p4
   refine yR rfl (yCt O_22 e0 b F1 rfl) (yR rfl (m_ (iV a4) e0) (yR rfl (yIa SL_22 e0 e0 b (rdI F0) p5) (yR rfl (yI O_3 e0 b (rdI F0) p5) (yR rfl (yadd e0 e0) (yR rfl (yIs SL_22 e0 e0 b (rdF R5 a5 b5) p6) (Rn QSn ?_))))))
   refine Lc1 rfl ?_
   replace b:=b.pk 6 [5,0,0,0,0,0] rfl
   refine LT wn (r_sti (cs:=[iV (wa .i64 A8 A9)]) (b.foc a5 b5) O_3 rfl e0 e0 rfl mkI p6) fun w b=>?_
   replace b:=b.unfoc' a5 B0
   refine Dz [] [] (Rn QSn (A6 _ _ _ (A5 _ _ (wR (yY (yadd (eh d3) rfl) (Ym (iV (wa .i64 a4 1)) e0 (wN ?_)))))))
   cases t
   exact z9 _ _ _ rfl ⟨_,_,_,rfl,rfl,g4,n6,d2,n7,g5,g6,o0,o1,o2,o4,o6,rfl,((b.pk 6 [1,1,1,1,1,0] rfl).facts (allC F2 (allT (allT (allT allI)))))⟩
  refine wp_exit (A3 _ _ _ rfl ?_)
  cases t
  refine A0 _ _ _ _ rfl rfl ?_
  obtain rfl:=z8 _ rfl
  refine z6 _ _ _ (z3 _ _ _ (z2 _ _ (wR (yY (yadd (eh o2) rfl) (Ym (iV (wa .i64 L 1)) e0 (wN ?_))))))
  cases V
  exact y6 _ _ _ rfl ⟨_,_,_,rfl,rfl,g4,n6,d2,n7,g5,o0,o1,rfl,(b.facts (allT allI))⟩
 refine wp_exit (z0 _ _ _ rfl ?_)
 cases V
 refine y7 _ _ _ _ rfl rfl ?_
 obtain rfl:=y5 _ rfl
 refine y2 _ _ _ (y0 _ _ (sQ fun _ B1=>bE o fun B2 p7 o=>bE o fun B3 g7 o=>?_))
 refine joinN (n:=200) (fun f w=>∃ (j:Hdr) (g8:List Hdr) (h:Hdr) (g9:List Hdr),f 4=(pB z)∧f 5=k.v∧f 10=r.v∧St w0 ros (row 22 rH j.v g8::fam 3 I1 g8 B2::row 3 I1 i.v p::row 22 rH h.v g9::fam 3 I1 g9 B3::box z 28 [j.v,i.v,h.v]::row 3 I1 k.v F::row 22 rH r.v T::fam 3 I1 T E::rs) w) (fun h0=>?_) ?_
 ·refine dR [0,1,0,4,3,19,51,127,255] [1,3,6,8] 4 folM ?_
  replace b:=b.drew
  refine Dn [0,2] [] [1,3] (yR rfl (m_ (iV (p.length:Int)) (eh a9)) (yR rfl (m_ (iV (p.length:Int)) (eh a9)) (Rn QSn ?_)))
  refine Lc rfl ?_ (Lc1 rfl ?_)
  ·obtain ⟨h1,em321,h3⟩:=mkL_rep p7 hnil
   refine LH wn (rMk b SLH_24 e0 h3) fun a6 w b=>?_
   replace b:=(b.fReps 3 I1 h1).pk 2 [1,0] rfl
   rw [← em321] at b
   refine Dn [4,5] [2] [3,6] (yR rfl (yFb FL_28_0 (eh N)) (yR rfl (yFb FL_26_0 e0) (Rn (yS rfl (m_ (iV (p.length:Int)) (eh a9)) QSn) ?_)))
   refine Lc rfl ?_ (Lc1 rfl ?_)
   ·obtain ⟨b6,em324,b7⟩:=mkL_rep g7 hnil
    refine LH wn (rMk b SLH_24 e0 b7) fun b8 w b=>?_
    replace b:=(b.fReps 3 I1 b6).pk 2 [1,0] rfl
    rw [← em324] at b
    refine Dn [] [4,5] [6] (Rn (yS rfl (yFb FL_28_0 (eh N)) (yS rfl (yFb FL_26_0 e0) QSn)) ?_)
    refine Lc1 rfl ?_
    replace b:=b.pk 7 [6,0,0,0,0,0,0] rfl
    refine LT wn (r_stb1 (vals':=[a6.v,i.v,hnil.v]) b O_24 e0 e0 rfl rfl rfl rfl) fun w b=>Dn [7] [] [8] (yR rfl (yFb FL_28_2 (eh N)) (Rn QSn ?_))
    refine Lc1 rfl ?_
    exact LT wn (r_stb1 (vals':=[a6.v,i.v,b8.v]) b O_24 e0 e0 rfl rfl rfl rfl) fun w b=>Dz [] [] (Rn QSn (h0 _ _ ⟨_,_,_,_,N,c8,c9,(b.pk 10 [3,3,4,1,1,0,1,1,1] rfl)⟩))
   replace b:=b.pk 5 [4,0,0,0,0] rfl
   refine LT wn (r_stb1 (vals':=[a6.v,i.v,hnil.v]) b O_24 e0 e0 rfl rfl rfl rfl) fun w b=>Dn [] [2] [3] (Rn (yS rfl (m_ (iV (p.length:Int)) (eh a9)) QSn) ?_)
   refine Lc1 rfl ?_
   obtain ⟨b6,em324,b7⟩:=mkL_rep g7 hnil
   refine LH wn (rMk b SLH_24 e0 b7) fun b8 w b=>?_
   replace b:=(b.fReps 3 I1 b6).pk 2 [1,0] rfl
   rw [← em324] at b
   refine Dn [7] [] [8] (yR rfl (yFb FL_28_2 (eh N)) (Rn QSn ?_))
   refine Lc1 rfl ?_
   replace b:=b.pk 3 [2,0,0] rfl
   exact LT wn (r_stb1 (vals':=[a6.v,i.v,b8.v]) b O_24 e0 e0 rfl rfl rfl rfl) fun w b=>Dz [] [] (Rn QSn (h0 _ _ ⟨_,_,_,_,N,c8,c9,(b.pk 10 [3,3,4,1,1,0,1,1,1] rfl)⟩))
  obtain ⟨b6,em324,b7⟩:=mkL_rep g7 hnil
  refine LH wn (rMk b SLH_24 e0 b7) fun b8 w b=>?_
  replace b:=(b.fReps 3 I1 b6).pk 2 [1,0] rfl
  rw [← em324] at b
  refine Dn [] [0] [1] (Rn (yS rfl (m_ (iV (p.length:Int)) (eh a9)) QSn) ?_)
  refine Lc1 rfl ?_
  obtain ⟨h1,em321,h3⟩:=mkL_rep p7 hnil
  refine LH wn (rMk b SLH_24 e0 h3) fun a6 w b=>?_
  replace b:=(b.fReps 3 I1 h1).pk 2 [1,0] rfl
  rw [← em321] at b
  refine Dn [4,5] [] [6] (yR rfl (yFb FL_28_0 (eh N)) (yR rfl (yFb FL_26_0 e0) (Rn QSn ?_)))
  refine Lc1 rfl ?_
  replace b:=b.pk 7 [6,0,0,0,0,0,0] rfl
  refine LT wn (r_stb1 (vals':=[a6.v,i.v,hnil.v]) b O_24 e0 e0 rfl rfl rfl rfl) fun w b=>Dn [7] [] [8] (yR rfl (yFb FL_28_2 (eh N)) (Rn QSn ?_))
  refine Lc1 rfl ?_
  exact LT wn (r_stb1 (vals':=[a6.v,i.v,b8.v]) b O_24 e0 e0 rfl rfl rfl rfl) fun w b=>Dz [] [] (Rn QSn (h0 _ _ ⟨_,_,_,_,N,c8,c9,(b.pk 10 [1,1,4,1,1,0,1,1,1] rfl)⟩))
 rintro f w ⟨j,g8,h,g9,B4,B5,B6,b⟩
 refine B1 _ _ (seqQ fun L7 B7 B8=>sR fun _ B9=>Ym r.v (eh B6) (yY (yLenF SLH_24 e0 b rO7 R8) (Ym (iV 0) rfl (wK B9 (blockQ fun _ p8=>?_)))))
 replace b:=(b.pk 9 [7,7,0,0,0,0,0,0,0] rfl).ffz
 refine bE o fun L8 C0 o=>?_
 refine loopQ (fun s a w=>∃ (h5 h7:L2) (c:Int) (f:FV) (h9 i0:List Hdr),(h5,h7,c)=s∧a=fr 200 f∧f 4=(pB z)∧f 5=k.v∧f 136=r.v∧f 137=iV (E.length:Int)∧f 138=iV c∧St w0 (imm S1 r.v E::ros) (row 22 rH j.v h9::fam 3 I1 h9 h5::row 3 I1 i.v p::row 22 rH h.v i0::fam 3 I1 i0 h7::box z 28 [j.v,i.v,h.v]::row 3 I1 k.v F::rs) w) C0 ⟨_,_,_,_,_,_,rfl,rfl,B4,B5,rfl,rfl,rfl,b⟩ ?_
 rintro _ _ w L9 ⟨h5,h7,c,f,h9,i0,rfl,rfl,a7,p9,q0,q5,d4,b⟩ A q6 M0 C1 q7
 refine sR fun _ C2=>yY (ylss (eh d4) (eh q5)) (wK C2 (seqQ fun M1 C3 C4=>?_))
 refine cIf e0 A (fun C5 A=>?_) fun C5 A=>?_
 ·refine wp_skip (C3 _ _ (seqQ fun M2 C6 C7=>blockQ fun _ q8=>sR fun _ C8=>Ym (iV c) (eh d4) (bE A fun X q9 A=>yY (yIa SL_24 (eh q0) (eh d4) b (rdI F0) q9) ?_)))
  obtain ⟨O,b⟩:=iLs b F0 q9
  refine yY (yCt O_22 e0 b F1 rfl) (Ya (iV c) e0 (Ya O.v e0 (wK C8 (sQ fun _ C9=>sR fun _ D0=>Ym O.v e0 (yY (yLen SL_22 e0 b (rdI F0)) (Ym (iV 0) rfl (wK D0 (blockQ fun _ D1=>?_))))))))
  refine bE A fun M3 D2 A=>?_
  refine loopQ (fun s a w=>∃ (d5 d6:L2) (x:Int) (f:FV) (c0 c1:List Hdr),(d5,d6,x)=s∧a=fr 200 f∧f 4=(pB z)∧f 5=k.v∧f 16=iV c∧f 136=r.v∧f 137=iV (E.length:Int)∧f 138=iV c∧f 143=O.v∧f 144=iV (X.length:Int)∧f 145=iV x∧St w0 (imm S1 r.v E::imm I1 O.v X::ros) (row 22 rH j.v c0::fam 3 I1 c0 d5::row 3 I1 i.v p::row 22 rH h.v c1::fam 3 I1 c1 d6::box z 28 [j.v,i.v,h.v]::row 3 I1 k.v F::rs) w) D2 ⟨_,_,_,_,_,_,rfl,rfl,a7,p9,rfl,q0,q5,d4,rfl,rfl,rfl,(b.facts (allC F2 (allC F0 (allT (allT (allT allI))))))⟩ ?_
  rintro _ _ w D3 ⟨d5,d6,x,f,c0,c1,rfl,rfl,b0,i1,d7,i2,i3,i4,i5,i6,c2,b⟩ y D4 M4 D5 D6
  refine sR fun _ D7=>yY (ylss (eh c2) (eh i6)) (wK D7 (seqQ fun M5 D8 D9=>?_))
  refine cIf e0 y (fun E0 y=>?_) fun E0 y=>?_
  ·refine wp_skip (D8 _ _ (sQ fun _ E1=>blockQ fun E2 E3=>sR fun _ E4=>Ym (iV x) (eh c2) (bE y fun B r0 y=>yY (yIa SL_22 (eh i5) (eh c2) b (rdI F1) r0) (yY (yI O_3 e0 b (rdI F1) r0) (Ya (iV x) e0 (Ya (iV B) e0 (wK E4 ?_)))))))
   refine sR fun _ E5=>Ym (iV c) (eh d7) (Ym (iV x) e0 (yY (yneq e0 e0) (Ym (.bool (!(decide (c=x)))) e0 ?_)))
   refine joinW 3 (fun f w=>f 4=(pB z)∧f 5=k.v∧f 16=iV c∧f 18=iV x∧f 19=iV B∧f 136=r.v∧f 137=iV (E.length:Int)∧f 138=iV c∧f 143=O.v∧f 144=iV (X.length:Int)∧f 145=iV x∧f 156=.bool ((!(decide (c=x))) && (decide ((0:Int) < B)))∧St w0 (imm S1 r.v E::imm I1 O.v X::ros) (row 22 rH j.v c0::fam 3 I1 c0 d5::row 3 I1 i.v p::row 22 rH h.v c1::fam 3 I1 c1 d6::box z 28 [j.v,i.v,h.v]::row 3 I1 k.v F::rs) w) (fun r1=>?_) ?_
   ·rcases Bool.eq_false_or_eq_true (!(decide (c=x))) with W | W
    ·exact yG W (m_ (iV B) e0) (yG W (ygtr e0 rfl) (yY (pt_ (.bool (decide ((0:Int) < B))) e0 W e0) (r1 _ _ ⟨b0,i1,d7,rfl,rfl,i2,i3,i4,i5,i6,c2,(congrArg Value.bool (andT W)),b⟩)))
    exact gN W (gN W (yY (pf_ (.bool false) e0 W rfl) (r1 _ _ ⟨b0,i1,d7,rfl,rfl,i2,i3,i4,i5,i6,c2,(congrArg Value.bool (andF W)),b⟩)))
   rintro f w ⟨d,d8,g,r2,i7,d9,e1,e2,e3,e4,e5,E6,b⟩
   refine wK E5 ?_
   have r3:∀ (i8 i9:L2) (j0 j1:List Hdr) (f:FV) w,f 4=(pB z)→f 5=k.v→f 16=iV c→f 136=r.v→f 137=iV (E.length:Int)→f 138=iV c→f 143=O.v→f 144=iV (X.length:Int)→f 145=iV x→St w0 (imm S1 r.v E::imm I1 O.v X::ros) (row 22 rH j.v j0::fam 3 I1 j0 i8::row 3 I1 i.v p::row 22 rH h.v j1::fam 3 I1 j1 i9::box z 28 [j.v,i.v,h.v]::row 3 I1 k.v F::rs) w→dissect_coarsen_j47 x i8 i9=some D3→E2 .normal (fr 200 f) w:=by
    intro i8 i9 j0 j1 f w E7 E8 E9 F3 F4 F5 F6 F7 F8 b o
    refine E3 _ _ _ (E1 _ _ (wR (yY (yadd (eh F8) rfl) (Ym (iV (wa .i64 x 1)) e0 (wN ?_)))))
    cases o
    exact D5 _ _ _ rfl ⟨_,_,_,_,_,_,rfl,rfl,E7,E8,E9,F3,F4,F5,F6,F7,rfl,b⟩
   refine cB (eh E6) y (fun F9 y=>?_) fun F9 y=>?_
   ·refine bE y fun M6 e6 y=>bE y fun M7 j2 y=>bE y fun M8 e7 y=>bE y fun M9 j3 y=>bE y fun G0 b1 y=>bE y fun G1 b2 y=>?_
    refine joinN (n:=200) (fun f w=>∃ (j5 j6:List Hdr),f 4=(pB z)∧f 5=k.v∧f 16=iV c∧f 136=r.v∧f 137=iV (E.length:Int)∧f 138=iV c∧f 143=O.v∧f 144=iV (X.length:Int)∧f 145=iV x∧St w0 (imm S1 r.v E::imm I1 O.v X::ros) (row 22 rH j.v j5::fam 3 I1 j5 G0::row 3 I1 i.v p::row 22 rH h.v j6::fam 3 I1 j6 G1::box z 28 [j.v,i.v,h.v]::row 3 I1 k.v F::rs) w) (fun j7=>?_) ?_
    ·refine dR [0,1,3,0,0,16,0,0,128,384,0,1920,3968,0,8192,32640,0,65536,0,458752,983040,0,2097152,8388480,16777103,33554319,67108863,134217727] [14,15,22,23,25,27] 6 folM ?_
     replace b:=b.drew
     refine Dn [0,1,2,3,4,5,6,7,8,9,10,11,12,13,16,17,18,19,20,21] [] [14,22] (yR rfl (yFb FL_28_0 (eh d)) (yR rfl (yFb FL_26_0 e0) (yR rfl (lb_ j.v O_24 e0 b R5) (yR rfl (m_ (iV c) (eh g)) (yR rfl (yFb FL_28_2 (eh d)) (yR rfl (lb_ h.v O_24 e0 b R5) (yR rfl (m_ (iV c) (eh g)) (yR rfl (yFb FL_28_0 (eh d)) (yR rfl (yFb FL_26_0 e0) (yR rfl (lb_ j.v O_24 e0 b R5) (yR rfl (m_ (iV c) (eh g)) ?_)))))))))))
     obtain ⟨N0,C⟩:=b.famI R1 e6
     refine yR rfl (yIa SLH_24 e0 e0 b rO0 C) (yR rfl (yF1 O_22 e0 b rO0 C rfl) (yR rfl (m_ (iV x) (eh r2)) (yR rfl (yFb FL_28_2 (eh d)) (yR rfl (lb_ h.v O_24 e0 b R5) (yR rfl (m_ (iV c) (eh g)) ?_)))))
     obtain ⟨N1,q⟩:=b.famI R4 e7
     refine yR rfl (yIa SLH_24 e0 e0 b rO3 q) (yR rfl (yF1 O_22 e0 b rO3 q rfl) (yR rfl (m_ (iV B) (eh i7)) (Rn QSn ?_)))
     refine Lc rfl ?_ (Lc1 rfl ?_)
     ·refine LH wn (rLt (n:=1) (l:=[x]) b SL_22 [iV x] (bp1 e0) rfl rfl (mks1 (cs:=[iV x]) rfl mkI mks0)) fun G2 w b=>Dn [] [0,1,2,3,4,5,6,7,8,9,10,11,12,16,17,18,19,20,21] [15,22] (Rn (yS rfl (yFb FL_28_0 (eh d)) (yS rfl (yFb FL_26_0 e0) (yS rfl (lb_ j.v O_24 e0 b R6) (yS rfl (m_ (iV c) (eh g)) (yS rfl (yFb FL_28_2 (eh d)) (yS rfl (lb_ h.v O_24 e0 b R6) (yS rfl (m_ (iV c) (eh g)) (yS rfl (yFb FL_28_0 (eh d)) (yS rfl (yFb FL_26_0 e0) (yS rfl (lb_ j.v O_24 e0 b R6) (yS rfl (m_ (iV c) (eh g)) (yS rfl (yIa SLH_24 e0 e0 b rO1 C) (yS rfl (yF1 O_22 e0 b rO1 C rfl) (yS rfl (yFb FL_28_2 (eh d)) (yS rfl (lb_ h.v O_24 e0 b R6) (yS rfl (m_ (iV c) (eh g)) (yS rfl (yIa SLH_24 e0 e0 b rO4 q) (yS rfl (yF1 O_22 e0 b rO4 q rfl) (yS rfl (m_ (iV B) (eh i7)) QSn))))))))))))))))))) ?_)
      refine Lc rfl ?_ (Lc1 rfl ?_)
      ·replace b:=b.pk 3 [2,0,0] rfl
       replace b:=b.foc C e6
       refine LH wn (rAp b SL_22 e0 e0 rO2 j2) fun Z w b=>Dn [] [0,1,2,3,4,5,6,16,17,18,19,20,21] [22] (Rn (yS rfl (yFb FL_28_0 (eh d)) (yS rfl (yFb FL_26_0 e0) (yS rfl (lb_ j.v O_24 e0 b R7) (yS rfl (m_ (iV c) (eh g)) (yS rfl (yFb FL_28_2 (eh d)) (yS rfl (lb_ h.v O_24 e0 b R7) (yS rfl (m_ (iV c) (eh g)) (yS rfl (yFb FL_28_2 (eh d)) (yS rfl (lb_ h.v O_24 e0 b R7) (yS rfl (m_ (iV c) (eh g)) (yS rfl (yIa SLH_24 e0 e0 b rO5 q) (yS rfl (yF1 O_22 e0 b rO5 q rfl) (yS rfl (m_ (iV B) (eh i7)) QSn))))))))))))) ?_)
       refine Lc1 rfl ?_
       refine LH wn (rLt (n:=1) (l:=[B]) b SL_22 [iV B] (bp1 e0) rfl rfl (mks1 (cs:=[iV B]) rfl mkI mks0)) fun r4 w b=>Dn [] [0,1,2,3,4,5,6,16,17,18,19,20] [23] (Rn (yS rfl (yFb FL_28_0 (eh d)) (yS rfl (yFb FL_26_0 e0) (yS rfl (lb_ j.v O_24 e0 b R8) (yS rfl (m_ (iV c) (eh g)) (yS rfl (yFb FL_28_2 (eh d)) (yS rfl (lb_ h.v O_24 e0 b R8) (yS rfl (m_ (iV c) (eh g)) (yS rfl (yFb FL_28_2 (eh d)) (yS rfl (lb_ h.v O_24 e0 b R8) (yS rfl (m_ (iV c) (eh g)) (yS rfl (yIa SLH_24 e0 e0 b rO6 q) (yS rfl (yF1 O_22 e0 b rO6 q rfl) QSn)))))))))))) ?_)
       refine Lc1 rfl ?_
       replace b:=(b.pk 8 [7,0,0,0,0,0,0,0] rfl).foc q e7
       refine LH wn (rAp b SL_22 e0 e0 rO2 j3) fun a0 w b=>Dn [24] [0,1,2,3,4,5,6] [25] ?_
       obtain ⟨r5,H⟩:=setI_len (u:=Z) b1 (b.famLx (mtR (mtR (mtR (mtR mhR)))))
       refine yR rfl (yIs SLH_24 e0 e0 b rO6 H) (Rn (yS rfl (yFb FL_28_0 (eh d)) (yS rfl (yFb FL_26_0 e0) (yS rfl (lb_ j.v O_24 e0 b R9) (yS rfl (m_ (iV c) (eh g)) (yS rfl (yFb FL_28_2 (eh d)) (yS rfl (lb_ h.v O_24 e0 b R9) (yS rfl (m_ (iV c) (eh g)) QSn))))))) ?_)
       refine Lc1 rfl ?_
       replace b:=b.pk 7 [6,0,0,0,0,0,0] rfl
       refine LT wn (r_sti (cs:=[Z.v]) b O_22 rfl e0 e0 rfl (mkF rfl) H) fun w b=>?_
       replace b:=(b.pk 6 [4,4,0,0,0,0] rfl).unfS C H b1
       refine Dn [26] [4,5,6] [27] ?_
       obtain ⟨r6,I⟩:=setI_len (u:=a0) b2 (b.famLx (mtR (mtR (mtR mhR))))
       refine yR rfl (yIs SLH_24 e0 e0 b rO7 I) (Rn (yS rfl (yFb FL_28_2 (eh d)) (yS rfl (lb_ h.v O_24 e0 b R8) (yS rfl (m_ (iV c) (eh g)) QSn))) ?_)
       refine Lc1 rfl ?_
       replace b:=b.pk 8 [7,0,0,0,0,0,0,0] rfl
       refine LT wn (r_sti (cs:=[a0.v]) b O_22 rfl e0 e0 rfl (mkF rfl) I) fun w b=>?_
       replace b:=(b.pk 5 [3,3,0,0,0] rfl).unfS q I b2
       exact Dz [] [] (Rn QSn (j7 _ _ ⟨_,_,d,d8,g,d9,e1,e2,e3,e4,e5,(b.pk 9 [3,2,4,1,0,2,2] rfl)⟩))
      refine LH wn (rLt (n:=1) (l:=[B]) b SL_22 [iV B] (bp1 e0) rfl rfl (mks1 (cs:=[iV B]) rfl mkI mks0)) fun r4 w b=>Dn [] [0,1,2,3,4,5,6,7,8,9,10,11,12,16,17,18,19,20] [15] (Rn (yS rfl (yFb FL_28_0 (eh d)) (yS rfl (yFb FL_26_0 e0) (yS rfl (lb_ j.v O_24 e0 b R7) (yS rfl (m_ (iV c) (eh g)) (yS rfl (yFb FL_28_2 (eh d)) (yS rfl (lb_ h.v O_24 e0 b R7) (yS rfl (m_ (iV c) (eh g)) (yS rfl (yFb FL_28_0 (eh d)) (yS rfl (yFb FL_26_0 e0) (yS rfl (lb_ j.v O_24 e0 b R7) (yS rfl (m_ (iV c) (eh g)) (yS rfl (yIa SLH_24 e0 e0 b rO2 C) (yS rfl (yF1 O_22 e0 b rO2 C rfl) (yS rfl (yFb FL_28_2 (eh d)) (yS rfl (lb_ h.v O_24 e0 b R7) (yS rfl (m_ (iV c) (eh g)) (yS rfl (yIa SLH_24 e0 e0 b rO5 q) (yS rfl (yF1 O_22 e0 b rO5 q rfl) QSn)))))))))))))))))) ?_)
      refine Lc1 rfl ?_
      replace b:=(b.pk 4 [3,0,0,0] rfl).foc C e6
      refine LH wn (rAp b SL_22 e0 e0 rO3 j2) fun Z w b=>Dn [] [0,1,2,3,4,5,6,16,17,18,19,20] [23] (Rn (yS rfl (yFb FL_28_0 (eh d)) (yS rfl (yFb FL_26_0 e0) (yS rfl (lb_ j.v O_24 e0 b R8) (yS rfl (m_ (iV c) (eh g)) (yS rfl (yFb FL_28_2 (eh d)) (yS rfl (lb_ h.v O_24 e0 b R8) (yS rfl (m_ (iV c) (eh g)) (yS rfl (yFb FL_28_2 (eh d)) (yS rfl (lb_ h.v O_24 e0 b R8) (yS rfl (m_ (iV c) (eh g)) (yS rfl (yIa SLH_24 e0 e0 b rO6 q) (yS rfl (yF1 O_22 e0 b rO6 q rfl) QSn)))))))))))) ?_)
      refine Lc1 rfl ?_
      replace b:=(b.pk 8 [7,0,0,0,0,0,0,0] rfl).foc q e7
      refine LH wn (rAp b SL_22 e0 e0 rO4 j3) fun a0 w b=>Dn [24] [0,1,2,3,4,5,6] [25] ?_
      obtain ⟨r5,H⟩:=setI_len (u:=Z) b1 (b.famLx (mtR (mtR (mtR mhR))))
      refine yR rfl (yIs SLH_24 e0 e0 b rO6 H) (Rn (yS rfl (yFb FL_28_0 (eh d)) (yS rfl (yFb FL_26_0 e0) (yS rfl (lb_ j.v O_24 e0 b R9) (yS rfl (m_ (iV c) (eh g)) (yS rfl (yFb FL_28_2 (eh d)) (yS rfl (lb_ h.v O_24 e0 b R9) (yS rfl (m_ (iV c) (eh g)) QSn))))))) ?_)
      refine Lc1 rfl ?_
      replace b:=b.pk 7 [6,0,0,0,0,0,0] rfl
      refine LT wn (r_sti (cs:=[Z.v]) b O_22 rfl e0 e0 rfl (mkF rfl) H) fun w b=>?_
      replace b:=(b.pk 5 [3,3,0,0,0] rfl).unfS C H b1
      refine Dn [26] [4,5,6] [27] ?_
      obtain ⟨r6,I⟩:=setI_len (u:=a0) b2 (b.famLx (mtR (mtR (mtR mhR))))
      refine yR rfl (yIs SLH_24 e0 e0 b rO7 I) (Rn (yS rfl (yFb FL_28_2 (eh d)) (yS rfl (lb_ h.v O_24 e0 b R8) (yS rfl (m_ (iV c) (eh g)) QSn))) ?_)
      refine Lc1 rfl ?_
      replace b:=b.pk 8 [7,0,0,0,0,0,0,0] rfl
      refine LT wn (r_sti (cs:=[a0.v]) b O_22 rfl e0 e0 rfl (mkF rfl) I) fun w b=>?_
      replace b:=(b.pk 5 [3,3,0,0,0] rfl).unfS q I b2
      exact Dz [] [] (Rn QSn (j7 _ _ ⟨_,_,d,d8,g,d9,e1,e2,e3,e4,e5,(b.pk 9 [3,2,4,1,0,2,2] rfl)⟩))
     refine LH wn (rLt (n:=1) (l:=[B]) b SL_22 [iV B] (bp1 e0) rfl rfl (mks1 (cs:=[iV B]) rfl mkI mks0)) fun r4 w b=>Dn [] [0,1,2,3,4,5,6,7,8,9,10,11,12,13,16,17,18,19,20] [14] (Rn (yS rfl (yFb FL_28_0 (eh d)) (yS rfl (yFb FL_26_0 e0) (yS rfl (lb_ j.v O_24 e0 b R6) (yS rfl (m_ (iV c) (eh g)) (yS rfl (yFb FL_28_2 (eh d)) (yS rfl (lb_ h.v O_24 e0 b R6) (yS rfl (m_ (iV c) (eh g)) (yS rfl (yFb FL_28_0 (eh d)) (yS rfl (yFb FL_26_0 e0) (yS rfl (lb_ j.v O_24 e0 b R6) (yS rfl (m_ (iV c) (eh g)) (yS rfl (yIa SLH_24 e0 e0 b rO1 C) (yS rfl (yF1 O_22 e0 b rO1 C rfl) (yS rfl (m_ (iV x) (eh r2)) (yS rfl (yFb FL_28_2 (eh d)) (yS rfl (lb_ h.v O_24 e0 b R6) (yS rfl (m_ (iV c) (eh g)) (yS rfl (yIa SLH_24 e0 e0 b rO4 q) (yS rfl (yF1 O_22 e0 b rO4 q rfl) QSn))))))))))))))))))) ?_)
     refine Lc1 rfl ?_
     refine LH wn (rLt (n:=1) (l:=[x]) b SL_22 [iV x] (bp1 e0) rfl rfl (mks1 (cs:=[iV x]) rfl mkI mks0)) fun G2 w b=>Dn [] [0,1,2,3,4,5,6,7,8,9,10,11,12,16,17,18,19,20] [15] (Rn (yS rfl (yFb FL_28_0 (eh d)) (yS rfl (yFb FL_26_0 e0) (yS rfl (lb_ j.v O_24 e0 b R7) (yS rfl (m_ (iV c) (eh g)) (yS rfl (yFb FL_28_2 (eh d)) (yS rfl (lb_ h.v O_24 e0 b R7) (yS rfl (m_ (iV c) (eh g)) (yS rfl (yFb FL_28_0 (eh d)) (yS rfl (yFb FL_26_0 e0) (yS rfl (lb_ j.v O_24 e0 b R7) (yS rfl (m_ (iV c) (eh g)) (yS rfl (yIa SLH_24 e0 e0 b rO2 C) (yS rfl (yF1 O_22 e0 b rO2 C rfl) (yS rfl (yFb FL_28_2 (eh d)) (yS rfl (lb_ h.v O_24 e0 b R7) (yS rfl (m_ (iV c) (eh g)) (yS rfl (yIa SLH_24 e0 e0 b rO5 q) (yS rfl (yF1 O_22 e0 b rO5 q rfl) QSn)))))))))))))))))) ?_)
     refine Lc1 rfl ?_
     replace b:=(b.pk 4 [3,0,0,0] rfl).foc C e6
     refine LH wn (rAp b SL_22 e0 e0 rO2 j2) fun Z w b=>Dn [] [0,1,2,3,4,5,6,16,17,18,19,20] [23] (Rn (yS rfl (yFb FL_28_0 (eh d)) (yS rfl (yFb FL_26_0 e0) (yS rfl (lb_ j.v O_24 e0 b R8) (yS rfl (m_ (iV c) (eh g)) (yS rfl (yFb FL_28_2 (eh d)) (yS rfl (lb_ h.v O_24 e0 b R8) (yS rfl (m_ (iV c) (eh g)) (yS rfl (yFb FL_28_2 (eh d)) (yS rfl (lb_ h.v O_24 e0 b R8) (yS rfl (m_ (iV c) (eh g)) (yS rfl (yIa SLH_24 e0 e0 b rO6 q) (yS rfl (yF1 O_22 e0 b rO6 q rfl) QSn)))))))))))) ?_)
     refine Lc1 rfl ?_
     replace b:=(b.pk 8 [7,0,0,0,0,0,0,0] rfl).foc q e7
     refine LH wn (rAp b SL_22 e0 e0 rO5 j3) fun a0 w b=>Dn [24] [0,1,2,3,4,5,6] [25] ?_
     obtain ⟨r5,H⟩:=setI_len (u:=Z) b1 (b.famLx (mtR (mtR (mtR mhR))))
     refine yR rfl (yIs SLH_24 e0 e0 b rO6 H) (Rn (yS rfl (yFb FL_28_0 (eh d)) (yS rfl (yFb FL_26_0 e0) (yS rfl (lb_ j.v O_24 e0 b R9) (yS rfl (m_ (iV c) (eh g)) (yS rfl (yFb FL_28_2 (eh d)) (yS rfl (lb_ h.v O_24 e0 b R9) (yS rfl (m_ (iV c) (eh g)) QSn))))))) ?_)
     refine Lc1 rfl ?_
     replace b:=b.pk 7 [6,0,0,0,0,0,0] rfl
     refine LT wn (r_sti (cs:=[Z.v]) b O_22 rfl e0 e0 rfl (mkF rfl) H) fun w b=>?_
     replace b:=(b.pk 5 [3,3,0,0,0] rfl).unfS C H b1
     refine Dn [26] [4,5,6] [27] ?_
     obtain ⟨r6,I⟩:=setI_len (u:=a0) b2 (b.famLx (mtR (mtR (mtR mhR))))
     refine yR rfl (yIs SLH_24 e0 e0 b rO7 I) (Rn (yS rfl (yFb FL_28_2 (eh d)) (yS rfl (lb_ h.v O_24 e0 b R8) (yS rfl (m_ (iV c) (eh g)) QSn))) ?_)
     refine Lc1 rfl ?_
     replace b:=b.pk 8 [7,0,0,0,0,0,0,0] rfl
     refine LT wn (r_sti (cs:=[a0.v]) b O_22 rfl e0 e0 rfl (mkF rfl) I) fun w b=>?_
     replace b:=(b.pk 5 [3,3,0,0,0] rfl).unfS q I b2
     exact Dz [] [] (Rn QSn (j7 _ _ ⟨_,_,d,d8,g,d9,e1,e2,e3,e4,e5,(b.pk 9 [3,2,4,1,0,2,2] rfl)⟩))
    rintro f w ⟨j5,j6,G3,G4,G5,G6,G7,G8,G9,H0,H1,b⟩
    exact r3 _ _ _ _ _ _ G3 G4 G5 G6 G7 G8 G9 H0 H1 b y
   exact wp_skip (r3 _ _ _ _ _ _ d d8 g d9 e1 e2 e3 e4 e5 b y)
  refine wp_exit (D9 _ _ _ rfl ?_)
  cases y
  refine D6 _ _ _ _ rfl rfl ?_
  obtain rfl:=D4 _ rfl
  refine D1 _ _ _ (C9 _ _ (sR fun _ H2=>yY (yFb FL_28_2 (eh b0)) (yY (lb_ h.v O_24 e0 b R5) (Ym (iV c) (eh d7) (bE A fun N2 r7 A=>?_)))))
  obtain ⟨N3,j8⟩:=b.famI R4 r7
  refine yY (yIa SLH_24 e0 e0 b rO3 j8) (yY (yF1 O_22 e0 b rO3 j8 rfl) (bE A fun N4 H3 A=>?_))
  have c3:=b.guest1 (rdF (mtR (mtR (mtR (mtR mhR)))) j8 r7)
  refine yC (yCall FN_52 (a1 e0)) (dissect_weights_ok H3 F0 c3) ?_
  clear c3
  rintro _ w ⟨rfl,c3⟩
  replace b:=b.back c3
  clear c3
  refine ⟨_,rfl,?_⟩
  refine yY (ynot e0) (wK H2 ?_)
  rcases iteS A with ⟨j9,A⟩ | ⟨j9,A⟩
  ·refine condF e0 (nF j9) (wp_skip (q8 _ _ _ (C6 _ _ (wR (yY (yadd (eh i4) rfl) (Ym (iV (wa .i64 c 1)) e0 (wN ?_)))))))
   cases A
   exact C1 _ _ _ rfl ⟨_,_,_,_,_,_,rfl,rfl,b0,i1,i2,i3,rfl,(b.facts (allC F0 (allT (allT allI))))⟩
  refine condT e0 (nT (bfalse j9)) (sR fun _ H4=>yY (ybuild (us:=[hnil.v,hnil.v,hnil.v]) [] SO_28 bp0 rfl) (yT (r_stbn (vals':=[hnil.v,hnil.v,hnil.v]) (us:=[hnil.v,hnil.v,hnil.v]) (b.pk 6 [5,0,0,0,0,0] rfl) ST_28 (eh b0) e0 rfl rfl (one_of rfl) rfl) fun w b=>Ya hnil.v rfl (Ya (.bool false) rfl (wK H4 (wp_ret (q8 _ _ _ (C7 _ _ _ rfl ?_)))))))
  cases A
  refine q7 _ _ _ _ rfl rfl ?_
  obtain rfl:=q6 _ rfl
  refine p8 _ _ _ (B8 _ _ _ rfl ?_)
  cases o
  replace b:=(((((((b.rowNh 22 rH).fNew 3 I1).pk 2 [1,0] rfl).immNh I1).rowNh 22 rH).fNew 3 I1).pk 2 [1,0] rfl).rowNh 3 I1
  exact e9 _ _ _ (fin3r Tryz.results42 (rcs2 rfl b0 b R5 ST_28 rfl) ⟨rfl,rfl⟩ ⟨rfl,rfl⟩ ⟨_,_,_,_,_,_,rfl,((b.pk 12 [3,3,1,1,0] rfl).facts (allC F0 (allT (allT (allT allI)))))⟩)
 refine wp_exit (C4 _ _ _ rfl ?_)
 cases A
 refine q7 _ _ _ _ rfl rfl ?_
 obtain rfl:=q6 _ rfl
 refine p8 _ _ _ (B7 _ _ (seqQ fun N5 H5 H6=>sR fun _ H7=>yY (yFb FL_28_1 (eh a7)) (yY (lb_ i.v O_22 e0 b R5) (bE o fun N6 H8 o=>?_))))
 replace b:=(b.pk 3 [2,0,0] rfl).fz
 refine yC (yCall FN_52 (a1 e0)) (dissect_weights_ok H8 F0 b) ?_
 rintro _ w ⟨rfl,b⟩
 refine ⟨_,rfl,?_⟩
 refine yY (ynot e0) (wK H7 ?_)
 rcases iteS o with ⟨k0,o⟩ | ⟨k0,o⟩
 ·refine condF e0 (nF k0) (wp_skip (H5 _ _ (sR fun _ H9=>yY (lbs_ [j.v,i.v,h.v] ST_28 (eh a7) b R4) (Ym k.v (eh p9) (yT (r_stbn (vals':=[j.v,i.v,h.v]) (us:=[j.v,i.v,h.v]) (b.pk 5 [4,0,0,0,0] rfl) ST_28 (eh a7) e0 rfl rfl (one_of rfl) rfl) fun w b=>Ya k.v e0 (Ya (.bool true) rfl (wK H9 (wp_ret ?_))))))))
  cases o
  exact e9 _ _ _ (fin3r Tryz.results42 (rcs2 rfl a7 b R0 ST_28 rfl) ⟨rfl,rfl⟩ ⟨rfl,rfl⟩ ⟨_,_,_,_,_,_,rfl,((b.pk 6 [1,1,1,1,1] rfl).facts (allC F0 (allT (allT allI))))⟩)
 refine condT e0 (nT (bfalse k0)) (sR fun _ I0=>yY (ybuild (us:=[hnil.v,hnil.v,hnil.v]) [] SO_28 bp0 rfl) (yT (r_stbn (vals':=[hnil.v,hnil.v,hnil.v]) (us:=[hnil.v,hnil.v,hnil.v]) (b.pk 5 [4,0,0,0,0] rfl) ST_28 (eh a7) e0 rfl rfl (one_of rfl) rfl) fun w b=>Ya hnil.v rfl (Ya (.bool false) rfl (wK I0 (wp_ret (H6 _ _ _ rfl ?_))))))
 cases o
 replace b:=(((((((b.rowNh 22 rH).fNew 3 I1).pk 2 [1,0] rfl).immNh I1).rowNh 22 rH).fNew 3 I1).pk 2 [1,0] rfl).rowNh 3 I1
 exact e9 _ _ _ (fin3r Tryz.results42 (rcs2 rfl a7 b R5 ST_28 rfl) ⟨rfl,rfl⟩ ⟨rfl,rfl⟩ ⟨_,_,_,_,_,_,rfl,((b.pk 11 [3,3,1,1,0] rfl).facts (allC F0 (allT (allT (allT allI)))))⟩)
theorem dissect_refine_ok {c5:L2} {c6:LI} {c7:L2} {O:LI} {q j o g:Hdr} {out:LI} (m:dissect_refine c5 c6 c7 O=some out) (c8:imm S1 q.v c5∈ros) (A:imm I1 j.v c6∈ros) (V:imm S1 o.v c7∈ros) (b:St w0 ros (row 3 I1 g.v O::rs) w):
  Calls Tryz.prog 74 #[.agg #[q.v,j.v,o.v],g.v] w (fun e w=>e=.returned (.tuple #[])∧St w0 ros (row 3 I1 g.v out::rs) w):=by
 refine enterQ Tryz.func74 rfl Tryz.ntmps74 rfl fun Q c9=>sR fun _ i4=>yBb (r_box (vals:=[q.v,j.v,o.v]) b e0 rfl) fun k w b=>wK i4 (sR fun _ i5=>yBb (rAl b ZT_129) fun l w b=>?_)
 replace b:St w0 ros (row 129 I1 (arrH l 2).v [0,0]::box k 28 [q.v,j.v,o.v]::row 3 I1 g.v O::rs) w:=b.boxRow rfl rfl rfl
 refine wK i5 (sQ fun _ i6=>sR fun _ i7=>Ym g.v e0 (yY (yLen SL_22 e0 b rO2) (Ym (iV 0) rfl (wK i7 (blockQ fun _ i8=>bE m fun t8 i9 m=>?_)))))
 refine loopQ (fun s a w=>∃ (a8:LI) (E:Int) (f:FV),(a8,E)=s∧a=fr 133 f∧f 1=g.v∧f 2=(pB k)∧f 4=.pointer (arrH l 2).a∧f 14=g.v∧f 15=iV (O.length:Int)∧f 16=iV E∧St w0 ros (row 3 I1 g.v O::box k 28 [q.v,j.v,o.v]::row 129 I1 (arrH l 2).v a8::rs) w) i9 ⟨_,_,_,rfl,rfl,rfl,rfl,rfl,rfl,rfl,rfl,(b.pk 3 [2,1,0] rfl)⟩ ?_
 rintro _ _ w t9 ⟨a8,E,f,rfl,rfl,d0,a9,I,d1,d2,W,b⟩ p j0 u0 j1 j2
 refine sR fun _ j3=>yY (ylss (eh W) (eh d2)) (wK j3 (seqQ fun u1 j4 j5=>?_))
 refine cIf e0 p (fun j6 p=>?_) fun j6 p=>?_
 ·refine wp_skip (j4 _ _ (sQ fun _ j7=>blockQ fun _ j8=>sR fun _ j9=>Ym (iV E) (eh W) (bE p fun d3 d4 p=>yY (yIa SL_22 (eh d1) (eh W) b rO0 d4) (yY (yI O_3 e0 b rO0 d4) (Ya (iV E) e0 (Ya (iV d3) e0 (wK j9 ?_)))))))
  refine bE p fun k0 d5 p=>bE p fun k5 d6 p=>bE p fun u2 d7 p=>dR [0,1,3,0,8,0,56,120,255,511,1023] [10] 1 folM ?_
  replace b:=b.drew
  refine Dn [0,1,2,3,4,5,6,7,8,9] [] [10] (yR rfl (m_ (iV d3) e0) (yR rfl (yIaA AR_129 (eh I) e0 b rO2 rfl d5) (yR rfl (yI O_3 e0 b rO2 d5) (yR rfl (yFb FL_28_1 (eh a9)) (yR rfl (lb_ j.v O_22 e0 b R1) (yR rfl (m_ (iV E) e0) (yR rfl (yIa SL_22 e0 e0 b (rdI A) d6) (yR rfl (yI O_3 e0 b (rdI A) d6) (yR rfl (yadd e0 e0) (yR rfl (yIsA AR_129 (eh I) e0 b rO2 rfl d7) (Rn QSn ?_)))))))))))
  refine Lc1 rfl ?_
  replace b:=b.pk 3 [2,0,0] rfl
  refine LT wn (r_sti (cs:=[iV (wa .i64 k0 k5)]) b O_3 rfl e0 e0 rfl mkI d7) fun w b=>Dz [] [] (Rn QSn (j8 _ _ _ (j7 _ _ (wR (yY (yadd (eh W) rfl) (Ym (iV (wa .i64 E 1)) e0 (wN ?_)))))))
  cases p
  exact j1 _ _ _ rfl ⟨_,_,_,rfl,rfl,d0,a9,I,d1,d2,rfl,(b.pk 3 [1,1,0] rfl)⟩
 refine wp_exit (j5 _ _ _ rfl ?_)
 cases p
 refine j2 _ _ _ _ rfl rfl ?_
 obtain rfl:=j0 _ rfl
 refine i8 _ _ _ (i6 _ _ (sR fun _ k6=>bE m fun B d8 m=>yY (yIaA AR_129 (eh I) rfl b rO2 rfl d8) (yY (yI O_3 e0 b rO2 d8) (bE m fun C d9 m=>yY (yIaA AR_129 (eh I) rfl b rO2 rfl d9) (yY (yI O_3 e0 b rO2 d9) (yY (yadd e0 e0) (Ya (iV (wa .i64 B C)) e0 (wK k6 ?_))))))))
 refine sR fun _ k7=>Ym (iV 0) rfl (wK k7 (blockQ fun _ e1=>bE m fun u3 k8 m=>?_))
 refine loopQ (fun s a w=>∃ (D b0:LI) (y:Int) (f:FV),(D,b0,y)=s∧a=fr 133 f∧f 1=g.v∧f 2=(pB k)∧f 4=.pointer (arrH l 2).a∧f 7=iV (wa .i64 B C)∧f 37=iV y∧St w0 ros (row 3 I1 g.v D::box k 28 [q.v,j.v,o.v]::row 129 I1 (arrH l 2).v b0::rs) w) k8 ⟨_,_,_,_,rfl,rfl,d0,a9,I,rfl,rfl,b⟩ ?_
 rintro _ _ w u4 ⟨D,b0,y,f,rfl,rfl,e2,k9,l0,l1,e3,b⟩ r e4 u5 l2 e5
 refine sR fun _ l3=>yY (ylss (eh e3) rfl) (wK l3 (seqQ fun u6 l4 l5=>?_))
 refine cIf e0 r (fun l6 r=>?_) fun l6 r=>?_
 ·refine wp_skip (l4 _ _ (seqQ fun u7 l7 l8=>blockQ fun _ e6=>sR fun _ l9=>Ya (.bool false) rfl (wK l9 (sQ fun _ m0=>sR fun _ m1=>Ym g.v (eh e2) (yY (yLen SL_22 e0 b rO0) ?_)))))
  refine Ym (iV 0) rfl (wK m1 (blockQ fun _ m2=>bE r fun u8 m3 r=>?_))
  refine loopQ (fun s a w=>∃ (J K:LI) (F:Bool) (h:Int) (f:FV),(J,K,F,h)=s∧a=fr 133 f∧f 1=g.v∧f 2=(pB k)∧f 4=.pointer (arrH l 2).a∧f 7=iV (wa .i64 B C)∧f 8=.bool F∧f 37=iV y∧f 39=g.v∧f 40=iV (D.length:Int)∧f 41=iV h∧St w0 ros (row 3 I1 g.v J::box k 28 [q.v,j.v,o.v]::row 129 I1 (arrH l 2).v K::rs) w) m3 ⟨_,_,_,_,_,rfl,rfl,e2,k9,l0,l1,rfl,e3,rfl,rfl,rfl,b⟩ ?_
  rintro _ _ w m4 ⟨J,K,F,h,f,rfl,rfl,e7,b1,e8,e9,f0,f1,f2,f3,X,b⟩ c m5 u9 m6 m7
  refine sR fun _ m8=>yY (ylss (eh X) (eh f3)) (wK m8 (seqQ fun v0 m9 n0=>?_))
  refine cIf e0 c (fun n2 c=>?_) fun n2 c=>?_
  ·refine wp_skip (m9 _ _ (sQ fun _ n3=>blockQ fun n4 n5=>sR fun _ n6=>Ym (iV h) (eh X) (bE c fun u f4 c=>yY (yIa SL_22 (eh f2) (eh X) b rO0 f4) (yY (yI O_3 e0 b rO0 f4) (Ya (iV h) e0 (Ya (iV u) e0 (wK n6 ?_)))))))
   refine sR fun _ n7=>Ya (iV 0) rfl (wK n7 (sQ fun _ n8=>sR fun _ n9=>yY (yFb FL_28_0 (eh b1)) (yY (yFb FL_26_0 e0) (yY (lb_ q.v O_24 e0 b R1) (Ym (iV h) e0 (bE c fun Z f5 c=>yY (yIa SL_24 e0 e0 b (rdI c8) f5) ?_))))))
   obtain ⟨a0,b⟩:=iLs b c8 f5
   refine yY (yCt O_22 e0 b F1 rfl) (yY (yLen SL_22 e0 b (rdI F0)) (Ym (iV 0) rfl (wK n9 (blockQ fun _ o0=>bE c fun v1 o2 c=>?_))))
   refine loopQ (fun s a w=>∃ (t x:Int) (f:FV),(t,x)=s∧a=fr 133 f∧f 1=g.v∧f 2=(pB k)∧f 4=.pointer (arrH l 2).a∧f 7=iV (wa .i64 B C)∧f 8=.bool F∧f 9=iV h∧f 10=iV u∧f 11=iV t∧f 37=iV y∧f 39=g.v∧f 40=iV (D.length:Int)∧f 41=iV h∧f 51=a0.v∧f 52=iV (Z.length:Int)∧f 53=iV x∧St w0 (imm I1 a0.v Z::ros) (row 3 I1 g.v J::box k 28 [q.v,j.v,o.v]::row 129 I1 (arrH l 2).v K::rs) w) o2 ⟨_,_,_,rfl,rfl,e7,b1,e8,e9,f0,rfl,rfl,rfl,f1,f2,f3,X,rfl,rfl,rfl,(b.facts (allC F0 (allT (allT allI))))⟩ ?_
   rintro _ _ w o3 ⟨t,x,f,rfl,rfl,R,G,S,T,a1,H,L,a2,a3,a4,a5,a6,b2,b3,U,b⟩ i o4 v2 o5 o6
   refine sR fun _ o7=>yY (ylss (eh U) (eh b3)) (wK o7 (seqQ fun v3 o8 o9=>?_))
   refine cIf e0 i (fun p0 i=>?_) fun p0 i=>?_
   ·refine wp_skip (o8 _ _ (sQ fun _ p1=>blockQ fun p2 p3=>sR fun _ p4=>Ym (iV x) (eh U) (bE i fun f6 f7 i=>yY (yIa SL_22 (eh b2) (eh U) b (rdI F0) f7) (yY (yI O_3 e0 b (rdI F0) f7) (Ya (iV x) e0 (Ya (iV f6) e0 (wK p4 ?_)))))))
    refine sR fun _ p5=>Ym g.v (eh R) (Ym (iV f6) e0 (bE i fun v4 f8 i=>yY (yIa SL_22 e0 e0 b rO0 f8) (yY (yI O_3 e0 b rO0 f8) (Ym (iV u) (eh L) (yY (yneq e0 e0) (wK p5 ?_))))))
    have f9:∀ (b4:Int) (f:FV) w,f 1=g.v→f 2=(pB k)→f 4=.pointer (arrH l 2).a→f 7=iV (wa .i64 B C)→f 8=.bool F→f 9=iV h→f 10=iV u→f 11=iV b4→f 37=iV y→f 39=g.v→f 40=iV (D.length:Int)→f 41=iV h→f 51=a0.v→f 52=iV (Z.length:Int)→f 53=iV x→St w0 (imm I1 a0.v Z::ros) (row 3 I1 g.v J::box k 28 [q.v,j.v,o.v]::row 129 I1 (arrH l 2).v K::rs) w→dissect_refine_j77 x b4=some o3→p2 .normal (fr 133 f) w:=by
     intro b4 f w p6 p7 p8 p9 q0 q4 q5 q6 q7 q8 q9 r0 r1 r2 r3 b m
     refine p3 _ _ _ (p1 _ _ (wR (yY (yadd (eh r3) rfl) (Ym (iV (wa .i64 x 1)) e0 (wN ?_)))))
     cases m
     exact o5 _ _ _ rfl ⟨_,_,_,rfl,rfl,p6,p7,p8,p9,q0,q4,q5,q6,q7,q8,q9,r0,r1,r2,rfl,b⟩
    rcases iteS i with ⟨b5,i⟩ | ⟨b5,i⟩
    ·refine condF e0 (nF (dT b5)) (wR (Ym (iV t) (eh a2) (yY (yFb FL_28_2 (eh G)) (yY (lb_ o.v O_24 e0 b R1) (Ym (iV h) (eh H) (bE i fun v5 g0 i=>yY (yIa SL_24 e0 e0 b (rdI (mtF V)) g0) ?_))))))
     obtain ⟨v6,b⟩:=iLs b (mtF V) g0
     exact yY (yCt O_22 e0 b F1 rfl) (Ym (iV x) e0 (bE i fun r4 g1 i=>yY (yIa SL_22 e0 e0 b (rdI F0) g1) (yY (yI O_3 e0 b (rdI F0) g1) (yY (ysub e0 e0) (Ya (iV (ws .i64 t r4)) e0 (wN (f9 _ _ _ R G S T a1 H L rfl a3 a4 a5 a6 b2 b3 U (b.facts (allC F2 (allT (allT (allT allI))))) i)))))))
    refine condT e0 (nT (dF b5)) (wR (Ym (iV t) (eh a2) (yY (yFb FL_28_2 (eh G)) (yY (lb_ o.v O_24 e0 b R1) (Ym (iV h) (eh H) (bE i fun v7 g2 i=>yY (yIa SL_24 e0 e0 b (rdI (mtF V)) g2) ?_))))))
    obtain ⟨v8,b⟩:=iLs b (mtF V) g2
    exact yY (yCt O_22 e0 b F1 rfl) (Ym (iV x) e0 (bE i fun r5 g3 i=>yY (yIa SL_22 e0 e0 b (rdI F0) g3) (yY (yI O_3 e0 b (rdI F0) g3) (yY (yadd e0 e0) (Ya (iV (wa .i64 t r5)) e0 (wN (f9 _ _ _ R G S T a1 H L rfl a3 a4 a5 a6 b2 b3 U (b.facts (allC F2 (allT (allT (allT allI))))) i)))))))
   refine wp_exit (o9 _ _ _ rfl ?_)
   cases i
   refine o6 _ _ _ _ rfl rfl ?_
   obtain rfl:=o4 _ rfl
   refine o0 _ _ _ (n8 _ _ (sQ fun _ r6=>bE c fun b6 z c=>?_))
   refine joinN (n:=133) (fun f w=>f 1=g.v∧f 2=(pB k)∧f 4=.pointer (arrH l 2).a∧f 7=iV (wa .i64 B C)∧f 8=.bool F∧f 9=iV h∧f 10=iV u∧f 37=iV y∧f 39=g.v∧f 40=iV (D.length:Int)∧f 41=iV h∧f 102=.bool b6∧St w0 ros (row 3 I1 g.v J::box k 28 [q.v,j.v,o.v]::row 129 I1 (arrH l 2).v K::rs) w) (fun g4=>?_) ?_
   ·rcases iteS z with ⟨d,z⟩ | ⟨d,z⟩
    ·refine bE z fun v9 g5 z=>bE z fun w1 g6 z=>?_
     have r7:=someI z
     refine dR [0,1,3,7,15,31,63,7,135,7,903,1927,4095,8191,7,16391,65535,131071] [] 0 folM ?_
     replace b:=b.drew
     refine Dz [0,1,2,3,4,5,6,7,8,9,10,11,12,13,14,15,16,17] [] (yR rfl (m_ (iV t) (eh a2)) (yR rfl (ygtr e0 rfl) (yR rfl (m_ (.bool (decide ((0:Int) < t))) e0) (Ry rfl rfl (wG (dT d)) (m_ (iV u) (eh L)) (Ry rfl rfl (wG (dT d)) (ysub rfl e0) (Ry rfl rfl (wG (dT d)) (yIaA AR_129 (eh S) e0 b rO2 rfl g5) (Ry rfl rfl (wG (dT d)) (yI O_3 e0 b rO2 g5) (Ry rfl rfl (wG (dT d)) (yFb FL_28_1 (eh G)) (Ry rfl rfl (wG (dT d)) (lb_ j.v O_22 e0 b R1) (Ry rfl rfl (wG (dT d)) (m_ (iV h) (eh H)) (Ry rfl rfl (wG (dT d)) (yIa SL_22 e0 e0 b (rdI (mtF A)) g6) (Ry rfl rfl (wG (dT d)) (yI O_3 e0 b (rdI (mtF A)) g6) (Ry rfl rfl (wG (dT d)) (yadd e0 e0) ?_)))))))))))))
     exact Ry rfl rfl (wG (dT d)) (ymul rfl e0) (Ry rfl rfl (wG (dT d)) (m_ (iV (wa .i64 B C)) (eh T)) (Ry rfl rfl (wG (dT d)) (ymul rfl e0) (Ry rfl rfl (wG (dT d)) (yleq e0 e0) (yR rfl (pt_ (.bool b6) e0 (dT d) (eqv r7 e0)) (Rn QSn (g4 _ _ ⟨R,G,S,T,a1,H,L,a3,a4,a5,a6,rfl,(b.facts (allT allI))⟩))))))
    have r8:=someI z
    refine dR [0,1,3,7,15,31,63,7,135,7,903,1927,4095,8191,7,16391,65535,131071] [] 0 folM ?_
    replace b:=b.drew
    refine Dz [0,1,2,3,4,5,6,7,8,9,10,11,12,13,14,15,16,17] [] (yR rfl (m_ (iV t) (eh a2)) (yR rfl (ygtr e0 rfl) (yR rfl (m_ (.bool (decide ((0:Int) < t))) e0) (Rx rfl rfl (wX (dF d)) (Rx rfl rfl (wX (dF d)) (Rx rfl rfl (wX (dF d)) (Rx rfl rfl (wX (dF d)) (Rx rfl rfl (wX (dF d)) (Rx rfl rfl (wX (dF d)) (Rx rfl rfl (wX (dF d)) (Rx rfl rfl (wX (dF d)) (Rx rfl rfl (wX (dF d)) (Rx rfl rfl (wX (dF d)) ?_)))))))))))))
    exact Rx rfl rfl (wX (dF d)) (Rx rfl rfl (wX (dF d)) (Rx rfl rfl (wX (dF d)) (Rx rfl rfl (wX (dF d)) (yR rfl (pf_ (.bool b6) e0 (dF d) (eqv r8 rfl)) (Rn QSn (g4 _ _ ⟨R,G,S,T,a1,H,L,a3,a4,a5,a6,rfl,(b.facts (allT allI))⟩))))))
   rintro f w ⟨b7,a7,N,g7,r9,b8,c0,g8,g9,h0,h1,s0,b⟩
   refine r6 _ _ ?_
   have h3:∀ (c1 c2:LI) (c3:Bool) (f:FV) w,f 1=g.v→f 2=(pB k)→f 4=.pointer (arrH l 2).a→f 7=iV (wa .i64 B C)→f 8=.bool c3→f 37=iV y→f 39=g.v→f 40=iV (D.length:Int)→f 41=iV h→St w0 ros (row 3 I1 g.v c1::box k 28 [q.v,j.v,o.v]::row 129 I1 (arrH l 2).v c2::rs) w→dissect_refine_j76 h c1 c2 c3=some m4→n4 .normal (fr 133 f) w:=by
    intro c1 c2 c3 f w s1 s2 s3 s4 s5 s6 s7 s8 s9 b m
    refine n5 _ _ _ (n3 _ _ (wR (yY (yadd (eh s9) rfl) (Ym (iV (wa .i64 h 1)) e0 (wN ?_)))))
    cases m
    exact m6 _ _ _ rfl ⟨_,_,_,_,_,rfl,rfl,s1,s2,s3,s4,s5,s6,s7,s8,rfl,b⟩
   refine cB (eh s0) c (fun t0 c=>?_) fun t0 c=>?_
   ·refine sR fun _ t1=>Ym g.v (eh b7) (Ym (iV h) (eh b8) (Ym (iV u) (eh c0) (yY (ysub rfl e0) (bE c fun w2 h5 c=>yY (yIs SL_22 e0 e0 b rO0 h5) (yT (r_sti (cs:=[iV (ws .i64 1 u)]) b O_3 rfl e0 e0 rfl mkI h5) fun w b=>Ya (.bool true) rfl (wK t1 (sQ fun _ t2=>?_)))))))
    refine bE c fun t3 h7 c=>bE c fun t4 h9 c=>bE c fun w3 i0 c=>dR [0,1,3,0,8,0,56,120,255,511,1023] [10] 1 folM ?_
    replace b:=b.drew
    refine Dn [0,1,2,3,4,5,6,7,8,9] [] [10] (yR rfl (m_ (iV u) (eh c0)) (yR rfl (yIaA AR_129 (eh N) e0 b rO2 rfl h7) (yR rfl (yI O_3 e0 b rO2 h7) (yR rfl (yFb FL_28_1 (eh a7)) (yR rfl (lb_ j.v O_22 e0 b R1) (yR rfl (m_ (iV h) (eh b8)) (yR rfl (yIa SL_22 e0 e0 b (rdI A) h9) (yR rfl (yI O_3 e0 b (rdI A) h9) (yR rfl (ysub e0 e0) (yR rfl (yIsA AR_129 (eh N) e0 b rO2 rfl i0) (Rn QSn ?_)))))))))))
    refine Lc1 rfl ?_
    replace b:=b.pk 3 [2,0,0] rfl
    refine LT wn (r_sti (cs:=[iV (ws .i64 t3 t4)]) b O_3 rfl e0 e0 rfl mkI i0) fun w b=>Dz [] [] (Rn QSn (t2 _ _ (bE c fun t5 i1 c=>bE c fun t6 i2 c=>bE c fun w4 i3 c=>dR [0,1,3,7,0,16,0,112,240,511,1023,2047] [11] 1 folM ?_)))
    replace b:=b.drew
    refine Dn [0,1,2,3,4,5,6,7,8,9,10] [] [11] (yR rfl (m_ (iV u) (eh c0)) (yR rfl (ysub rfl e0) (yR rfl (yIaA AR_129 (eh N) e0 b rO0 rfl i1) (yR rfl (yI O_3 e0 b rO0 i1) (yR rfl (yFb FL_28_1 (eh a7)) (yR rfl (lb_ j.v O_22 e0 b R2) (yR rfl (m_ (iV h) (eh b8)) (yR rfl (yIa SL_22 e0 e0 b (rdI A) i2) (yR rfl (yI O_3 e0 b (rdI A) i2) (yR rfl (yadd e0 e0) (yR rfl (yIsA AR_129 (eh N) e0 b rO0 rfl i3) (Rn QSn ?_))))))))))))
    refine Lc1 rfl ?_
    exact LT wn (r_sti (cs:=[iV (wa .i64 t5 t6)]) b O_3 rfl e0 e0 rfl mkI i3) fun w b=>Dz [] [] (Rn QSn (h3 _ _ _ _ _ b7 a7 N g7 rfl g8 g9 h0 h1 (b.pk 3 [1,1,0] rfl) c))
   exact wp_skip (h3 _ _ _ _ _ b7 a7 N g7 r9 g8 g9 h0 h1 b c)
  refine wp_exit (n0 _ _ _ rfl ?_)
  cases c
  refine m7 _ _ _ _ rfl rfl ?_
  obtain rfl:=m5 _ rfl
  refine m2 _ _ _ (m0 _ _ (sR fun _ t7=>Ym (.bool F) (eh f0) (yY (ynot e0) (wK t7 ?_))))
  rcases iteS r with ⟨c4,r⟩ | ⟨c4,r⟩
  ·refine condF e0 (nF c4) (wp_skip (e6 _ _ _ (l7 _ _ (wR (yY (yadd (eh f1) rfl) (Ym (iV (wa .i64 y 1)) e0 (wN ?_)))))))
   cases r
   exact l2 _ _ _ rfl ⟨_,_,_,_,rfl,rfl,e7,b1,e8,e9,rfl,b⟩
  refine condT e0 (nT (bfalse c4)) (wp_ret (e6 _ _ _ (l8 _ _ _ rfl ?_)))
  cases r
  refine e5 _ _ _ _ rfl rfl ?_
  obtain rfl:=e4 _ rfl
  refine e1 _ _ _ ?_
  cases m
  exact c9 _ _ _ (fin0r Tryz.results74 ⟨rfl,(b.pk 3 [0] rfl)⟩)
 refine wp_exit (l5 _ _ _ rfl ?_)
 cases r
 refine e5 _ _ _ _ rfl rfl ?_
 obtain rfl:=e4 _ rfl
 refine e1 _ _ _ ?_
 cases m
 exact c9 _ _ _ (fin0n Tryz.results74 ⟨rfl,(b.pk 3 [0] rfl)⟩)
end Go.Proofs.YthpeajepbffinaaGreat
