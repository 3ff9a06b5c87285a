/- Walks: each function computes its model, printed. -/
import Derived.Test.YthpeajepbffinaaGreatW0
namespace Go.Proofs.YthpeajepbffinaaGreat
open Go Sx M
set_option maxRecDepth 100000
set_option maxHeartbeats 40000000
set_option linter.unusedVariables false
attribute [local irreducible] wpList Code.wp Calls DR QR QS LA LS St
variable {w0:World} {ros:List Fact} {rs:List Res} {w:World}
theorem slices_Concat_int_ok {l:L2} {d:Hdr} {out:LI} (g:slices_Concat_int l=some out) (j:imm S1 d.v l∈ros) (b:St w0 ros rs w):
  Calls Tryz.prog 98 #[d.v] w (fun e w=>∃ (y:Hdr),e=.returned (y.v)∧St w0 ros (row 3 I1 y.v out::rs) w):=by
 refine enterQ Tryz.func98 rfl Tryz.ntmps98 rfl fun Q K=>sR fun _ L=>Ya hnil.v rfl (wK L (sR fun _ N=>Ya (iV 0) rfl (wK N (sQ fun _ O=>sR fun _ R=>?_))))
 refine Ym d.v e0 (yY (yLen SL_24 e0 b (rdI j)) (Ym (iV 0) rfl (wK R (blockQ fun S T=>bE g fun U V g=>?_))))
 have W:∀ (n:Int) (f:FV) w,f 0=d.v→f 3=iV n→St w0 ros rs w→n=U→S (.exit 0) (fr 36 f) w:=by
  intro n f w X Z b ho
  subst ho
  refine T _ _ _ (O _ _ (sR fun _ a0=>Ym (iV n) (eh Z) (bE g fun e7 a1 g=>yC (yCall FN_119 (a2 rfl e0)) (slices_Grow_int_ok a1 b) ?_)))
  rintro _ w ⟨a3,rfl,b⟩
  refine ⟨_,rfl,?_⟩
  refine Ya a3.v e0 (wK a0 (sQ fun _ a4=>sR fun _ a5=>Ym d.v (eh X) (yY (yLen SL_24 e0 b (rdI j)) (Ym (iV 0) rfl (wK a5 (blockQ fun a6 a7=>bE g fun a8 a9 g=>?_))))))
  have b0:∀ (r:LI) (m:Hdr) (f:FV) w,f 6=m.v→St w0 ros (row 3 I1 m.v r::rs) w→r=a8→a6 (.exit 2) (fr 36 f) w:=by
   intro r m f w b1 b ho
   subst ho
   refine a7 _ _ _ (a4 _ _ (sR fun _ b2=>Ym m.v (eh b1) (Ya m.v e0 (wK b2 (wp_ret ?_)))))
   cases g
   exact K _ _ _ (fin1r Tryz.results98 ⟨rfl,rfl⟩ ⟨_,rfl,b⟩)
  refine loopQ (fun s a w=>∃ (t:LI) (o:Int) (f:FV) (p:Hdr),(t,o)=s∧a=fr 36 f∧f 6=p.v∧f 25=d.v∧f 26=iV (l.length:Int)∧f 27=iV o∧St w0 ros (row 3 I1 p.v t::rs) w) a9 ⟨_,_,_,_,rfl,rfl,rfl,rfl,rfl,rfl,b⟩ ?_
  rintro _ _ w e8 ⟨t,o,f,p,rfl,rfl,z,A,B,u,b⟩ h b3 e9 b4 b5
  refine sR fun _ b6=>yY (ylss (eh u) (eh B)) (wK b6 (seqQ fun f0 b7 b8=>?_))
  refine cIf e0 h (fun b9 h=>?_) fun b9 h=>?_
  ·refine wp_skip (b7 _ _ (sQ fun _ c0=>blockQ fun _ c1=>sR fun _ c2=>bE h fun f1 C h=>yY (yIa SL_24 (eh A) (eh u) b (rdI j) C) ?_))
   obtain ⟨D,b⟩:=iLs b j C
   refine yY (yCt O_22 e0 b F1 rfl) (Ya D.v e0 (wK c2 (wR (Ym p.v (eh z) (Ym D.v e0 (bE h fun f2 c3 h=>yH (rAp b SL_22 e0 e0 (rdI F0) c3) fun c4 w b=>Ya c4.v e0 (wN (c1 _ _ _ (c0 _ _ ?_)))))))))
   refine wR (yY (yadd (eh u) rfl) (Ym (iV (wa .i64 o 1)) e0 (wN ?_)))
   cases h
   exact b4 _ _ _ rfl ⟨_,_,_,_,rfl,rfl,rfl,A,B,rfl,(b.facts (allT (allT allI)))⟩
  ·refine wp_exit (b8 _ _ _ rfl ?_)
   cases h
   exact b5 _ _ _ _ rfl rfl (b0 _ _ _ _ z b (b3 _ rfl))
 refine loopQ (fun s a w=>∃ (i k:Int) (f:FV),(i,k)=s∧a=fr 36 f∧f 0=d.v∧f 3=iV i∧f 9=d.v∧f 10=iV (l.length:Int)∧f 11=iV k∧St w0 ros rs w) V ⟨_,_,_,rfl,rfl,rfl,rfl,rfl,rfl,rfl,b⟩ ?_
 rintro _ _ w c5 ⟨i,k,f,rfl,rfl,E,F,G,H,x,b⟩ c c6 f3 c7 c8
 refine sR fun _ c9=>yY (ylss (eh x) (eh H)) (wK c9 (seqQ fun f4 d0 d1=>?_))
 refine cIf e0 c (fun d2 c=>?_) fun d2 c=>?_
 ·refine wp_skip (d0 _ _ (sQ fun _ d3=>blockQ fun d4 d5=>sR fun _ d6=>bE c fun q I c=>yY (yIa SL_24 (eh G) (eh x) b (rdI j) I) ?_))
  obtain ⟨J,b⟩:=iLs b j I
  refine yY (yCt O_22 e0 b F1 rfl) (Ya J.v e0 (wK d6 (sR fun _ d7=>Ym (iV i) (eh F) (Ym J.v e0 (yY (yLen SL_22 e0 b (rdI F0)) (yY (yadd e0 e0) (Ya (iV (wa .i64 i (q.length:Int))) e0 (wK d7 (sQ fun _ d8=>?_)))))))))
  refine wR (Ym (iV (wa .i64 i (q.length:Int))) e0 (yY (ylss e0 rfl) (wK d8 ?_)))
  have d9:∀ (f:FV) w,f 0=d.v→f 3=iV (wa .i64 i (q.length:Int))→f 9=d.v→f 10=iV (l.length:Int)→f 11=iV k→St w0 ros rs w→slices_Concat_int_j5 i q k=some c5→d4 .normal (fr 36 f) w:=by
   intro f w e1 e2 e3 e4 e5 b g
   refine d5 _ _ _ (d3 _ _ (wR (yY (yadd (eh e5) rfl) (Ym (iV (wa .i64 k 1)) e0 (wN ?_)))))
   cases g
   exact c7 _ _ _ rfl ⟨_,_,_,rfl,rfl,e1,e2,e3,e4,rfl,b⟩
  refine cIf e0 c (fun e6 c=>?_) fun e6 c=>?_
  ·cases c
  ·exact wp_skip (d9 _ _ E rfl G H x (b.facts (allT (allT allI))) c)
 ·refine wp_exit (d1 _ _ _ rfl ?_)
  cases c
  exact c8 _ _ _ _ rfl rfl (W _ _ _ E F b (c6 _ rfl))
theorem graph_Components_ok {p:L2} {h:Hdr} {out:L2} (d:graph_Components p=some out) (t:imm S1 h.v p∈ros) (b:St w0 ros rs w):
  Calls Tryz.prog 97 #[.agg #[h.v]] w (fun e w=>∃ (O:Hdr),e=.returned (O.v)∧St w0 ros (row 22 S1 O.v out::rs) w):=by
 refine enterQ Tryz.func97 rfl Tryz.ntmps97 rfl fun Q R=>sR fun _ a8=>yBb (r_box (vals:=[h.v]) b e0 rfl) fun m w b=>Ya hnil.v rfl (wK a8 (seqQ fun i1 a9 b0=>sR fun _ b1=>yY (lbs_ [h.v] ST_26 e0 b R0) (bE d fun i2 b2 d=>yC (yCall FN_51 (a1 e0)) (graph_Check_ok b2 t b) ?_)))
 rintro _ w ⟨rfl,b⟩
 refine ⟨_,rfl,?_⟩
 refine yY (yneq e0 rfl) (wK b1 ?_)
 rcases iteS d with ⟨z,d⟩ | ⟨z,d⟩
 ·refine condF e0 (nF (dT z)) (wp_skip (a9 _ _ (sR fun _ b4=>yY (yFb FL_26_0 e0) (yY (lb_ h.v O_24 e0 b R0) (yY (yLen SL_24 e0 b (rdI t)) (bE d fun i3 b5 d=>yH (rMk b SL_93 e0 b5) fun i w b=>Ya i.v e0 (wK b4 ?_)))))))
  refine sR fun _ b6=>Ya hnil.v rfl (wK b6 (sQ fun _ b7=>sR fun _ b8=>yY (yFb FL_26_0 e0) (yY (lb_ h.v O_24 e0 b R1) (yY (yLen SL_24 e0 b (rdI t)) (Ym (iV 0) rfl (wK b8 ?_))))))
  refine blockQ fun b9 c0=>bE d fun c1 c2 d=>?_
  have c3:∀ (A:L2) (q:Hdr) (f:FV) w,f 4=q.v→St w0 ros (row 22 S1 q.v A::rs) w→A=c1→b9 (.exit 0) (fr 48 f) w:=by
   intro A q f w c4 b ho
   subst ho
   refine c0 _ _ _ (b7 _ _ (sR fun _ c6=>Ym q.v (eh c4) (Ya q.v e0 (wK c6 (wp_ret ?_)))))
   cases d
   exact R _ _ _ (fin1r Tryz.results97 ⟨rfl,rfl⟩ ⟨_,rfl,b⟩)
  replace b:=b.rowNh 22 S1
  refine loopQ (fun s a w=>∃ (B:List Bool) (r:L2) (g:Int) (f:FV) (o:Hdr),(B,r,g)=s∧a=fr 48 f∧f 1=(pB m)∧f 3=i.v∧f 4=o.v∧f 18=iV (p.length:Int)∧f 19=iV g∧St w0 ros (box m 26 [h.v]::row 4 rB i.v B::row 22 S1 o.v r::rs) w) c2 ⟨_,_,_,_,_,rfl,rfl,rfl,rfl,rfl,rfl,rfl,(b.pk 3 [2,1,0] rfl)⟩ ?_
  rintro _ _ w c7 ⟨B,r,g,f,o,rfl,rfl,C,D,E,F,u,b⟩ c c8 i4 c9 d0
  refine sR fun _ d1=>yY (ylss (eh u) (eh F)) (wK d1 (seqQ fun i5 d2 d3=>?_))
  refine cIf e0 c (fun d4 c=>?_) fun d4 c=>?_
  ·refine wp_skip (d2 _ _ (sQ fun d5 d6=>?_))
   have S:∀ (G:List Bool) (H:L2) (I:Hdr) (f:FV) w,f 1=(pB m)→f 3=i.v→f 4=I.v→f 18=iV (p.length:Int)→f 19=iV g→St w0 ros (box m 26 [h.v]::row 4 rB i.v G::row 22 S1 I.v H::rs) w→graph_Components_j12 g G H=some c7→d5 .normal (fr 48 f) w:=by
    intro G H I f w d7 d8 d9 e1 e2 b d
    refine d6 _ _ (wR (yY (yadd (eh e2) rfl) (Ym (iV (wa .i64 g 1)) e0 (wN ?_))))
    cases d
    exact c9 _ _ _ rfl ⟨_,_,_,_,_,rfl,rfl,d7,d8,d9,e1,rfl,b⟩
   refine blockQ fun _ T=>sR fun _ e3=>Ym (iV g) (eh u) (Ya (iV g) e0 (wK e3 (seqQ fun i6 e4 e5=>sR fun _ e6=>Ym i.v (eh D) (Ym (iV g) e0 (bE c fun i7 U c=>yY (yIa SL_93 e0 e0 b rO1 U) ?_)))))
   refine yY (yB O_4 e0 b rO1 U) (wK e6 (cB e0 c (fun e7 c=>?_) fun e7 c=>?_))
   ·exact wp_exit (e5 _ _ _ rfl (T _ _ _ (S _ _ _ _ _ C D E F u b c)))
   ·refine wp_skip (e4 _ _ (sR fun _ e8=>yY (lbs_ [h.v] ST_26 (eh C) b R0) (Ym (iV g) e0 (bE c fun i8 e9 c=>yC (yCall FN_117 (a2 e0 e0)) (graph_levels_ok e9 t b) ?_))))
    rintro _ w ⟨i9,rfl,b⟩
    refine ⟨_,rfl,?_⟩
    refine bE c fun j0 f0 c=>?_
    replace b:=b.fz
    refine yC (yCall FN_98 (a1 e0)) (slices_Concat_int_ok f0 F0 b) ?_
    rintro _ w ⟨j,rfl,b⟩
    refine ⟨_,rfl,?_⟩
    refine Ya j.v e0 (wK e8 (sR fun _ f1=>Ym j.v e0 (bE c fun x f2 c=>yC (yCall FN_118 (a1 e0)) (sortI_ok f2 b) ?_)))
    rintro _ w ⟨rfl,b⟩
    refine ⟨_,rfl,?_⟩
    refine wK f1 (sQ fun _ f3=>sR fun _ f4=>Ym j.v e0 (yY (yLen SL_22 e0 b rO0) (Ym (iV 0) rfl (wK f4 (blockQ fun f5 f6=>bE c fun f7 f8 c=>?_)))))
    have f9:∀ (J:List Bool) (f:FV) w,f 1=(pB m)→f 3=i.v→f 4=o.v→f 6=j.v→f 18=iV (p.length:Int)→f 19=iV g→St w0 ros (box m 26 [h.v]::row 4 rB i.v J::row 22 S1 o.v r::row 3 I1 j.v x::rs) w→J=f7→f5 (.exit 2) (fr 48 f) w:=by
     intro J f w g0 g1 g2 g3 g4 g5 b ho
     subst ho
     exact f6 _ _ _ (f3 _ _ (wR (Ym o.v (eh g2) (Ym j.v (eh g3) (yH (rLt (n:=1) (l:=[x]) ((b.pk 4 [3,0,0,0] rfl).fz) SL_24 [j.v] (bp1 e0) rfl rfl (mks1 (cs:=[j.v]) rfl (mkS F0) mks0)) fun j1 w b=>bE c fun j2 g6 c=>yH (rAp (b.pk 4 [3,0,0,0] rfl) SL_24 e0 e0 rO1 g6) fun g7 w b=>Ya g7.v e0 (wN (T _ _ _ (S _ _ _ _ _ g0 g1 rfl g4 g5 ((b.pk 4 [2,2,0] rfl).facts (allT allI)) c))))))))
    refine loopQ (fun s a w=>∃ (K:List Bool) (y:Int) (f:FV),(K,y)=s∧a=fr 48 f∧f 1=(pB m)∧f 3=i.v∧f 4=o.v∧f 6=j.v∧f 18=iV (p.length:Int)∧f 19=iV g∧f 32=j.v∧f 33=iV (x.length:Int)∧f 34=iV y∧St w0 ros (box m 26 [h.v]::row 4 rB i.v K::row 22 S1 o.v r::row 3 I1 j.v x::rs) w) f8 ⟨_,_,_,rfl,rfl,C,D,E,rfl,F,u,rfl,rfl,rfl,((b.pk 4 [1,1,1,0] rfl).facts (allT allI))⟩ ?_
    rintro _ _ w j3 ⟨K,y,f,rfl,rfl,V,L,W,X,Z,a0,a3,a4,N,b⟩ k g8 j4 g9 h0
    refine sR fun _ h1=>yY (ylss (eh N) (eh a4)) (wK h1 (seqQ fun j5 h3 h4=>?_))
    refine cIf e0 k (fun h5 k=>?_) fun h5 k=>?_
    ·refine wp_skip (h3 _ _ (sQ fun _ h7=>blockQ fun _ h8=>sR fun _ h9=>bE k fun a5 a6 k=>yY (yIa SL_22 (eh a3) (eh N) b rO3 a6) (yY (yI O_3 e0 b rO3 a6) (Ya (iV a5) e0 (wK h9 (wR (Ym i.v (eh L) ?_)))))))
     refine Ym (iV a5) e0 (bE k fun j6 a7 k=>yY (yIs SL_93 e0 e0 b rO1 a7) (yT (r_sti (cs:=[.bool true]) (b.pk 2 [1,0] rfl) O_4 rfl e0 rfl rfl mkB a7) fun w b=>wN (h8 _ _ _ (h7 _ _ (wR (yY (yadd (eh N) rfl) (Ym (iV (wa .i64 y 1)) e0 (wN ?_))))))))
     cases k
     exact g9 _ _ _ rfl ⟨_,_,_,rfl,rfl,V,L,W,X,Z,a0,a3,a4,rfl,(b.pk 4 [1,0,0,0] rfl)⟩
    ·refine wp_exit (h4 _ _ _ rfl ?_)
     cases k
     exact h0 _ _ _ _ rfl rfl (f9 _ _ _ V L W X Z a0 b (g8 _ rfl))
  ·refine wp_exit (d3 _ _ _ rfl ?_)
   cases c
   exact d0 _ _ _ _ rfl rfl (c3 _ _ _ _ E (b.pk 3 [2] rfl) (c8 _ rfl))
 ·refine condT e0 (nT (dF z)) (sR fun _ i0=>Ya hnil.v rfl (wK i0 (wp_ret (b0 _ _ _ rfl ?_))))
  cases d
  replace b:=b.rowNh 22 S1
  exact R _ _ _ (fin1r Tryz.results97 ⟨rfl,rfl⟩ ⟨_,rfl,(b.pk 2 [0] rfl)⟩)
theorem graph_vertex_ok {d:L2} {b:Int} {g:Hdr} {out:Bool} (i:graph_vertex d b=some out) (j:imm S1 g.v d∈ros) (c:St w0 ros rs w):
  Calls Tryz.prog 112 #[.agg #[g.v],iV b] w (fun e w=>e=.returned (.bool out)∧St w0 ros rs w):=by
 refine enterQ Tryz.func112 rfl Tryz.ntmps112 rfl fun Q k=>sR fun _ l=>yBb (r_box (vals:=[g.v]) c e0 rfl) fun o w c=>Ya (.bool false) rfl (wK l (sR fun _ m=>Ym (iV b) e0 (yY (ygeq e0 rfl) (Ym (.bool (decide ((0:Int)≤b))) e0 ?_))))
 refine joinW 6 (fun f w=>f 13=.bool ((decide ((0:Int)≤b)) && (decide (b < (d.length:Int))))∧St w0 ros rs w) (fun h=>?_) ?_
 ·rcases Bool.eq_false_or_eq_true (decide ((0:Int)≤b)) with a | a
  ·exact yG a (m_ (iV b) e0) (yG a (yFb FL_26_0 e0) (yG a (lb_ g.v O_24 e0 c R0) (yG a (yLen SL_24 e0 c (rdI j)) (yG a (ylss e0 e0) (yY (pt_ (.bool (decide (b < (d.length:Int)))) e0 a e0) (h _ _ ⟨(congrArg Value.bool (andT a)),(c.pk 1 [] rfl)⟩))))))
  ·exact gN a (gN a (gN a (gN a (gN a (yY (pf_ (.bool false) e0 a rfl) (h _ _ ⟨(congrArg Value.bool (andF a)),(c.pk 1 [] rfl)⟩))))))
 rintro f w ⟨n,c⟩
 refine Ya (.bool ((decide ((0:Int)≤b)) && (decide (b < (d.length:Int))))) (eh n) (wK m (wp_ret ?_))
 cases i
 exact k _ _ _ (fin1r Tryz.results112 ⟨rfl,rfl⟩ ⟨rfl,c⟩)
theorem graph_Peripheral_ok {K:L2} {t:Int} {g:Hdr} {out:Int} (c:graph_Peripheral K t=some out) (l:imm S1 g.v K∈ros) (b:St w0 ros rs w):
  Calls Tryz.prog 100 #[.agg #[g.v],iV t] w (fun e w=>e=.returned (iV out)∧St w0 ros rs w):=by
 refine enterQ Tryz.func100 rfl Tryz.ntmps100 rfl fun Q L=>sR fun _ a4=>yBb (r_box (vals:=[g.v]) b e0 rfl) fun k w b=>Ya (iV 0) rfl (wK a4 (seqQ fun h5 a5 a6=>sR fun _ a7=>yY (lbs_ [g.v] ST_26 e0 b R0) (bE c fun a8 a9 c=>yC (yCall FN_51 (a1 e0)) (graph_Check_ok a9 l b) ?_)))
 rintro _ w ⟨rfl,b⟩
 refine ⟨_,rfl,?_⟩
 refine yY (yneq e0 rfl) (Ym (.bool (!(decide (a8=0)))) e0 (bE c fun b0 n c=>?_))
 refine joinW 5 (fun f w=>f 1=iV t∧f 2=(pB k)∧f 19=.bool b0∧St w0 ros (box k 26 [g.v]::rs) w) (fun N=>?_) ?_
 ·rcases iteS n with ⟨j,n⟩ | ⟨j,n⟩
  ·refine yG (nF (dT j)) (lbs_ [g.v] ST_26 e0 b R0) (yG (nF (dT j)) (m_ (iV t) e0) (bE n fun b1 b2 n=>Yc (wG (nF (dT j))) rfl (yCall FN_112 (a2 e0 e0)) (graph_vertex_ok b2 l b) ?_))
   rintro _ w ⟨rfl,b⟩
   refine ⟨_,rfl,?_⟩
   refine yG (nF (dT j)) (ynot e0) (yY (pf_ (.bool (!b1)) e0 (nF (dT j)) e0) ?_)
   cases n
   exact N _ _ ⟨rfl,rfl,rfl,b⟩
  ·refine gN (nT (dF j)) (gN (nT (dF j)) (gN (nT (dF j)) (gN (nT (dF j)) (yY (pt_ (.bool true) e0 (nT (dF j)) rfl) ?_))))
   cases n
   exact N _ _ ⟨rfl,rfl,rfl,b⟩
 rintro f w ⟨O,R,b3,b⟩
 refine wK a7 (cB (eh b3) c (fun b5 c=>?_) fun b5 c=>?_)
 ·refine sR fun _ b6=>Ya (iV (-1)) rfl (wK b6 (wp_ret (a6 _ _ _ rfl ?_)))
  cases c
  exact L _ _ _ (fin1r Tryz.results100 ⟨rfl,rfl⟩ ⟨rfl,(b.pk 1 [] rfl)⟩)
 ·refine wp_skip (a5 _ _ (sR fun _ b7=>yY (lbs_ [g.v] ST_26 (eh R) b R0) (Ym (iV t) (eh O) (bE c fun h6 b8 c=>yC (yCall FN_117 (a2 e0 e0)) (graph_levels_ok b8 l b) ?_))))
  rintro _ w ⟨b9,rfl,b⟩
  refine ⟨_,rfl,?_⟩
  refine Ya b9.v e0 (wK b7 (blockQ fun c0 c1=>bE c fun c2 c3 c=>?_))
  have c4:∀ (C:Int) (f:FV) w,f 4=iV C→St w0 ros rs w→C=c2→c0 .ret (fr 64 f) w:=by
   intro C f w c5 b ho
   subst ho
   refine c1 _ _ _ ?_
   cases c
   exact L _ _ _ (fin1r Tryz.results100 ⟨rfl,c5⟩ ⟨rfl,b⟩)
  refine loopQ (fun s a w=>∃ (m:Int) (p:L2) (f:FV) (i:Hdr),(m,p)=s∧a=fr 64 f∧f 1=iV m∧f 2=(pB k)∧f 5=i.v∧St w0 ros (box k 26 [g.v]::row 22 S1 i.v p::rs) w) c3 ⟨_,_,_,_,rfl,rfl,O,R,rfl,(b.pk 2 [1,0] rfl)⟩ ?_
  rintro _ _ w h7 ⟨m,p,f,i,rfl,rfl,c6,c7,D,b⟩ h c8 h8 d0 d1
  refine blockQ fun _ S=>sR fun _ d2=>Ym i.v (eh D) (Ym i.v (eh D) (yY (yLen SL_24 e0 b rO1) (yY (ysub e0 rfl) (bE h fun x T h=>yY (yIa SL_24 e0 e0 b rO1 T) ?_))))
  obtain ⟨o,d3,b⟩:=rLs b rO1 T
  refine yY (yCe O_22 e0 d3 rfl) (Ya o.v e0 (wK d2 (sR fun _ d4=>Ym o.v e0 (bE h fun d5 U h=>yY (yIa SL_22 e0 rfl b (rdI F0) U) (yY (yI O_3 e0 b (rdI F0) U) (Ya (iV d5) e0 (wK d4 (sQ fun _ d6=>?_))))))))
  refine sR fun _ d7=>Ym o.v e0 (yY (yLen SL_22 e0 b (rdI F0)) (Ym (iV 0) rfl (wK d7 (blockQ fun d8 d9=>bE h fun e1 e2 h=>?_))))
  have e3:∀ (q:Int) (f:FV) w,f 1=iV m→f 2=(pB k)→f 5=i.v→f 7=iV q→St w0 ros (box k 26 [g.v]::row 22 S1 i.v p::rs) w→q=e1→d8 (.exit 2) (fr 64 f) w:=by
   intro q f w e4 V e5 W b ho
   subst ho
   refine d9 _ _ _ (d6 _ _ (sR fun _ e6=>yY (lbs_ [g.v] ST_26 (eh V) b R0) (Ym (iV q) (eh W) (bE h fun h9 e7 h=>yC (yCall FN_117 (a2 e0 e0)) (graph_levels_ok e7 l b) ?_))))
   rintro _ w ⟨y,rfl,b⟩
   refine ⟨_,rfl,?_⟩
   refine Ya y.v e0 (wK e6 (seqQ fun i0 e8 e9=>sR fun _ f0=>Ym y.v e0 (yY (yLen SL_24 e0 b rO0) (Ym i.v (eh e5) (yY (yLen SL_24 e0 b rO2) (yY (yleq e0 e0) (wK f0 ?_)))))))
   refine cIf e0 h (fun f1 h=>?_) fun f1 h=>?_
   ·refine sR fun _ f2=>Ym (iV m) (eh e4) (Ya (iV m) e0 (wK f2 (wp_ret (e9 _ _ _ rfl (S _ _ _ ?_)))))
    cases h
    exact d1 _ _ _ _ rfl rfl (c4 _ _ _ rfl (b.pk 3 [] rfl) (c8 _ rfl))
   ·refine wp_skip (e8 _ _ (wR (Ym (iV q) (eh W) (Ym y.v e0 (Ya (iV q) e0 (Ya y.v e0 (wN (S _ _ _ ?_))))))))
    cases h
    exact d0 _ _ _ rfl ⟨_,_,_,_,rfl,rfl,rfl,V,rfl,(b.pk 3 [1,0] rfl)⟩
  refine loopQ (fun s a w=>∃ (z r:Int) (f:FV),(z,r)=s∧a=fr 64 f∧f 1=iV m∧f 2=(pB k)∧f 5=i.v∧f 7=iV z∧f 32=o.v∧f 33=iV (x.length:Int)∧f 34=iV r∧St w0 (imm I1 o.v x::ros) (box k 26 [g.v]::row 22 S1 i.v p::rs) w) e2 ⟨_,_,_,rfl,rfl,c6,c7,D,rfl,rfl,rfl,rfl,b⟩ ?_
  rintro _ _ w f3 ⟨z,r,f,rfl,rfl,E,u,F,G,H,I,A,b⟩ d f4 i1 f5 f6
  refine sR fun _ f7=>yY (ylss (eh A) (eh I)) (wK f7 (seqQ fun i2 f8 f9=>?_))
  refine cIf e0 d (fun g0 d=>?_) fun g0 d=>?_
  ·refine wp_skip (f8 _ _ (sQ fun _ g1=>blockQ fun g2 g3=>sR fun _ g4=>bE d fun B X d=>yY (yIa SL_22 (eh H) (eh A) b (rdI F0) X) (yY (yI O_3 e0 b (rdI F0) X) (Ya (iV B) e0 (wK g4 (sQ fun _ g5=>bE d fun i3 Z d=>?_))))))
   refine bE d fun i4 a0 d=>dR [0,1,0,7,15,31,0,64,0,448,960,1984,4095] [] 0 folM ?_
   replace b:=b.drew
   refine Dz [0,1,2,3,4,5,6,7,8,9,10,11,12] [] (yR rfl (yFb FL_26_0 (eh u)) (yR rfl (lb_ g.v O_24 e0 b R0) (yR rfl (m_ (iV B) e0) (yR rfl (yIa SL_24 e0 e0 b (rdI (mtF l)) Z) ?_))))
   obtain ⟨i5,b⟩:=iLs b (mtF l) Z
   refine yR rfl (yCt O_22 e0 b F1 rfl) (yR rfl (yLen SL_22 e0 b (rdI F0)) (yR rfl (yFb FL_26_0 (eh u)) (yR rfl (lb_ g.v O_24 e0 b R0) (yR rfl (m_ (iV z) (eh G)) (yR rfl (yIa SL_24 e0 e0 b (rdI (F_3 l)) a0) ?_)))))
   obtain ⟨i6,b⟩:=iLs b (F_3 l) a0
   refine yR rfl (yCt O_22 e0 b F1 rfl) (yR rfl (yLen SL_22 e0 b (rdI F0)) (yR rfl (ylss e0 e0) (Rn QSn (g5 _ _ ?_))))
   have a3:∀ (J:Int) (f:FV) w,f 1=iV m→f 2=(pB k)→f 5=i.v→f 7=iV J→f 32=o.v→f 33=iV (x.length:Int)→f 34=iV r→St w0 (imm I1 o.v x::ros) (box k 26 [g.v]::row 22 S1 i.v p::rs) w→graph_Peripheral_j14 r J=some f3→g2 .normal (fr 64 f) w:=by
    intro J f w g6 g7 g8 g9 h0 h1 h3 b c
    refine g3 _ _ _ (g1 _ _ (wR (yY (yadd (eh h3) rfl) (Ym (iV (wa .i64 r 1)) e0 (wN ?_)))))
    cases c
    exact f5 _ _ _ rfl ⟨_,_,_,rfl,rfl,g6,g7,g8,g9,h0,h1,rfl,b⟩
   refine cIf e0 d (fun h4 d=>?_) fun h4 d=>?_
   ·exact wR (Ym (iV B) e0 (Ya (iV B) e0 (wN (a3 _ _ _ E u F rfl H I A (b.facts (allC F4 (allT (allT (allT (allT (allT allI))))))) d))))
   ·exact wp_skip (a3 _ _ _ E u F G H I A (b.facts (allC F4 (allT (allT (allT (allT (allT allI))))))) d)
  ·refine wp_exit (f9 _ _ _ rfl ?_)
   cases d
   exact f6 _ _ _ _ rfl rfl (e3 _ _ _ E u F G (b.facts (allT allI)) (f4 _ rfl))
theorem graph_Levels_ok {j:L2} {h:Int} {d:Hdr} {out:L2} (b:graph_Levels j h=some out) (i:imm S1 d.v j∈ros) (a:St w0 ros rs w):
  Calls Tryz.prog 99 #[.agg #[d.v],iV h] w (fun e w=>∃ (k:Hdr),e=.returned (k.v)∧St w0 ros (row 22 S1 k.v out::rs) w):=by
 refine enterQ Tryz.func99 rfl Tryz.ntmps99 rfl fun Q l=>sR fun _ o=>yBb (r_box (vals:=[d.v]) a e0 rfl) fun m w a=>Ya hnil.v rfl (wK o (seqQ fun H p q=>sR fun _ r=>yY (lbs_ [d.v] ST_26 e0 a R0) (bE b fun s t b=>yC (yCall FN_51 (a1 e0)) (graph_Check_ok t i a) ?_)))
 rintro _ w ⟨rfl,a⟩
 refine ⟨_,rfl,?_⟩
 refine yY (yneq e0 rfl) (Ym (.bool (!(decide (s=0)))) e0 (bE b fun u g b=>?_))
 refine joinW 5 (fun f w=>f 1=iV h∧f 2=(pB m)∧f 13=.bool u∧St w0 ros (box m 26 [d.v]::rs) w) (fun n=>?_) ?_
 ·rcases iteS g with ⟨c,g⟩ | ⟨c,g⟩
  ·refine yG (nF (dT c)) (lbs_ [d.v] ST_26 e0 a R0) (yG (nF (dT c)) (m_ (iV h) e0) (bE g fun x y g=>Yc (wG (nF (dT c))) rfl (yCall FN_112 (a2 e0 e0)) (graph_vertex_ok y i a) ?_))
   rintro _ w ⟨rfl,a⟩
   refine ⟨_,rfl,?_⟩
   refine yG (nF (dT c)) (ynot e0) (yY (pf_ (.bool (!x)) e0 (nF (dT c)) e0) ?_)
   cases g
   exact n _ _ ⟨rfl,rfl,rfl,a⟩
  ·refine gN (nT (dF c)) (gN (nT (dF c)) (gN (nT (dF c)) (gN (nT (dF c)) (yY (pt_ (.bool true) e0 (nT (dF c)) rfl) ?_))))
   cases g
   exact n _ _ ⟨rfl,rfl,rfl,a⟩
 rintro f w ⟨z,A,B,a⟩
 refine wK r (cB (eh B) b (fun C b=>?_) fun C b=>?_)
 ·refine sR fun _ D=>Ya hnil.v rfl (wK D (wp_ret (q _ _ _ rfl ?_)))
  cases b
  replace a:=a.rowNh 22 S1
  exact l _ _ _ (fin1r Tryz.results99 ⟨rfl,rfl⟩ ⟨_,rfl,(a.pk 2 [0] rfl)⟩)
 ·refine wp_skip (p _ _ (sR fun _ E=>yY (lbs_ [d.v] ST_26 (eh A) a R0) (Ym (iV h) (eh z) (bE b fun I F b=>yC (yCall FN_117 (a2 e0 e0)) (graph_levels_ok F i a) ?_))))
  rintro _ w ⟨G,rfl,a⟩
  refine ⟨_,rfl,?_⟩
  refine Ya G.v e0 (wK E (wp_ret ?_))
  cases b
  exact l _ _ _ (fin1r Tryz.results99 ⟨rfl,rfl⟩ ⟨_,rfl,(a.pk 2 [0] rfl)⟩)
theorem dissect_grown_ok {S:L2} {T:LI} {U:L2} {h j k:Hdr} {out:LI} (i:dissect_grown S T U=some out) (A:imm S1 h.v S∈ros) (u:imm I1 j.v T∈ros) (j0:imm S1 k.v U∈ros) (b:St w0 ros rs w):
  Calls Tryz.prog 73 #[.agg #[h.v,j.v,k.v]] w (fun e w=>∃ (V:Hdr),e=.returned (V.v)∧St w0 ros (row 3 I1 V.v out::rs) w):=by
 refine enterQ Tryz.func73 rfl Tryz.ntmps73 rfl fun Q W=>sR fun _ c9=>yBb (r_box (vals:=[h.v,j.v,k.v]) b e0 rfl) fun m w b=>Ya hnil.v rfl (wK c9 (sR fun _ d0=>yH (rLt (n:=1) (l:=[1]) b SL_22 [iV 1] (bp1 rfl) rfl rfl (mks1 (cs:=[iV 1]) rfl mkI mks0)) fun j1 w b=>yY (yFb FL_28_1 e0) (yY (lb_ j.v O_22 e0 b R1) ?_)))
 refine yY (yLen SL_22 e0 b (rdI u)) (bE i fun j2 d1 i=>?_)
 replace b:=b.fz
 refine yC (yCall FN_72 (a2 e0 e0)) (slices_Repeat_int_ok d1 F0 b) ?_
 rintro _ w ⟨c,rfl,b⟩
 refine ⟨_,rfl,?_⟩
 refine Ya c.v e0 (wK d0 (sR fun _ d2=>yY (yFb FL_28_1 e0) (yY (lb_ j.v O_22 e0 b R1) (bE i fun t d3 i=>yC (yCall FN_96 (a1 e0)) (dissect_total_ok d3 (mtF u) b) ?_))))
 rintro _ w ⟨rfl,b⟩
 refine ⟨_,rfl,?_⟩
 refine Ya (iV t) e0 (Ya (iV 0) rfl (wK d2 (seqQ fun j3 d4 d5=>sR fun _ d6=>yY (yFb FL_28_0 e0) (yY (lbs_ [h.v] ST_26 e0 b R1) (bE i fun o d7 i=>yC (yCall FN_97 (a1 e0)) (graph_Components_ok d7 (mtF A) b) ?_)))))
 rintro _ w ⟨p,rfl,b⟩
 refine ⟨_,rfl,?_⟩
 refine yY (yLen SL_24 e0 b rO0) (Ym (iV 0) rfl (wK d6 (blockQ fun X Z=>bE i fun a0 d8 i=>?_)))
 have d9:∀ (B:LI) (f:FV) w,f 3=c.v→St w0 ros (row 3 I1 c.v B::rs) w→.inl B=a0→X (.exit 0) (fr 59 f) w:=by
  intro B f w e1 b ho
  subst ho
  refine Z _ _ _ (d4 _ _ (sR fun _ e2=>Ym c.v (eh e1) (Ya c.v e0 (wK e2 (wp_ret ?_)))))
  cases i
  exact W _ _ _ (fin1r Tryz.results73 ⟨rfl,rfl⟩ ⟨_,rfl,b⟩)
 have e3:∀ (C:LI) (f:FV) w,f 2=c.v→St w0 ros (row 3 I1 c.v C::rs) w→.inr C=a0→X .ret (fr 59 f) w:=by
  intro C f w e4 b ho
  subst ho
  refine Z _ _ _ (d5 _ _ _ rfl ?_)
  cases i
  exact W _ _ _ (fin1r Tryz.results73 ⟨rfl,e4⟩ ⟨_,rfl,b⟩)
 refine loopQ (fun s a w=>∃ (D:LI) (E q:Int) (f:FV),(D,E,q)=s∧a=fr 59 f∧f 1=(pB m)∧f 3=c.v∧f 4=iV t∧f 5=iV E∧f 20=p.v∧f 21=iV (o.length:Int)∧f 22=iV q∧St w0 ros (box m 28 [h.v,j.v,k.v]::row 3 I1 c.v D::row 22 S1 p.v o::rs) w) d8 ⟨_,_,_,_,rfl,rfl,rfl,rfl,rfl,rfl,rfl,rfl,rfl,((b.pk 3 [2,1,0] rfl).facts (allT allI))⟩ ?_
 rintro _ _ w j4 ⟨D,E,q,f,rfl,rfl,x,a3,e5,e6,a4,a5,F,b⟩ d a6 j5 e7 a7
 refine sR fun _ e8=>yY (ylss (eh F) (eh a5)) (wK e8 (seqQ fun j6 e9 f0=>?_))
 refine cIf e0 d (fun f1 d=>?_) fun f1 d=>?_
 ·refine wp_skip (e9 _ _ (seqQ fun j7 f2 f3=>blockQ fun _ a8=>sR fun _ f4=>bE d fun j8 a9 d=>yY (yIa SL_24 (eh a4) (eh F) b rO2 a9) ?_))
  obtain ⟨b0,f5,b⟩:=rLs b rO2 a9
  refine yY (yCe O_22 e0 f5 rfl) (Ya b0.v e0 (wK f4 (sQ fun _ f6=>bE d fun j9 b1 d=>bE d fun k0 f7 d=>bE d fun k6 f8 d=>bE d fun b2 f9 d=>dR [0,1,0,4,0,16,48,124,255,511,1023,0] [7,8,9] 3 folM ?_)))
  replace b:=b.drew
  refine Dn [0,1,2,3,4,5,6,11] [] [7] (yR rfl (yFb FL_28_0 (eh x)) (yR rfl (lbs_ [h.v] ST_26 e0 b R0) (yR rfl (yFb FL_28_0 (eh x)) (yR rfl (lbs_ [h.v] ST_26 e0 b R0) (yR rfl (m_ b0.v e0) (yR rfl (yIa SL_22 e0 rfl b (rdI F0) b1) (yR rfl (yI O_3 e0 b (rdI F0) b1) (yR rfl (m_ (iV 0) rfl) (Rn QSn ?_)))))))))
  refine Lc1 rfl ?_
  refine Lk wn (yCall FN_100 (a2 e0 e0)) (graph_Peripheral_ok f7 (mtF A) b) ?_
  rintro _ w ⟨rfl,b⟩
  refine ⟨_,rfl,?_⟩
  refine Dn [] [0,1,11] [8] (Rn (yS rfl (yFb FL_28_0 (eh x)) (yS rfl (lbs_ [h.v] ST_26 e0 b R0) (yS rfl (m_ (iV 0) rfl) QSn))) ?_)
  refine Lc1 rfl ?_
  refine Lk wn (yCall FN_99 (a2 e0 e0)) (graph_Levels_ok f8 (mtF A) b) ?_
  rintro _ w ⟨k7,rfl,b⟩
  refine ⟨_,rfl,?_⟩
  refine Dn [] [11] [9] (Rn (yS rfl (m_ (iV 0) rfl) QSn) ?_)
  refine Lc1 rfl ?_
  replace b:=b.fz
  refine Lk wn (yCall FN_98 (a1 e0)) (slices_Concat_int_ok f9 F0 b) ?_
  rintro _ w ⟨b3,rfl,b⟩
  refine ⟨_,rfl,?_⟩
  refine Dz [10] [11] (yR rfl (yLen SL_22 e0 b rO0) (Rn (yS rfl (m_ (iV 0) rfl) QSn) (f6 _ _ (blockQ fun b4 b5=>bE d fun b6 g0 d=>?_))))
  have g1:∀ (G:LI) (H:Int) (f:FV) w,f 1=(pB m)→f 3=c.v→f 4=iV t→f 5=iV H→f 20=p.v→f 21=iV (o.length:Int)→f 22=iV q→St w0 ros (box m 28 [h.v,j.v,k.v]::row 3 I1 c.v G::row 22 S1 p.v o::rs) w→.inl (G,H)=b6→b4 (.exit 2) (fr 59 f) w:=by
   intro G H f w g2 g3 g4 g5 g6 g7 g8 b ho
   subst ho
   refine b5 _ _ _ (a8 _ _ _ (f2 _ _ (wR (yY (yadd (eh g8) rfl) (Ym (iV (wa .i64 q 1)) e0 (wN ?_))))))
   cases d
   exact e7 _ _ _ rfl ⟨_,_,_,_,rfl,rfl,g2,g3,g4,g5,g6,g7,rfl,b⟩
  have g9:∀ (I:LI) (f:FV) w,f 2=c.v→St w0 ros (row 3 I1 c.v I::rs) w→.inr I=b6→b4 .ret (fr 59 f) w:=by
   intro I f w h0 b ho
   subst ho
   refine b5 _ _ _ (a8 _ _ _ (f3 _ _ _ rfl ?_))
   cases d
   exact a7 _ _ _ _ rfl rfl (e3 _ _ _ h0 b (a6 _ rfl))
  refine loopQ (fun s a w=>∃ (J:LI) (r y:Int) (f:FV),(J,r,y)=s∧a=fr 59 f∧f 1=(pB m)∧f 3=c.v∧f 4=iV t∧f 5=iV r∧f 20=p.v∧f 21=iV (o.length:Int)∧f 22=iV q∧f 35=b3.v∧f 36=iV (b2.length:Int)∧f 37=iV y∧St w0 ros (box m 28 [h.v,j.v,k.v]::row 3 I1 c.v J::row 22 S1 p.v o::row 3 I1 b3.v b2::rs) w) g0 ⟨_,_,_,_,rfl,rfl,x,a3,e5,e6,a4,a5,F,rfl,rfl,rfl,((b.pk 4 [1,1,1,0] rfl).facts (allT (allT allI)))⟩ ?_
  rintro _ _ w k8 ⟨J,r,y,f,rfl,rfl,K,z,L,N,b8,b9,c0,c1,c2,O,b⟩ g c3 k9 h1 c4
  refine sR fun _ h3=>yY (ylss (eh O) (eh c2)) (wK h3 (seqQ fun l0 h5 h7=>?_))
  refine cIf e0 g (fun h9 g=>?_) fun h9 g=>?_
  ·refine wp_skip (h5 _ _ (seqQ fun l1 i0 i1=>blockQ fun _ c5=>sR fun _ i2=>bE g fun R c6 g=>yY (yIa SL_22 (eh c1) (eh O) b rO3 c6) (yY (yI O_3 e0 b rO3 c6) (Ya (iV R) e0 (wK i2 (seqQ fun l2 i3 i4=>sQ fun _ i5=>?_))))))
   refine wR (Ym (iV r) (eh N) (yY (ymul rfl e0) (Ym (iV t) (eh L) (yY (ygeq e0 e0) (wK i5 ?_)))))
   refine cIf e0 g (fun i6 g=>?_) fun i6 g=>?_
   ·refine sR fun _ i7=>Ym c.v (eh z) (Ya c.v e0 (wK i7 (wp_ret (i4 _ _ _ rfl (c5 _ _ _ (i1 _ _ _ rfl ?_))))))
    cases g
    exact c4 _ _ _ _ rfl rfl (g9 _ _ _ rfl (b.pk 4 [1] rfl) (c3 _ rfl))
   ·refine wp_skip (i3 _ _ (sR fun _ i8=>Ym c.v (eh z) (Ym (iV R) e0 (bE g fun l3 c7 g=>yY (yIs SL_22 e0 e0 b rO1 c7) (yT (r_sti (cs:=[iV 0]) (b.pk 2 [1,0] rfl) O_3 rfl e0 rfl rfl mkI c7) fun w b=>wK i8 (wR (Ym (iV r) (eh N) ?_)))))))
    refine yY (yFb FL_28_1 (eh K)) (yY (lb_ j.v O_22 e0 b R1) (Ym (iV R) e0 (bE g fun i9 c8 g=>yY (yIa SL_22 e0 e0 b (rdI u) c8) (yY (yI O_3 e0 b (rdI u) c8) (yY (yadd e0 e0) (Ya (iV (wa .i64 r i9)) e0 (wN (c5 _ _ _ (i0 _ _ (wR (yY (yadd (eh O) rfl) (Ym (iV (wa .i64 y 1)) e0 ?_))))))))))))
    refine wN ?_
    cases g
    exact h1 _ _ _ rfl ⟨_,_,_,_,rfl,rfl,K,z,L,rfl,b8,b9,c0,c1,c2,rfl,(b.pk 4 [1,0,0,0] rfl)⟩
  ·refine wp_exit (h7 _ _ _ rfl ?_)
   cases g
   exact c4 _ _ _ _ rfl rfl (g1 _ _ _ _ K z L N b8 b9 c0 (b.pk 4 [0,0,0] rfl) (c3 _ rfl))
 ·refine wp_exit (f0 _ _ _ rfl ?_)
  cases d
  exact a7 _ _ _ _ rfl rfl (d9 _ _ _ a3 (b.pk 3 [1] rfl) (a6 _ rfl))
theorem dissect_match_ok {t:L2} {a9:LI} {b0:L2} {j p m:Hdr} {out:LI} (q:dissect_match t a9 b0=some out) (O:imm S1 j.v t∈ros) (d6:imm I1 p.v a9∈ros) (B:imm S1 m.v b0∈ros) (b:St w0 ros rs w):
  Calls Tryz.prog 40 #[.agg #[j.v,p.v,m.v]] w (fun e w=>∃ (b1:Hdr),e=.returned (b1.v)∧St w0 ros (row 3 I1 b1.v out::rs) w):=by
 refine enterQ Tryz.func40 rfl Tryz.ntmps40 rfl fun Q d7=>sR fun _ d8=>yBb (r_box (vals:=[j.v,p.v,m.v]) b e0 rfl) fun o w b=>Ya hnil.v rfl (wK d8 (sR fun _ d9=>yH (rLt (n:=1) (l:=[(-1)]) b SL_22 [iV (-1)] (bp1 rfl) rfl rfl (mks1 (cs:=[iV (-1)]) rfl mkI mks0)) fun m3 w b=>yY (yFb FL_28_1 e0) (yY (lb_ p.v O_22 e0 b R1) ?_)))
 refine yY (yLen SL_22 e0 b (rdI d6)) (bE q fun m4 e1 q=>?_)
 replace b:=b.fz
 refine yC (yCall FN_72 (a2 e0 e0)) (slices_Repeat_int_ok e1 F0 b) ?_
 rintro _ w ⟨g,rfl,b⟩
 refine ⟨_,rfl,?_⟩
 refine Ya g.v e0 (wK d9 (sQ fun _ e2=>sR fun _ e3=>yY (yFb FL_28_0 e0) (yY (yFb FL_26_0 e0) (yY (lb_ j.v O_24 e0 b R1) (yY (yLen SL_24 e0 b (rdI (mtF O))) (Ym (iV 0) rfl (wK e3 (blockQ fun e4 e5=>?_))))))))
 refine bE q fun e6 e7 q=>?_
 have e8:∀ (R:LI) (f:FV) w,f 3=g.v→St w0 ros (row 3 I1 g.v R::rs) w→R=e6→e4 (.exit 0) (fr 74 f) w:=by
  intro R f w e9 b ho
  subst ho
  refine e5 _ _ _ (e2 _ _ (sR fun _ f0=>Ym g.v (eh e9) (Ya g.v e0 (wK f0 (wp_ret ?_)))))
  cases q
  exact d7 _ _ _ (fin1r Tryz.results40 ⟨rfl,rfl⟩ ⟨_,rfl,b⟩)
 refine loopQ (fun s a w=>∃ (x:LI) (c:Int) (f:FV),(x,c)=s∧a=fr 74 f∧f 1=(pB o)∧f 3=g.v∧f 17=j.v∧f 18=iV (t.length:Int)∧f 19=iV c∧St w0 ros (box o 28 [j.v,p.v,m.v]::row 3 I1 g.v x::rs) w) e7 ⟨_,_,_,rfl,rfl,rfl,rfl,rfl,rfl,rfl,((b.pk 2 [1,0] rfl).facts (allT allI))⟩ ?_
 rintro _ _ w f1 ⟨x,c,f,rfl,rfl,b2,F,S,T,C,b⟩ h f2 m5 f3 f4
 refine sR fun _ f5=>yY (ylss (eh C) (eh T)) (wK f5 (seqQ fun m6 f6 f7=>?_))
 refine cIf e0 h (fun f8 h=>?_) fun f8 h=>?_
 ·refine wp_skip (f6 _ _ (sQ fun f9 g0=>?_))
  have b3:∀ (U:LI) (f:FV) w,f 1=(pB o)→f 3=g.v→f 17=j.v→f 18=iV (t.length:Int)→f 19=iV c→St w0 ros (box o 28 [j.v,p.v,m.v]::row 3 I1 g.v U::rs) w→dissect_match_j60 c U=some f1→f9 .normal (fr 74 f) w:=by
   intro U f w g1 g2 g3 g4 g5 b q
   refine g0 _ _ (wR (yY (yadd (eh g5) rfl) (Ym (iV (wa .i64 c 1)) e0 (wN ?_))))
   cases q
   exact f3 _ _ _ rfl ⟨_,_,_,rfl,rfl,g1,g2,g3,g4,rfl,b⟩
  refine blockQ fun _ b4=>sR fun _ g6=>Ym (iV c) (eh C) (bE h fun y b5 h=>yY (yIa SL_24 (eh S) (eh C) b (rdI O) b5) ?_)
  obtain ⟨u,b⟩:=iLs b O b5
  refine yY (yCt O_22 e0 b F1 rfl) (Ya (iV c) e0 (Ya u.v e0 (wK g6 (seqQ fun m7 g7 g8=>sR fun _ g9=>Ym g.v (eh F) (Ym (iV c) e0 (bE h fun m8 b6 h=>yY (yIa SL_22 e0 e0 b rO1 b6) (yY (yI O_3 e0 b rO1 b6) (yY (yneq e0 rfl) ?_))))))))
  refine wK g9 ?_
  rcases iteS h with ⟨V,h⟩ | ⟨V,h⟩
  ·refine condF e0 (nF (dT V)) (wp_skip (g7 _ _ (sR fun _ h0=>Ym (iV c) e0 (Ya (iV c) e0 (Ya (iV 0) rfl (wK h0 (sQ fun _ h1=>sR fun _ h3=>Ym u.v e0 ?_)))))))
   refine yY (yLen SL_22 e0 b (rdI F0)) (Ym (iV 0) rfl (wK h3 (blockQ fun h5 h7=>bE h fun h9 i0 h=>?_)))
   have i1:∀ (z:Int) (f:FV) w,f 1=(pB o)→f 3=g.v→f 4=iV c→f 6=iV z→f 17=j.v→f 18=iV (t.length:Int)→f 19=iV c→St w0 ros (box o 28 [j.v,p.v,m.v]::row 3 I1 g.v x::rs) w→z=h9→h5 (.exit 2) (fr 74 f) w:=by
    intro z f w i2 W b8 b9 i3 i4 i5 b ho
    subst ho
    refine h7 _ _ _ (h1 _ _ (wR (Ym g.v (eh W) (Ym (iV c) (eh b8) (Ym g.v (eh W) (Ym (iV z) (eh b9) (Ym (iV z) (eh b9) (Ym (iV c) (eh b8) (bE h fun m9 c0 h=>yY (yIs SL_22 e0 e0 b rO1 c0) (yT (r_sti (cs:=[iV z]) (b.pk 2 [1,0] rfl) O_3 rfl e0 e0 rfl mkI c0) fun w b=>bE h fun n0 c1 h=>?_))))))))))
    exact yY (yIs SL_22 e0 e0 b rO0 c1) (yT (r_sti (cs:=[iV c]) b O_3 rfl e0 e0 rfl mkI c1) fun w b=>wN (b4 _ _ _ (b3 _ _ _ i2 W i3 i4 i5 (b.pk 2 [1,0] rfl) h)))
   refine loopQ (fun s a w=>∃ (G A k:Int) (f:FV),(G,A,k)=s∧a=fr 74 f∧f 1=(pB o)∧f 3=g.v∧f 4=iV c∧f 6=iV G∧f 7=iV A∧f 17=j.v∧f 18=iV (t.length:Int)∧f 19=iV c∧f 30=u.v∧f 31=iV (y.length:Int)∧f 32=iV k∧St w0 (imm I1 u.v y::ros) (box o 28 [j.v,p.v,m.v]::row 3 I1 g.v x::rs) w) i0 ⟨_,_,_,_,rfl,rfl,b2,F,rfl,rfl,rfl,S,T,C,rfl,rfl,rfl,(b.facts (allC F0 (allT (allT allI))))⟩ ?_
   rintro _ _ w i6 ⟨G,A,k,f,rfl,rfl,H,I,J,X,Z,a0,a1,a3,a4,a5,D,b⟩ i i7 n1 i8 i9
   refine sR fun _ j0=>yY (ylss (eh D) (eh a5)) (wK j0 (seqQ fun n2 j1 j2=>?_))
   refine cIf e0 i (fun j3 i=>?_) fun j3 i=>?_
   ·refine wp_skip (j1 _ _ (sQ fun _ j4=>blockQ fun j5 j6=>sR fun _ j7=>Ym (iV k) (eh D) (bE i fun E c2 i=>yY (yIa SL_22 (eh a4) (eh D) b (rdI F0) c2) (yY (yI O_3 e0 b (rdI F0) c2) (Ya (iV k) e0 (Ya (iV E) e0 (wK j7 ?_)))))))
    refine sR fun _ j8=>Ym g.v (eh I) (Ym (iV E) e0 (bE i fun j9 c3 i=>yY (yIa SL_22 e0 e0 b rO1 c3) (yY (yI O_3 e0 b rO1 c3) (yY (yeql e0 rfl) (Ym (.bool (decide (j9=(-1)))) e0 (bE i fun k0 r i=>?_))))))
    refine joinW 11 (fun f w=>f 1=(pB o)∧f 3=g.v∧f 4=iV c∧f 6=iV G∧f 7=iV A∧f 8=iV k∧f 9=iV E∧f 17=j.v∧f 18=iV (t.length:Int)∧f 19=iV c∧f 30=u.v∧f 31=iV (y.length:Int)∧f 32=iV k∧f 53=.bool k0∧St w0 (imm I1 u.v y::ros) (box o 28 [j.v,p.v,m.v]::row 3 I1 g.v x::rs) w) (fun c4=>?_) ?_
    ·rcases iteS r with ⟨d,r⟩ | ⟨d,r⟩
     ·refine yG (dT d) (yFb FL_28_2 (eh H)) (yG (dT d) (lb_ m.v O_24 e0 b R0) (yG (dT d) (m_ (iV c) (eh J)) (bE r fun n3 c5 r=>yG (dT d) (yIa SL_24 e0 e0 b (rdI (mtF B)) c5) ?_)))
      obtain ⟨n4,b⟩:=iLs b (mtF B) c5
      refine yG (dT d) (yCt O_22 e0 b F1 rfl) (yG (dT d) (m_ (iV k) e0) (bE r fun k5 c6 r=>yG (dT d) (yIa SL_22 e0 e0 b (rdI F0) c6) (yG (dT d) (yI O_3 e0 b (rdI F0) c6) (yG (dT d) (m_ (iV A) (eh Z)) (yG (dT d) (ygtr e0 e0) (yY (pt_ (.bool (decide (A < k5))) e0 (dT d) e0) ?_))))))
      cases r
      exact c4 _ _ ⟨H,I,J,X,Z,rfl,rfl,a0,a1,a3,a4,a5,D,rfl,(b.facts (allC F2 (allT (allT (allT allI)))))⟩
     ·refine gN (dF d) (gN (dF d) (gN (dF d) (gN (dF d) (gN (dF d) (gN (dF d) (gN (dF d) (gN (dF d) (gN (dF d) (gN (dF d) (yY (pf_ (.bool false) e0 (dF d) rfl) ?_))))))))))
      cases r
      exact c4 _ _ ⟨H,I,J,X,Z,rfl,rfl,a0,a1,a3,a4,a5,D,rfl,b⟩
    rintro f w ⟨K,c7,L,k6,k7,c8,k8,c9,d0,d1,d2,d3,d4,k9,b⟩
    refine wK j8 ?_
    have d5:∀ (a6 a7:Int) (f:FV) w,f 1=(pB o)→f 3=g.v→f 4=iV c→f 6=iV a6→f 7=iV a7→f 17=j.v→f 18=iV (t.length:Int)→f 19=iV c→f 30=u.v→f 31=iV (y.length:Int)→f 32=iV k→St w0 (imm I1 u.v y::ros) (box o 28 [j.v,p.v,m.v]::row 3 I1 g.v x::rs) w→dissect_match_j67 k a6 a7=some i6→j5 .normal (fr 74 f) w:=by
     intro a6 a7 f w l0 l1 l2 l3 l4 l5 l6 l7 l8 l9 m0 b q
     refine j6 _ _ _ (j4 _ _ (wR (yY (yadd (eh m0) rfl) (Ym (iV (wa .i64 k 1)) e0 (wN ?_)))))
     cases q
     exact i8 _ _ _ rfl ⟨_,_,_,_,rfl,rfl,l0,l1,l2,l3,l4,l5,l6,l7,l8,l9,rfl,b⟩
    refine cB (eh k9) i (fun m1 i=>?_) fun m1 i=>?_
    ·refine bE i fun n5 a8 i=>bE i fun m2 N i=>dR [0,0,2,0,14,30,0,126,254,1,1023] [9,10] 2 folM ?_
     replace b:=b.drew
     refine Dn [0,1,2,3,4,5,6,7,8] [] [9] (yR rfl (m_ (iV E) (eh k8)) (yR rfl (yFb FL_28_2 (eh K)) (yR rfl (lb_ m.v O_24 e0 b R0) (yR rfl (m_ (iV c) (eh L)) (yR rfl (yIa SL_24 e0 e0 b (rdI (mtF B)) a8) ?_)))))
     obtain ⟨n6,b⟩:=iLs b (mtF B) a8
     refine yR rfl (yCt O_22 e0 b F1 rfl) (yR rfl (m_ (iV k) (eh c8)) (yR rfl (yIa SL_22 e0 e0 b (rdI F0) N) (yR rfl (yI O_3 e0 b (rdI F0) N) (Rn QSn ?_))))
     refine Lc1 rfl ?_
     refine Ly wn (a_ (iV E) e0) (Dn [] [1,2,3,4,5,6,7,8] [10] (Rn (yS rfl (yFb FL_28_2 (eh K)) (yS rfl (lb_ m.v O_24 e0 b R0) (yS rfl (m_ (iV c) (eh L)) (yS rfl (yIa SL_24 e0 e0 b (rdI (F_3 B)) a8) (yS rfl (yCt O_22 e0 b F1 rfl) (yS rfl (m_ (iV k) (eh c8)) (yS rfl (yIa SL_22 e0 e0 b (rdI F0) N) (yS rfl (yI O_3 e0 b (rdI F0) N) QSn)))))))) ?_))
     refine Lc1 rfl ?_
     exact Ly wn (a_ (iV m2) e0) (Dz [] [] (Rn QSn (d5 _ _ _ _ K c7 L rfl rfl c9 d0 d1 d2 d3 d4 (b.facts (allC F2 (allT (allT (allT allI))))) i)))
    ·exact wp_skip (d5 _ _ _ _ K c7 L k6 k7 c9 d0 d1 d2 d3 d4 b i)
   ·refine wp_exit (j2 _ _ _ rfl ?_)
    cases i
    exact i9 _ _ _ _ rfl rfl (i1 _ _ _ H I J X a0 a1 a3 (b.facts (allT allI)) (i7 _ rfl))
  ·exact condT e0 (nT (dF V)) (wp_exit (g8 _ _ _ rfl (b4 _ _ _ (b3 _ _ _ b2 F S T C (b.facts (allT (allT allI))) h))))
 ·refine wp_exit (f7 _ _ _ rfl ?_)
  cases h
  exact f4 _ _ _ _ rfl rfl (e8 _ _ _ F (b.pk 2 [1] rfl) (f2 _ rfl))
theorem dissect_weights_1_ok {a:Int} {out:Bool} (g:dissect_weights_1 a=some out) (c:St w0 ros rs w):
  Calls Tryz.prog 83 #[iV a] w (fun e w=>e=.returned (.bool out)∧St w0 ros rs w):=by
 refine enterQ Tryz.func83 rfl Tryz.ntmps83 rfl fun Q h=>sR fun _ i=>Ya (.bool false) rfl (wK i (sR fun _ j=>Ym (iV a) e0 (yY (ylss e0 rfl) (Ym (.bool (decide (a < 1))) e0 ?_))))
 refine joinW 3 (fun f w=>f 8=.bool ((decide (a < 1)) || (decide ((1099511627776:Int) < a)))∧St w0 ros rs w) (fun d=>?_) ?_
 ·rcases Bool.eq_false_or_eq_true (decide (a < 1)) with b | b
  ·exact gN b (gN b (yY (pt_ (.bool true) e0 b rfl) (d _ _ ⟨(congrArg Value.bool (orT b)),c⟩)))
  ·exact yG b (m_ (iV a) e0) (yG b (ygtr e0 rfl) (yY (pf_ (.bool (decide ((1099511627776:Int) < a))) e0 b e0) (d _ _ ⟨(congrArg Value.bool (orF b)),c⟩)))
 rintro f w ⟨k,c⟩
 refine Ya (.bool ((decide (a < 1)) || (decide ((1099511627776:Int) < a)))) (eh k) (wK j (wp_ret ?_))
 cases g
 exact h _ _ _ (fin1r Tryz.results83 ⟨rfl,rfl⟩ ⟨rfl,c⟩)
theorem slices_IndexFunc_int_ok {i:LI} {g:Hdr} {out:Int} (h:slices_IndexFunc_int i=some out) (j:imm I1 g.v i∈ros) (b:St w0 ros rs w):
  Calls Tryz.prog 80 #[g.v,.func (.func 83) #[] #[]] w (fun e w=>e=.returned (iV out)∧St w0 ros rs w):=by
 refine enterQ Tryz.func80 rfl Tryz.ntmps80 rfl fun Q m=>sR fun _ A=>Ya (iV 0) rfl (wK A (seqQ fun Z B C=>sR fun _ D=>Ym g.v e0 (yY (yLen SL_22 e0 b (rdI j)) (Ym (iV 0) rfl (wK D ?_)))))
 refine blockQ fun n o=>bE h fun p E h=>?_
 have F:∀ (f:FV) w,St w0 ros rs w→.inl ()=p→n (.exit 0) (fr 19 f) w:=by
  intro f w b ho
  subst ho
  refine o _ _ _ (B _ _ (sR fun _ G=>Ya (iV (-1)) rfl (wK G (wp_ret ?_))))
  cases h
  exact m _ _ _ (fin1r Tryz.results80 ⟨rfl,rfl⟩ ⟨rfl,b⟩)
 have H:∀ (k:Int) (f:FV) w,f 4=iV k→St w0 ros rs w→.inr k=p→n .ret (fr 19 f) w:=by
  intro k f w I b ho
  subst ho
  refine o _ _ _ (C _ _ _ rfl ?_)
  cases h
  exact m _ _ _ (fin1r Tryz.results80 ⟨rfl,I⟩ ⟨rfl,b⟩)
 refine loopQ (fun s a w=>∃ (d:Int) (f:FV),d=s∧a=fr 19 f∧f 0=g.v∧f 1=.func (.func 83) #[] #[]∧f 7=iV (i.length:Int)∧f 8=iV d∧St w0 ros rs w) E ⟨_,_,rfl,rfl,rfl,rfl,rfl,rfl,b⟩ ?_
 rintro _ _ w a0 ⟨d,f,rfl,rfl,q,r,t,l,b⟩ c u a2 J x
 refine sR fun _ K=>yY (ylss (eh l) (eh t)) (wK K (seqQ fun a3 L N=>?_))
 refine cIf e0 c (fun O c=>?_) fun O c=>?_
 ·refine wp_skip (L _ _ (seqQ fun a4 R S=>blockQ fun _ y=>sR fun _ T=>Ym (iV d) (eh l) (Ya (iV d) e0 (wK T (sR fun _ U=>Ym (.func (.func 83) #[] #[]) (eh r) (Ym g.v (eh q) ?_))))))
  refine Ym (iV d) e0 (bE c fun a5 z c=>yY (yIa SL_22 e0 e0 b (rdI j) z) (yY (yI O_3 e0 b (rdI j) z) (bE c fun a6 V c=>yC (yCallw FN_83 e0 (a1 e0)) (dissect_weights_1_ok V b) ?_)))
  rintro _ w ⟨rfl,b⟩
  refine ⟨_,rfl,?_⟩
  refine wK U (cB e0 c (fun W c=>?_) fun W c=>?_)
  ·refine sR fun _ X=>Ym (iV d) e0 (Ya (iV d) e0 (wK X (wp_ret (y _ _ _ (S _ _ _ rfl ?_)))))
   cases c
   exact x _ _ _ _ rfl rfl (H _ _ _ rfl b (u _ rfl))
  ·refine wp_skip (y _ _ _ (R _ _ (wR (yY (yadd (eh l) rfl) (Ym (iV (wa .i64 d 1)) e0 (wN ?_))))))
   cases c
   exact J _ _ _ rfl ⟨_,_,rfl,rfl,q,r,t,rfl,b⟩
 ·refine wp_exit (N _ _ _ rfl ?_)
  cases c
  exact x _ _ _ _ rfl rfl (F _ _ b (u _ rfl))
theorem slices_ContainsFunc_int_ok {d:LI} {a:Hdr} {out:Bool} (b:slices_ContainsFunc_int d=some out) (f:imm I1 a.v d∈ros) (c:St w0 ros rs w):
  Calls Tryz.prog 49 #[a.v,.func (.func 83) #[] #[]] w (fun e w=>e=.returned (.bool out)∧St w0 ros rs w):=by
 refine enterQ Tryz.func49 rfl Tryz.ntmps49 rfl fun Q g=>sR fun _ h=>Ya (.bool false) rfl (wK h (sR fun _ i=>Ym a.v e0 (Ym (.func (.func 83) #[] #[]) e0 (bE b fun j k b=>yC (yCall FN_80 (a2 e0 e0)) (slices_IndexFunc_int_ok k f c) ?_))))
 rintro _ w ⟨rfl,c⟩
 refine ⟨_,rfl,?_⟩
 refine yY (ygeq e0 rfl) (Ya (.bool (decide ((0:Int)≤j))) e0 (wK i (wp_ret ?_)))
 cases b
 exact g _ _ _ (fin1r Tryz.results49 ⟨rfl,rfl⟩ ⟨rfl,c⟩)
theorem dissect_weights_ok {d:LI} {a:Hdr} {out:Bool} (b:dissect_weights d=some out) (f:imm I1 a.v d∈ros) (c:St w0 ros rs w):
  Calls Tryz.prog 52 #[a.v] w (fun e w=>e=.returned (.bool out)∧St w0 ros rs w):=by
 refine enterQ Tryz.func52 rfl Tryz.ntmps52 rfl fun Q g=>sR fun _ h=>Ya (.bool false) rfl (wK h (sR fun _ i=>Ym a.v e0 (bE b fun j k b=>yC (yCall FN_49 (a2 e0 rfl)) (slices_ContainsFunc_int_ok k f c) ?_)))
 rintro _ w ⟨rfl,c⟩
 refine ⟨_,rfl,?_⟩
 refine yY (ynot e0) (Ya (.bool (!j)) e0 (wK i (wp_ret ?_)))
 cases b
 exact g _ _ _ (fin1r Tryz.results52 ⟨rfl,rfl⟩ ⟨rfl,c⟩)
theorem dissect_coarsen_ok {b2:L2} {m0:LI} {m1:L2} {c5:LI} {G I K a8:Hdr} {out:L2×LI×L2×LI×Bool} (r:dissect_coarsen b2 m0 m1 c5=some out) (e8:imm S1 G.v b2∈ros) (c6:imm I1 I.v m0∈ros) (m2:imm S1 K.v m1∈ros) (c7:imm I1 a8.v c5∈ros) (b:St w0 ros rs w):
  Calls Tryz.prog 42 #[.agg #[G.v,I.v,K.v],a8.v] w (fun e w=>∃ (m3:Hdr) (m4:List Hdr) (m5 m6:Hdr) (m7:List Hdr) (m8:Hdr),e=.returned (.tuple #[.agg #[m3.v,m5.v,m6.v],m8.v,.bool out.2.2.2.2])∧St w0 (imm I1 m5.v out.2.1::ros) (row 22 rH m3.v m4::fam 3 I1 m4 out.1::row 22 rH m6.v m7::fam 3 I1 m7 out.2.2.1::row 3 I1 m8.v out.2.2.2.1::rs) w):=by
 refine enterQ Tryz.func42 rfl Tryz.ntmps42 rfl fun Q e9=>sR fun _ u1=>yBb (r_box (vals:=[G.v,I.v,K.v]) b e0 rfl) fun D w b=>yBb (rAl b ZT_28) fun m w b=>Ya hnil.v rfl (Ya (.bool false) rfl (wK u1 (sR fun _ u2=>Ym a8.v e0 ?_)))
 refine yY (yLen SL_22 e0 b (rdI c7)) (bE r fun O6 u3 r=>yH (rMk b SL_22 e0 u3) fun i w b=>Ya i.v e0 (wK u2 (sQ fun _ u4=>sR fun _ u5=>Ym a8.v e0 (yY (yLen SL_22 e0 b (rdI c7)) (Ym (iV 0) rfl (wN ?_))))))
 refine u5 _ _ (blockQ fun u6 u7=>bE r fun u8 u9 r=>?_)
 have v0:∀ (o A:LI) (j:Hdr) (f:FV) w,f 2=(pB D)→f 4=(pB m)→f 5=i.v→St w0 ros (box D 28 [G.v,I.v,K.v]::row 3 I1 j.v o::box m 28 [hnil.v,j.v,hnil.v]::row 3 I1 i.v A::rs) w→(o,A)=u8→u6 (.exit 0) (fr 200 f) w:=by
  intro o A j f w v1 m9 v2 b ho
  subst ho
  refine u7 _ _ _ (u4 _ _ (sR fun _ v3=>yY (yFb FL_28_1 (eh m9)) (yY (lb_ j.v O_22 e0 b R2) (yY (yLen SL_22 e0 b rO1) (Ya (iV (o.length:Int)) e0 (wK v3 (sR fun _ v4=>Ym (iV (o.length:Int)) e0 (bE r fun v5 v6 r=>?_))))))))
  obtain ⟨v7,em112,v8⟩:=mkL_rep v6 hnil
  refine yH (rMk b SLH_24 e0 v8) fun p w b=>?_
  replace b:=(b.fReps 3 I1 v7).pk 2 [1,0] rfl
  rw [← em112] at b
  refine Ya p.v e0 (wK v4 (sQ fun _ v9=>sR fun _ w1=>Ym p.v e0 (yY (yLenF SLH_24 e0 b rO0 R1) (Ym (iV 0) rfl (wK w1 (blockQ fun w2 w3=>bE r fun w4 w5 r=>?_))))))
  have w6:∀ (f0:L2) (J:List Hdr) (f:FV) w,f 2=(pB D)→f 4=(pB m)→f 5=i.v→f 9=iV (o.length:Int)→f 10=p.v→St w0 ros (box D 28 [G.v,I.v,K.v]::row 3 I1 j.v o::box m 28 [hnil.v,j.v,hnil.v]::row 3 I1 i.v A::row 22 rH p.v J::fam 3 I1 J f0::rs) w→f0=w4→w2 (.exit 2) (fr 200 f) w:=by
   intro f0 J f w n0 w7 w8 w9 x0 b ho
   subst ho
   refine w3 _ _ _ (v9 _ _ (sQ fun _ x2=>sR fun _ x4=>yY (yFb FL_28_0 (eh n0)) (yY (yFb FL_26_0 e0) (yY (lb_ G.v O_24 e0 b R0) (yY (yLen SL_24 e0 b (rdI e8)) (Ym (iV 0) rfl (wK x4 (blockQ fun x6 x8=>bE r fun x9 y0 r=>?_))))))))
   have y1:∀ (E:L2) (f:FV) w,f 4=(pB m)→f 5=i.v→f 9=iV (o.length:Int)→f 10=p.v→St w0 ros (row 3 I1 j.v o::box m 28 [hnil.v,j.v,hnil.v]::row 3 I1 i.v A::row 22 rH p.v J::fam 3 I1 J E::rs) w→E=x9→x6 (.exit 4) (fr 200 f) w:=by
    intro E f w S f1 b3 f2 b ho
    subst ho
    refine x8 _ _ _ (x2 _ _ (sQ fun _ y2=>bE r fun y3 n1 r=>bE r fun y4 f3 r=>?_))
    refine joinN (n:=200) (fun f w=>∃ (k:Hdr) (f4:List Hdr) (d:Hdr) (f5:List Hdr),f 4=(pB m)∧f 5=i.v∧f 10=p.v∧St w0 ros (row 22 rH k.v f4::fam 3 I1 f4 y3::row 3 I1 j.v o::row 22 rH d.v f5::fam 3 I1 f5 y4::box m 28 [k.v,j.v,d.v]::row 3 I1 i.v A::row 22 rH p.v J::fam 3 I1 J E::rs) w) (fun f6=>?_) ?_
    ·refine dR [0,1,0,4,3,19,51,127,255] [1,3,6,8] 4 folM ?_
     replace b:=b.drew
     refine Dn [0,2] [] [1,3] (yR rfl (m_ (iV (o.length:Int)) (eh b3)) (yR rfl (m_ (iV (o.length:Int)) (eh b3)) (Rn QSn ?_)))
     refine Lc rfl ?_ (Lc1 rfl ?_)
     ·obtain ⟨f7,em228,f8⟩:=mkL_rep n1 hnil
      refine LH wn (rMk b SLH_24 e0 f8) fun a2 w b=>?_
      replace b:=(b.fReps 3 I1 f7).pk 2 [1,0] rfl
      rw [← em228] at b
      refine Dn [4,5] [2] [3,6] (yR rfl (yFb FL_28_0 (eh S)) (yR rfl (yFb FL_26_0 e0) (Rn (yS rfl (m_ (iV (o.length:Int)) (eh b3)) QSn) ?_)))
      refine Lc rfl ?_ (Lc1 rfl ?_)
      ·obtain ⟨b4,em231,b5⟩:=mkL_rep f3 hnil
       refine LH wn (rMk b SLH_24 e0 b5) fun b6 w b=>?_
       replace b:=(b.fReps 3 I1 b4).pk 2 [1,0] rfl
       rw [← em231] at b
       refine Dn [] [4,5] [6] (Rn (yS rfl (yFb FL_28_0 (eh S)) (yS rfl (yFb FL_26_0 e0) QSn)) ?_)
       refine Lc1 rfl ?_
       replace b:=b.pk 6 [5,0,0,0,0,0] rfl
       refine LT wn (r_stb1 (vals':=[a2.v,j.v,hnil.v]) b O_24 e0 e0 rfl rfl rfl rfl) fun w b=>Dn [7] [] [8] (yR rfl (yFb FL_28_2 (eh S)) (Rn QSn ?_))
       refine Lc1 rfl ?_
       exact LT wn (r_stb1 (vals':=[a2.v,j.v,b6.v]) b O_24 e0 e0 rfl rfl rfl rfl) fun w b=>Dz [] [] (Rn QSn (f6 _ _ ⟨_,_,_,_,S,f1,f2,(b.pk 9 [3,3,3,1,1,0,0,0,0] rfl)⟩))
      ·replace b:=b.pk 4 [3,0,0,0] rfl
       refine LT wn (r_stb1 (vals':=[a2.v,j.v,hnil.v]) b O_24 e0 e0 rfl rfl rfl rfl) fun w b=>Dn [] [2] [3] (Rn (yS rfl (m_ (iV (o.length:Int)) (eh b3)) QSn) ?_)
       refine Lc1 rfl ?_
       obtain ⟨b4,em231,b5⟩:=mkL_rep f3 hnil
       refine LH wn (rMk b SLH_24 e0 b5) fun b6 w b=>?_
       replace b:=(b.fReps 3 I1 b4).pk 2 [1,0] rfl
       rw [← em231] at b
       refine Dn [7] [] [8] (yR rfl (yFb FL_28_2 (eh S)) (Rn QSn ?_))
       refine Lc1 rfl ?_
       replace b:=b.pk 3 [2,0,0] rfl
       exact LT wn (r_stb1 (vals':=[a2.v,j.v,b6.v]) b O_24 e0 e0 rfl rfl rfl rfl) fun w b=>Dz [] [] (Rn QSn (f6 _ _ ⟨_,_,_,_,S,f1,f2,(b.pk 9 [3,3,3,1,1,0,0,0,0] rfl)⟩))
     ·obtain ⟨b4,em231,b5⟩:=mkL_rep f3 hnil
      refine LH wn (rMk b SLH_24 e0 b5) fun b6 w b=>?_
      replace b:=(b.fReps 3 I1 b4).pk 2 [1,0] rfl
      rw [← em231] at b
      refine Dn [] [0] [1] (Rn (yS rfl (m_ (iV (o.length:Int)) (eh b3)) QSn) ?_)
      refine Lc1 rfl ?_
      obtain ⟨f7,em228,f8⟩:=mkL_rep n1 hnil
      refine LH wn (rMk b SLH_24 e0 f8) fun a2 w b=>?_
      replace b:=(b.fReps 3 I1 f7).pk 2 [1,0] rfl
      rw [← em228] at b
      refine Dn [4,5] [] [6] (yR rfl (yFb FL_28_0 (eh S)) (yR rfl (yFb FL_26_0 e0) (Rn QSn ?_)))
      refine Lc1 rfl ?_
      replace b:=b.pk 6 [5,0,0,0,0,0] rfl
      refine LT wn (r_stb1 (vals':=[a2.v,j.v,hnil.v]) b O_24 e0 e0 rfl rfl rfl rfl) fun w b=>Dn [7] [] [8] (yR rfl (yFb FL_28_2 (eh S)) (Rn QSn ?_))
      refine Lc1 rfl ?_
      exact LT wn (r_stb1 (vals':=[a2.v,j.v,b6.v]) b O_24 e0 e0 rfl rfl rfl rfl) fun w b=>Dz [] [] (Rn QSn (f6 _ _ ⟨_,_,_,_,S,f1,f2,(b.pk 9 [1,1,3,1,1,0,0,0,0] rfl)⟩))
    rintro f w ⟨k,f4,d,f5,y5,y6,y7,b⟩
    refine y2 _ _ (seqQ fun O7 y8 y9=>sR fun _ z0=>Ym p.v (eh y7) (yY (yLenF SLH_24 e0 b rO7 R8) (Ym (iV 0) rfl (wK z0 (blockQ fun n2 n5=>?_)))))
    replace b:=(b.pk 9 [7,7,0,0,0,0,0,0,0] rfl).ffz
    refine bE r fun n6 z1 r=>?_
    have z2:∀ (f9 g0:L2) (g1 g2:List Hdr) (f:FV) w,f 4=(pB m)→f 5=i.v→St w0 ros (row 22 rH k.v g1::fam 3 I1 g1 f9::row 3 I1 j.v o::row 22 rH d.v g2::fam 3 I1 g2 g0::box m 28 [k.v,j.v,d.v]::row 3 I1 i.v A::rs) w→.inl (f9,g0)=n6→n2 (.exit 8) (fr 200 f) w:=by
     intro f9 g0 g1 g2 f w a9 z3 b ho
     subst ho
     refine n5 _ _ _ (y8 _ _ (seqQ fun O8 z4 z5=>sR fun _ z6=>yY (yFb FL_28_1 (eh a9)) (yY (lb_ j.v O_22 e0 b R5) (bE r fun O9 z7 r=>?_))))
     replace b:=(b.pk 3 [2,0,0] rfl).fz
     refine yC (yCall FN_52 (a1 e0)) (dissect_weights_ok z7 F0 b) ?_
     rintro _ w ⟨rfl,b⟩
     refine ⟨_,rfl,?_⟩
     refine yY (ynot e0) (wK z6 ?_)
     rcases iteS r with ⟨g3,r⟩ | ⟨g3,r⟩
     ·refine condF e0 (nF g3) (wp_skip (z4 _ _ (sR fun _ z8=>yY (lbs_ [k.v,j.v,d.v] ST_28 (eh a9) b R4) (Ym i.v (eh z3) (yT (r_stbn (vals':=[k.v,j.v,d.v]) (us:=[k.v,j.v,d.v]) (b.pk 5 [4,0,0,0,0] rfl) ST_28 (eh a9) e0 rfl rfl (one_of rfl) rfl) fun w b=>Ya i.v e0 (Ya (.bool true) rfl (wK z8 (wp_ret ?_))))))))
      cases r
      exact e9 _ _ _ (fin3r Tryz.results42 (rcs2 rfl a9 b R0 ST_28 rfl) ⟨rfl,rfl⟩ ⟨rfl,rfl⟩ ⟨_,_,_,_,_,_,rfl,(b.pk 6 [1,1,1,1,1] rfl)⟩)
     ·refine condT e0 (nT (bfalse g3)) (sR fun _ z9=>yY (ybuild (us:=[hnil.v,hnil.v,hnil.v]) [] SO_28 bp0 rfl) (yT (r_stbn (vals':=[hnil.v,hnil.v,hnil.v]) (us:=[hnil.v,hnil.v,hnil.v]) (b.pk 5 [4,0,0,0,0] rfl) ST_28 (eh a9) e0 rfl rfl (one_of rfl) rfl) fun w b=>Ya hnil.v rfl (Ya (.bool false) rfl (wK z9 (wp_ret (z5 _ _ _ rfl ?_))))))
      cases r
      replace b:=(((((((b.rowNh 22 rH).fNew 3 I1).pk 2 [1,0] rfl).immNh I1).rowNh 22 rH).fNew 3 I1).pk 2 [1,0] rfl).rowNh 3 I1
      exact e9 _ _ _ (fin3r Tryz.results42 (rcs2 rfl a9 b R5 ST_28 rfl) ⟨rfl,rfl⟩ ⟨rfl,rfl⟩ ⟨_,_,_,_,_,_,rfl,((b.pk 11 [3,3,1,1,0] rfl).facts (allC F0 (allT (allT allI))))⟩)
    have A0:∀ (f:FV) w,f 4=(pB m)→f 5=hnil.v→f 6=.bool false→St w0 ros (box m 28 [hnil.v,hnil.v,hnil.v]::rs) w→.inr ()=n6→n2 .ret (fr 200 f) w:=by
     intro f w A1 A2 A3 b ho
     subst ho
     refine n5 _ _ _ (y9 _ _ _ rfl ?_)
     cases r
     replace b:=(((((((b.rowNh 22 rH).fNew 3 I1).pk 2 [1,0] rfl).immNh I1).rowNh 22 rH).fNew 3 I1).pk 2 [1,0] rfl).rowNh 3 I1
     exact e9 _ _ _ (fin3r Tryz.results42 (rcs2 rfl A1 b R5 ST_28 rfl) ⟨rfl,A2⟩ ⟨rfl,A3⟩ ⟨_,_,_,_,_,_,rfl,(b.pk 6 [3,3,1,1,0] rfl)⟩)
    refine loopQ (fun s a w=>∃ (g4 g5:L2) (c:Int) (f:FV) (g6 g7:List Hdr),(g4,g5,c)=s∧a=fr 200 f∧f 4=(pB m)∧f 5=i.v∧f 136=p.v∧f 137=iV (E.length:Int)∧f 138=iV c∧St w0 (imm S1 p.v E::ros) (row 22 rH k.v g6::fam 3 I1 g6 g4::row 3 I1 j.v o::row 22 rH d.v g7::fam 3 I1 g7 g5::box m 28 [k.v,j.v,d.v]::row 3 I1 i.v A::rs) w) z1 ⟨_,_,_,_,_,_,rfl,rfl,y5,y6,rfl,rfl,rfl,b⟩ ?_
    rintro _ _ w P0 ⟨g4,g5,c,f,g6,g7,rfl,rfl,n8,n9,o0,o1,c8,b⟩ B o2 P1 A4 o5
    refine sR fun _ A5=>yY (ylss (eh c8) (eh o1)) (wK A5 (seqQ fun P2 A6 A7=>?_))
    refine cIf e0 B (fun A8 B=>?_) fun A8 B=>?_
    ·refine wp_skip (A6 _ _ (seqQ fun P3 A9 B0=>blockQ fun _ o6=>sR fun _ B1=>Ym (iV c) (eh c8) (bE B fun W o8 B=>yY (yIa SL_24 (eh o0) (eh c8) b (rdI F0) o8) ?_)))
     obtain ⟨R,b⟩:=iLs b F0 o8
     refine yY (yCt O_22 e0 b F1 rfl) (Ya (iV c) e0 (Ya R.v e0 (wK B1 (sQ fun _ B2=>sR fun _ B3=>Ym R.v e0 (yY (yLen SL_22 e0 b (rdI F0)) (Ym (iV 0) rfl (wK B3 (blockQ fun B4 B5=>?_))))))))
     refine bE B fun B6 B7 B=>?_
     have B8:∀ (g8 g9:L2) (h0 h1:List Hdr) (f:FV) w,f 4=(pB m)→f 5=i.v→f 16=iV c→f 136=p.v→f 137=iV (E.length:Int)→f 138=iV c→St w0 (imm S1 p.v E::ros) (row 22 rH k.v h0::fam 3 I1 h0 g8::row 3 I1 j.v o::row 22 rH d.v h1::fam 3 I1 h1 g9::box m 28 [k.v,j.v,d.v]::row 3 I1 i.v A::rs) w→(g8,g9)=B6→B4 (.exit 10) (fr 200 f) w:=by
      intro g8 g9 h0 h1 f w c9 B9 C0 C1 C2 C3 b ho
      subst ho
      refine B5 _ _ _ (B2 _ _ (sR fun _ C4=>yY (yFb FL_28_2 (eh c9)) (yY (lb_ d.v O_24 e0 b R5) (Ym (iV c) (eh C0) (bE B fun P4 o9 B=>?_)))))
      obtain ⟨P5,h3⟩:=b.famI R4 o9
      refine yY (yIa SLH_24 e0 e0 b rO3 h3) (yY (yF1 O_22 e0 b rO3 h3 rfl) (bE B fun P6 C5 B=>?_))
      have b7:=b.guest1 (rdF (mtR (mtR (mtR (mtR mhR)))) h3 o9)
      refine yC (yCall FN_52 (a1 e0)) (dissect_weights_ok C5 F0 b7) ?_
      clear b7
      rintro _ w ⟨rfl,b7⟩
      replace b:=b.back b7
      clear b7
      refine ⟨_,rfl,?_⟩
      refine yY (ynot e0) (wK C4 ?_)
      rcases iteS B with ⟨h5,B⟩ | ⟨h5,B⟩
      ·refine condF e0 (nF h5) (wp_skip (o6 _ _ _ (A9 _ _ (wR (yY (yadd (eh C3) rfl) (Ym (iV (wa .i64 c 1)) e0 (wN ?_)))))))
       cases B
       exact A4 _ _ _ rfl ⟨_,_,_,_,_,_,rfl,rfl,c9,B9,C1,C2,rfl,b⟩
      ·refine condT e0 (nT (bfalse h5)) (sR fun _ C6=>yY (ybuild (us:=[hnil.v,hnil.v,hnil.v]) [] SO_28 bp0 rfl) (yT (r_stbn (vals':=[hnil.v,hnil.v,hnil.v]) (us:=[hnil.v,hnil.v,hnil.v]) (b.pk 6 [5,0,0,0,0,0] rfl) ST_28 (eh c9) e0 rfl rfl (one_of rfl) rfl) fun w b=>Ya hnil.v rfl (Ya (.bool false) rfl (wK C6 (wp_ret (o6 _ _ _ (B0 _ _ _ rfl ?_)))))))
       cases B
       exact o5 _ _ _ _ rfl rfl (A0 _ _ c9 rfl rfl ((b.pk 7 [0] rfl).facts (allT allI)) (o2 _ rfl))
     refine loopQ (fun s a w=>∃ (d0 d1:L2) (x:Int) (f:FV) (b8 c0:List Hdr),(d0,d1,x)=s∧a=fr 200 f∧f 4=(pB m)∧f 5=i.v∧f 16=iV c∧f 136=p.v∧f 137=iV (E.length:Int)∧f 138=iV c∧f 143=R.v∧f 144=iV (W.length:Int)∧f 145=iV x∧St w0 (imm S1 p.v E::imm I1 R.v W::ros) (row 22 rH k.v b8::fam 3 I1 b8 d0::row 3 I1 j.v o::row 22 rH d.v c0::fam 3 I1 c0 d1::box m 28 [k.v,j.v,d.v]::row 3 I1 i.v A::rs) w) B7 ⟨_,_,_,_,_,_,rfl,rfl,n8,n9,rfl,o0,o1,c8,rfl,rfl,rfl,(b.facts (allC F2 (allC F0 (allT (allT (allT allI))))))⟩ ?_
     rintro _ _ w C7 ⟨d0,d1,x,f,b8,c0,rfl,rfl,h7,h9,d2,i0,i1,i2,i3,i4,c1,b⟩ y C8 P7 C9 D0
     refine sR fun _ D1=>yY (ylss (eh c1) (eh i4)) (wK D1 (seqQ fun P8 D2 D3=>?_))
     refine cIf e0 y (fun D4 y=>?_) fun D4 y=>?_
     ·refine wp_skip (D2 _ _ (sQ fun _ D5=>blockQ fun D6 D7=>sR fun _ D8=>Ym (iV x) (eh c1) (bE y fun C p0 y=>yY (yIa SL_22 (eh i3) (eh c1) b (rdI F1) p0) (yY (yI O_3 e0 b (rdI F1) p0) (Ya (iV x) e0 (Ya (iV C) e0 (wK D8 ?_)))))))
      refine sR fun _ D9=>Ym (iV c) (eh d2) (Ym (iV x) e0 (yY (yneq e0 e0) (Ym (.bool (!(decide (c=x)))) e0 ?_)))
      refine joinW 3 (fun f w=>f 4=(pB m)∧f 5=i.v∧f 16=iV c∧f 18=iV x∧f 19=iV C∧f 136=p.v∧f 137=iV (E.length:Int)∧f 138=iV c∧f 143=R.v∧f 144=iV (W.length:Int)∧f 145=iV x∧f 156=.bool ((!(decide (c=x))) && (decide ((0:Int) < C)))∧St w0 (imm S1 p.v E::imm I1 R.v W::ros) (row 22 rH k.v b8::fam 3 I1 b8 d0::row 3 I1 j.v o::row 22 rH d.v c0::fam 3 I1 c0 d1::box m 28 [k.v,j.v,d.v]::row 3 I1 i.v A::rs) w) (fun p1=>?_) ?_
      ·rcases Bool.eq_false_or_eq_true (!(decide (c=x))) with T | T
       ·exact yG T (m_ (iV C) e0) (yG T (ygtr e0 rfl) (yY (pt_ (.bool (decide ((0:Int) < C))) e0 T e0) (p1 _ _ ⟨h7,h9,d2,rfl,rfl,i0,i1,i2,i3,i4,c1,(congrArg Value.bool (andT T)),b⟩)))
       ·exact gN T (gN T (yY (pf_ (.bool false) e0 T rfl) (p1 _ _ ⟨h7,h9,d2,rfl,rfl,i0,i1,i2,i3,i4,c1,(congrArg Value.bool (andF T)),b⟩)))
      rintro f w ⟨g,d3,h,p2,i5,d4,d5,d6,d7,d8,d9,E0,b⟩
      refine wK D9 ?_
      have p3:∀ (i6 i7:L2) (i8 i9:List Hdr) (f:FV) w,f 4=(pB m)→f 5=i.v→f 16=iV c→f 136=p.v→f 137=iV (E.length:Int)→f 138=iV c→f 143=R.v→f 144=iV (W.length:Int)→f 145=iV x→St w0 (imm S1 p.v E::imm I1 R.v W::ros) (row 22 rH k.v i8::fam 3 I1 i8 i6::row 3 I1 j.v o::row 22 rH d.v i9::fam 3 I1 i9 i7::box m 28 [k.v,j.v,d.v]::row 3 I1 i.v A::rs) w→dissect_coarsen_j47 x i6 i7=some C7→D6 .normal (fr 200 f) w:=by
       intro i6 i7 i8 i9 f w E1 E2 E3 E4 E5 E6 E7 E8 E9 b r
       refine D7 _ _ _ (D5 _ _ (wR (yY (yadd (eh E9) rfl) (Ym (iV (wa .i64 x 1)) e0 (wN ?_)))))
       cases r
       exact C9 _ _ _ rfl ⟨_,_,_,_,_,_,rfl,rfl,E1,E2,E3,E4,E5,E6,E7,E8,rfl,b⟩
      refine cB (eh E0) y (fun F3 y=>?_) fun F3 y=>?_
      ·refine bE y fun P9 e1 y=>bE y fun Q0 j0 y=>bE y fun Q1 e2 y=>bE y fun Q2 j1 y=>bE y fun F4 b0 y=>bE y fun F5 b1 y=>?_
       refine joinN (n:=200) (fun f w=>∃ (j2 j3:List Hdr),f 4=(pB m)∧f 5=i.v∧f 16=iV c∧f 136=p.v∧f 137=iV (E.length:Int)∧f 138=iV c∧f 143=R.v∧f 144=iV (W.length:Int)∧f 145=iV x∧St w0 (imm S1 p.v E::imm I1 R.v W::ros) (row 22 rH k.v j2::fam 3 I1 j2 F4::row 3 I1 j.v o::row 22 rH d.v j3::fam 3 I1 j3 F5::box m 28 [k.v,j.v,d.v]::row 3 I1 i.v A::rs) w) (fun j4=>?_) ?_
       ·refine dR [0,1,3,0,0,16,0,0,128,384,0,1920,3968,0,8192,32640,0,65536,0,458752,983040,0,2097152,8388480,16777103,33554319,67108863,134217727] [14,15,22,23,25,27] 6 folM ?_
        replace b:=b.drew
        refine Dn [0,1,2,3,4,5,6,7,8,9,10,11,12,13,16,17,18,19,20,21] [] [14,22] (yR rfl (yFb FL_28_0 (eh g)) (yR rfl (yFb FL_26_0 e0) (yR rfl (lb_ k.v O_24 e0 b R5) (yR rfl (m_ (iV c) (eh h)) (yR rfl (yFb FL_28_2 (eh g)) (yR rfl (lb_ d.v O_24 e0 b R5) (yR rfl (m_ (iV c) (eh h)) (yR rfl (yFb FL_28_0 (eh g)) (yR rfl (yFb FL_26_0 e0) (yR rfl (lb_ k.v O_24 e0 b R5) (yR rfl (m_ (iV c) (eh h)) ?_)))))))))))
        obtain ⟨Q3,F⟩:=b.famI R1 e1
        refine yR rfl (yIa SLH_24 e0 e0 b rO0 F) (yR rfl (yF1 O_22 e0 b rO0 F rfl) (yR rfl (m_ (iV x) (eh p2)) (yR rfl (yFb FL_28_2 (eh g)) (yR rfl (lb_ d.v O_24 e0 b R5) (yR rfl (m_ (iV c) (eh h)) ?_)))))
        obtain ⟨Q4,t⟩:=b.famI R4 e2
        refine yR rfl (yIa SLH_24 e0 e0 b rO3 t) (yR rfl (yF1 O_22 e0 b rO3 t rfl) (yR rfl (m_ (iV C) (eh i5)) (Rn QSn ?_)))
        refine Lc rfl ?_ (Lc1 rfl ?_)
        ·refine LH wn (rLt (n:=1) (l:=[x]) b SL_22 [iV x] (bp1 e0) rfl rfl (mks1 (cs:=[iV x]) rfl mkI mks0)) fun F6 w b=>Dn [] [0,1,2,3,4,5,6,7,8,9,10,11,12,16,17,18,19,20,21] [15,22] (Rn (yS rfl (yFb FL_28_0 (eh g)) (yS rfl (yFb FL_26_0 e0) (yS rfl (lb_ k.v O_24 e0 b R6) (yS rfl (m_ (iV c) (eh h)) (yS rfl (yFb FL_28_2 (eh g)) (yS rfl (lb_ d.v O_24 e0 b R6) (yS rfl (m_ (iV c) (eh h)) (yS rfl (yFb FL_28_0 (eh g)) (yS rfl (yFb FL_26_0 e0) (yS rfl (lb_ k.v O_24 e0 b R6) (yS rfl (m_ (iV c) (eh h)) (yS rfl (yIa SLH_24 e0 e0 b rO1 F) (yS rfl (yF1 O_22 e0 b rO1 F rfl) (yS rfl (yFb FL_28_2 (eh g)) (yS rfl (lb_ d.v O_24 e0 b R6) (yS rfl (m_ (iV c) (eh h)) (yS rfl (yIa SLH_24 e0 e0 b rO4 t) (yS rfl (yF1 O_22 e0 b rO4 t rfl) (yS rfl (m_ (iV C) (eh i5)) QSn))))))))))))))))))) ?_)
         refine Lc rfl ?_ (Lc1 rfl ?_)
         ·replace b:=b.pk 3 [2,0,0] rfl
          replace b:=b.foc F e1
          refine LH wn (rAp b SL_22 e0 e0 rO2 j0) fun X w b=>Dn [] [0,1,2,3,4,5,6,16,17,18,19,20,21] [22] (Rn (yS rfl (yFb FL_28_0 (eh g)) (yS rfl (yFb FL_26_0 e0) (yS rfl (lb_ k.v O_24 e0 b R7) (yS rfl (m_ (iV c) (eh h)) (yS rfl (yFb FL_28_2 (eh g)) (yS rfl (lb_ d.v O_24 e0 b R7) (yS rfl (m_ (iV c) (eh h)) (yS rfl (yFb FL_28_2 (eh g)) (yS rfl (lb_ d.v O_24 e0 b R7) (yS rfl (m_ (iV c) (eh h)) (yS rfl (yIa SLH_24 e0 e0 b rO5 t) (yS rfl (yF1 O_22 e0 b rO5 t rfl) (yS rfl (m_ (iV C) (eh i5)) QSn))))))))))))) ?_)
          refine Lc1 rfl ?_
          refine LH wn (rLt (n:=1) (l:=[C]) b SL_22 [iV C] (bp1 e0) rfl rfl (mks1 (cs:=[iV C]) rfl mkI mks0)) fun p4 w b=>Dn [] [0,1,2,3,4,5,6,16,17,18,19,20] [23] (Rn (yS rfl (yFb FL_28_0 (eh g)) (yS rfl (yFb FL_26_0 e0) (yS rfl (lb_ k.v O_24 e0 b R8) (yS rfl (m_ (iV c) (eh h)) (yS rfl (yFb FL_28_2 (eh g)) (yS rfl (lb_ d.v O_24 e0 b R8) (yS rfl (m_ (iV c) (eh h)) (yS rfl (yFb FL_28_2 (eh g)) (yS rfl (lb_ d.v O_24 e0 b R8) (yS rfl (m_ (iV c) (eh h)) (yS rfl (yIa SLH_24 e0 e0 b rO6 t) (yS rfl (yF1 O_22 e0 b rO6 t rfl) QSn)))))))))))) ?_)
          refine Lc1 rfl ?_
          replace b:=(b.pk 8 [7,0,0,0,0,0,0,0] rfl).foc t e2
          refine LH wn (rAp b SL_22 e0 e0 rO2 j1) fun Z w b=>Dn [24] [0,1,2,3,4,5,6] [25] ?_
          obtain ⟨p5,L⟩:=setI_len (u:=X) b0 (b.famLx (mtR (mtR (mtR (mtR mhR)))))
          refine yR rfl (yIs SLH_24 e0 e0 b rO6 L) (Rn (yS rfl (yFb FL_28_0 (eh g)) (yS rfl (yFb FL_26_0 e0) (yS rfl (lb_ k.v O_24 e0 b R9) (yS rfl (m_ (iV c) (eh h)) (yS rfl (yFb FL_28_2 (eh g)) (yS rfl (lb_ d.v O_24 e0 b R9) (yS rfl (m_ (iV c) (eh h)) QSn))))))) ?_)
          refine Lc1 rfl ?_
          replace b:=b.pk 7 [6,0,0,0,0,0,0] rfl
          refine LT wn (r_sti (cs:=[X.v]) b O_22 rfl e0 e0 rfl (mkF rfl) L) fun w b=>?_
          replace b:=(b.pk 6 [4,4,0,0,0,0] rfl).unfS F L b0
          refine Dn [26] [4,5,6] [27] ?_
          obtain ⟨p6,N⟩:=setI_len (u:=Z) b1 (b.famLx (mtR (mtR (mtR mhR))))
          refine yR rfl (yIs SLH_24 e0 e0 b rO7 N) (Rn (yS rfl (yFb FL_28_2 (eh g)) (yS rfl (lb_ d.v O_24 e0 b R8) (yS rfl (m_ (iV c) (eh h)) QSn))) ?_)
          refine Lc1 rfl ?_
          replace b:=b.pk 8 [7,0,0,0,0,0,0,0] rfl
          refine LT wn (r_sti (cs:=[Z.v]) b O_22 rfl e0 e0 rfl (mkF rfl) N) fun w b=>?_
          replace b:=(b.pk 5 [3,3,0,0,0] rfl).unfS t N b1
          exact Dz [] [] (Rn QSn (j4 _ _ ⟨_,_,g,d3,h,d4,d5,d6,d7,d8,d9,(b.pk 9 [3,2,4,1,0,2,2] rfl)⟩))
         ·refine LH wn (rLt (n:=1) (l:=[C]) b SL_22 [iV C] (bp1 e0) rfl rfl (mks1 (cs:=[iV C]) rfl mkI mks0)) fun p4 w b=>Dn [] [0,1,2,3,4,5,6,7,8,9,10,11,12,16,17,18,19,20] [15] (Rn (yS rfl (yFb FL_28_0 (eh g)) (yS rfl (yFb FL_26_0 e0) (yS rfl (lb_ k.v O_24 e0 b R7) (yS rfl (m_ (iV c) (eh h)) (yS rfl (yFb FL_28_2 (eh g)) (yS rfl (lb_ d.v O_24 e0 b R7) (yS rfl (m_ (iV c) (eh h)) (yS rfl (yFb FL_28_0 (eh g)) (yS rfl (yFb FL_26_0 e0) (yS rfl (lb_ k.v O_24 e0 b R7) (yS rfl (m_ (iV c) (eh h)) (yS rfl (yIa SLH_24 e0 e0 b rO2 F) (yS rfl (yF1 O_22 e0 b rO2 F rfl) (yS rfl (yFb FL_28_2 (eh g)) (yS rfl (lb_ d.v O_24 e0 b R7) (yS rfl (m_ (iV c) (eh h)) (yS rfl (yIa SLH_24 e0 e0 b rO5 t) (yS rfl (yF1 O_22 e0 b rO5 t rfl) QSn)))))))))))))))))) ?_)
          refine Lc1 rfl ?_
          replace b:=(b.pk 4 [3,0,0,0] rfl).foc F e1
          refine LH wn (rAp b SL_22 e0 e0 rO3 j0) fun X w b=>Dn [] [0,1,2,3,4,5,6,16,17,18,19,20] [23] (Rn (yS rfl (yFb FL_28_0 (eh g)) (yS rfl (yFb FL_26_0 e0) (yS rfl (lb_ k.v O_24 e0 b R8) (yS rfl (m_ (iV c) (eh h)) (yS rfl (yFb FL_28_2 (eh g)) (yS rfl (lb_ d.v O_24 e0 b R8) (yS rfl (m_ (iV c) (eh h)) (yS rfl (yFb FL_28_2 (eh g)) (yS rfl (lb_ d.v O_24 e0 b R8) (yS rfl (m_ (iV c) (eh h)) (yS rfl (yIa SLH_24 e0 e0 b rO6 t) (yS rfl (yF1 O_22 e0 b rO6 t rfl) QSn)))))))))))) ?_)
          refine Lc1 rfl ?_
          replace b:=(b.pk 8 [7,0,0,0,0,0,0,0] rfl).foc t e2
          refine LH wn (rAp b SL_22 e0 e0 rO4 j1) fun Z w b=>Dn [24] [0,1,2,3,4,5,6] [25] ?_
          obtain ⟨p5,L⟩:=setI_len (u:=X) b0 (b.famLx (mtR (mtR (mtR mhR))))
          refine yR rfl (yIs SLH_24 e0 e0 b rO6 L) (Rn (yS rfl (yFb FL_28_0 (eh g)) (yS rfl (yFb FL_26_0 e0) (yS rfl (lb_ k.v O_24 e0 b R9) (yS rfl (m_ (iV c) (eh h)) (yS rfl (yFb FL_28_2 (eh g)) (yS rfl (lb_ d.v O_24 e0 b R9) (yS rfl (m_ (iV c) (eh h)) QSn))))))) ?_)
          refine Lc1 rfl ?_
          replace b:=b.pk 7 [6,0,0,0,0,0,0] rfl
          refine LT wn (r_sti (cs:=[X.v]) b O_22 rfl e0 e0 rfl (mkF rfl) L) fun w b=>?_
          replace b:=(b.pk 5 [3,3,0,0,0] rfl).unfS F L b0
          refine Dn [26] [4,5,6] [27] ?_
          obtain ⟨p6,N⟩:=setI_len (u:=Z) b1 (b.famLx (mtR (mtR (mtR mhR))))
          refine yR rfl (yIs SLH_24 e0 e0 b rO7 N) (Rn (yS rfl (yFb FL_28_2 (eh g)) (yS rfl (lb_ d.v O_24 e0 b R8) (yS rfl (m_ (iV c) (eh h)) QSn))) ?_)
          refine Lc1 rfl ?_
          replace b:=b.pk 8 [7,0,0,0,0,0,0,0] rfl
          refine LT wn (r_sti (cs:=[Z.v]) b O_22 rfl e0 e0 rfl (mkF rfl) N) fun w b=>?_
          replace b:=(b.pk 5 [3,3,0,0,0] rfl).unfS t N b1
          exact Dz [] [] (Rn QSn (j4 _ _ ⟨_,_,g,d3,h,d4,d5,d6,d7,d8,d9,(b.pk 9 [3,2,4,1,0,2,2] rfl)⟩))
        ·refine LH wn (rLt (n:=1) (l:=[C]) b SL_22 [iV C] (bp1 e0) rfl rfl (mks1 (cs:=[iV C]) rfl mkI mks0)) fun p4 w b=>Dn [] [0,1,2,3,4,5,6,7,8,9,10,11,12,13,16,17,18,19,20] [14] (Rn (yS rfl (yFb FL_28_0 (eh g)) (yS rfl (yFb FL_26_0 e0) (yS rfl (lb_ k.v O_24 e0 b R6) (yS rfl (m_ (iV c) (eh h)) (yS rfl (yFb FL_28_2 (eh g)) (yS rfl (lb_ d.v O_24 e0 b R6) (yS rfl (m_ (iV c) (eh h)) (yS rfl (yFb FL_28_0 (eh g)) (yS rfl (yFb FL_26_0 e0) (yS rfl (lb_ k.v O_24 e0 b R6) (yS rfl (m_ (iV c) (eh h)) (yS rfl (yIa SLH_24 e0 e0 b rO1 F) (yS rfl (yF1 O_22 e0 b rO1 F rfl) (yS rfl (m_ (iV x) (eh p2)) (yS rfl (yFb FL_28_2 (eh g)) (yS rfl (lb_ d.v O_24 e0 b R6) (yS rfl (m_ (iV c) (eh h)) (yS rfl (yIa SLH_24 e0 e0 b rO4 t) (yS rfl (yF1 O_22 e0 b rO4 t rfl) QSn))))))))))))))))))) ?_)
         refine Lc1 rfl ?_
         refine LH wn (rLt (n:=1) (l:=[x]) b SL_22 [iV x] (bp1 e0) rfl rfl (mks1 (cs:=[iV x]) rfl mkI mks0)) fun F6 w b=>Dn [] [0,1,2,3,4,5,6,7,8,9,10,11,12,16,17,18,19,20] [15] (Rn (yS rfl (yFb FL_28_0 (eh g)) (yS rfl (yFb FL_26_0 e0) (yS rfl (lb_ k.v O_24 e0 b R7) (yS rfl (m_ (iV c) (eh h)) (yS rfl (yFb FL_28_2 (eh g)) (yS rfl (lb_ d.v O_24 e0 b R7) (yS rfl (m_ (iV c) (eh h)) (yS rfl (yFb FL_28_0 (eh g)) (yS rfl (yFb FL_26_0 e0) (yS rfl (lb_ k.v O_24 e0 b R7) (yS rfl (m_ (iV c) (eh h)) (yS rfl (yIa SLH_24 e0 e0 b rO2 F) (yS rfl (yF1 O_22 e0 b rO2 F rfl) (yS rfl (yFb FL_28_2 (eh g)) (yS rfl (lb_ d.v O_24 e0 b R7) (yS rfl (m_ (iV c) (eh h)) (yS rfl (yIa SLH_24 e0 e0 b rO5 t) (yS rfl (yF1 O_22 e0 b rO5 t rfl) QSn)))))))))))))))))) ?_)
         refine Lc1 rfl ?_
         replace b:=(b.pk 4 [3,0,0,0] rfl).foc F e1
         refine LH wn (rAp b SL_22 e0 e0 rO2 j0) fun X w b=>Dn [] [0,1,2,3,4,5,6,16,17,18,19,20] [23] (Rn (yS rfl (yFb FL_28_0 (eh g)) (yS rfl (yFb FL_26_0 e0) (yS rfl (lb_ k.v O_24 e0 b R8) (yS rfl (m_ (iV c) (eh h)) (yS rfl (yFb FL_28_2 (eh g)) (yS rfl (lb_ d.v O_24 e0 b R8) (yS rfl (m_ (iV c) (eh h)) (yS rfl (yFb FL_28_2 (eh g)) (yS rfl (lb_ d.v O_24 e0 b R8) (yS rfl (m_ (iV c) (eh h)) (yS rfl (yIa SLH_24 e0 e0 b rO6 t) (yS rfl (yF1 O_22 e0 b rO6 t rfl) QSn)))))))))))) ?_)
         refine Lc1 rfl ?_
         replace b:=(b.pk 8 [7,0,0,0,0,0,0,0] rfl).foc t e2
         refine LH wn (rAp b SL_22 e0 e0 rO5 j1) fun Z w b=>Dn [24] [0,1,2,3,4,5,6] [25] ?_
         obtain ⟨p5,L⟩:=setI_len (u:=X) b0 (b.famLx (mtR (mtR (mtR mhR))))
         refine yR rfl (yIs SLH_24 e0 e0 b rO6 L) (Rn (yS rfl (yFb FL_28_0 (eh g)) (yS rfl (yFb FL_26_0 e0) (yS rfl (lb_ k.v O_24 e0 b R9) (yS rfl (m_ (iV c) (eh h)) (yS rfl (yFb FL_28_2 (eh g)) (yS rfl (lb_ d.v O_24 e0 b R9) (yS rfl (m_ (iV c) (eh h)) QSn))))))) ?_)
         refine Lc1 rfl ?_
         replace b:=b.pk 7 [6,0,0,0,0,0,0] rfl
         refine LT wn (r_sti (cs:=[X.v]) b O_22 rfl e0 e0 rfl (mkF rfl) L) fun w b=>?_
         replace b:=(b.pk 5 [3,3,0,0,0] rfl).unfS F L b0
         refine Dn [26] [4,5,6] [27] ?_
         obtain ⟨p6,N⟩:=setI_len (u:=Z) b1 (b.famLx (mtR (mtR (mtR mhR))))
         refine yR rfl (yIs SLH_24 e0 e0 b rO7 N) (Rn (yS rfl (yFb FL_28_2 (eh g)) (yS rfl (lb_ d.v O_24 e0 b R8) (yS rfl (m_ (iV c) (eh h)) QSn))) ?_)
         refine Lc1 rfl ?_
         replace b:=b.pk 8 [7,0,0,0,0,0,0,0] rfl
         refine LT wn (r_sti (cs:=[Z.v]) b O_22 rfl e0 e0 rfl (mkF rfl) N) fun w b=>?_
         replace b:=(b.pk 5 [3,3,0,0,0] rfl).unfS t N b1
         exact Dz [] [] (Rn QSn (j4 _ _ ⟨_,_,g,d3,h,d4,d5,d6,d7,d8,d9,(b.pk 9 [3,2,4,1,0,2,2] rfl)⟩))
       rintro f w ⟨j2,j3,F7,F8,F9,G0,G1,G2,G3,G4,G5,b⟩
       exact p3 _ _ _ _ _ _ F7 F8 F9 G0 G1 G2 G3 G4 G5 b y
      ·exact wp_skip (p3 _ _ _ _ _ _ g d3 h d4 d5 d6 d7 d8 d9 b y)
     ·refine wp_exit (D3 _ _ _ rfl ?_)
      cases y
      exact D0 _ _ _ _ rfl rfl (B8 _ _ _ _ _ _ h7 h9 d2 i0 i1 i2 (b.facts (allC F0 (allT (allT allI)))) (C8 _ rfl))
    ·refine wp_exit (A7 _ _ _ rfl ?_)
     cases B
     exact o5 _ _ _ _ rfl rfl (z2 _ _ _ _ _ _ n8 n9 (b.facts (allT allI)) (o2 _ rfl))
   refine loopQ (fun s a w=>∃ (j5:L2) (O:Int) (f:FV),(j5,O)=s∧a=fr 200 f∧f 2=(pB D)∧f 4=(pB m)∧f 5=i.v∧f 9=iV (o.length:Int)∧f 10=p.v∧f 90=G.v∧f 91=iV (b2.length:Int)∧f 92=iV O∧St w0 ros (box D 28 [G.v,I.v,K.v]::row 3 I1 j.v o::box m 28 [hnil.v,j.v,hnil.v]::row 3 I1 i.v A::row 22 rH p.v J::fam 3 I1 J j5::rs) w) y0 ⟨_,_,_,rfl,rfl,n0,w7,w8,w9,x0,rfl,rfl,rfl,b⟩ ?_
   rintro _ _ w Q6 ⟨j5,O,f,rfl,rfl,G6,p7,p8,p9,q0,q5,q6,e3,b⟩ U G7 Q7 G8 G9
   refine sR fun _ H0=>yY (ylss (eh e3) (eh q6)) (wK H0 (seqQ fun Q8 H1 H2=>?_))
   refine cIf e0 U (fun H3 U=>?_) fun H3 U=>?_
   ·refine wp_skip (H1 _ _ (sQ fun _ H4=>blockQ fun _ H5=>sR fun _ H6=>Ym (iV O) (eh e3) (bE U fun q7 q8 U=>yY (yIa SL_24 (eh q5) (eh e3) b (rdI e8) q8) ?_)))
    obtain ⟨e4,b⟩:=iLs b e8 q8
    refine yY (yCt O_22 e0 b F1 rfl) (Ya (iV O) e0 (Ya e4.v e0 (wK H6 (sR fun _ H7=>Ym e4.v e0 (yY (yLen SL_22 e0 b (rdI F0)) (Ym (iV 0) rfl (wK H7 (blockQ fun H8 H9=>bE U fun I0 I2 U=>?_))))))))
    have I3:∀ (j6:L2) (f:FV) w,f 2=(pB D)→f 4=(pB m)→f 5=i.v→f 9=iV (o.length:Int)→f 10=p.v→f 90=G.v→f 91=iV (b2.length:Int)→f 92=iV O→St w0 ros (box D 28 [G.v,I.v,K.v]::row 3 I1 j.v o::box m 28 [hnil.v,j.v,hnil.v]::row 3 I1 i.v A::row 22 rH p.v J::fam 3 I1 J j6::rs) w→j6=I0→H8 (.exit 6) (fr 200 f) w:=by
     intro j6 f w I4 I5 I6 I7 I8 I9 J0 J1 b ho
     subst ho
     refine H9 _ _ _ (H5 _ _ _ (H4 _ _ (wR (yY (yadd (eh J1) rfl) (Ym (iV (wa .i64 O 1)) e0 (wN ?_))))))
     cases U
     exact G8 _ _ _ rfl ⟨_,_,_,rfl,rfl,I4,I5,I6,I7,I8,I9,J0,rfl,b⟩
    refine loopQ (fun s a w=>∃ (j7:L2) (a3:Int) (f:FV),(j7,a3)=s∧a=fr 200 f∧f 2=(pB D)∧f 4=(pB m)∧f 5=i.v∧f 9=iV (o.length:Int)∧f 10=p.v∧f 12=iV O∧f 90=G.v∧f 91=iV (b2.length:Int)∧f 92=iV O∧f 97=e4.v∧f 98=iV (q7.length:Int)∧f 99=iV a3∧St w0 (imm I1 e4.v q7::ros) (box D 28 [G.v,I.v,K.v]::row 3 I1 j.v o::box m 28 [hnil.v,j.v,hnil.v]::row 3 I1 i.v A::row 22 rH p.v J::fam 3 I1 J j7::rs) w) I2 ⟨_,_,_,rfl,rfl,G6,p7,p8,p9,q0,rfl,q5,q6,e3,rfl,rfl,rfl,(b.facts (allC F0 (allT (allT allI))))⟩ ?_
    rintro _ _ w Q9 ⟨j7,a3,f,rfl,rfl,j9,q9,e5,r0,k0,k5,r1,r2,r3,r4,r5,e6,b⟩ z J2 S0 J3 J4
    refine sR fun _ J5=>yY (ylss (eh e6) (eh r5)) (wK J5 (seqQ fun S3 J6 J7=>?_))
    refine cIf e0 z (fun J8 z=>?_) fun J8 z=>?_
    ·refine wp_skip (J6 _ _ (sQ fun _ J9=>blockQ fun _ K0=>sR fun _ K1=>Ym (iV a3) (eh e6) (bE z fun r6 r7 z=>yY (yIa SL_22 (eh r4) (eh e6) b (rdI F0) r7) (yY (yI O_3 e0 b (rdI F0) r7) (Ya (iV a3) e0 (Ya (iV r6) e0 (wK K1 ?_)))))))
     refine bE z fun S4 r8 z=>bE z fun S5 c2 z=>bE z fun S6 r9 z=>bE z fun K2 s0 z=>bE z fun S7 s1 z=>bE z fun K3 s2 z=>bE z fun S8 s3 z=>bE z fun S9 K4 z=>dR [0,0,0,6,14,31,63,0,0,384,896,2047,4095,0,8192,0,57344,122880,0,516096,1040384,2097151,4194303,8388607] [23] 1 folM ?_
     replace b:=b.drew
     refine Dn [0,1,2,3,4,5,6,7,8,9,10,11,12,13,14,15,16,17,18,19,20,21,22] [] [23] (yR rfl (m_ p.v (eh k0)) (yR rfl (m_ i.v (eh e5)) (yR rfl (m_ (iV O) (eh k5)) (yR rfl (yIa SL_22 e0 e0 b rO3 r8) (yR rfl (yI O_3 e0 b rO3 r8) ?_)))))
     obtain ⟨T0,a4⟩:=b.famI R5 c2
     refine yR rfl (yIa SLH_24 e0 e0 b rO4 a4) (yR rfl (yF1 O_22 e0 b rO4 a4 rfl) (yR rfl (m_ i.v (eh e5)) (yR rfl (m_ (iV r6) e0) (yR rfl (yIa SL_22 e0 e0 b rO3 r9) (yR rfl (yI O_3 e0 b rO3 r9) (yR rfl (yIa SL_22 e0 e0 b (rdF R5 a4 c2) s0) (yR rfl (yI O_3 e0 b (rdF R5 a4 c2) s0) (yR rfl (yFb FL_28_2 (eh j9)) (yR rfl (lb_ K.v O_24 e0 b R0) (yR rfl (m_ (iV O) (eh k5)) (yR rfl (yIa SL_24 e0 e0 b (rdI (mtF m2)) s1) ?_)))))))))))
     obtain ⟨T1,b⟩:=iLs b (mtF m2) s1
     refine yR rfl (yCt O_22 e0 b F1 rfl) (yR rfl (m_ (iV a3) e0) (yR rfl (yIa SL_22 e0 e0 b (rdI F0) s2) (yR rfl (yI O_3 e0 b (rdI F0) s2) (yR rfl (yadd e0 e0) (yR rfl (yIs SL_22 e0 e0 b (rdF R5 a4 c2) s3) (Rn QSn ?_))))))
     refine Lc1 rfl ?_
     replace b:=b.pk 6 [5,0,0,0,0,0] rfl
     refine LT wn (r_sti (cs:=[iV (wa .i64 K2 K3)]) (b.foc a4 c2) O_3 rfl e0 e0 rfl mkI s3) fun w b=>?_
     replace b:=b.unfoc' a4 K4
     refine Dz [] [] (Rn QSn (K0 _ _ _ (J9 _ _ (wR (yY (yadd (eh e6) rfl) (Ym (iV (wa .i64 a3 1)) e0 (wN ?_)))))))
     cases z
     exact J3 _ _ _ rfl ⟨_,_,_,rfl,rfl,j9,q9,e5,r0,k0,k5,r1,r2,r3,r4,r5,rfl,((b.pk 6 [1,1,1,1,1,0] rfl).facts (allC F2 (allT (allT (allT allI)))))⟩
    ·refine wp_exit (J7 _ _ _ rfl ?_)
     cases z
     exact J4 _ _ _ _ rfl rfl (I3 _ _ _ j9 q9 e5 r0 k0 r1 r2 r3 (b.facts (allT allI)) (J2 _ rfl))
   ·refine wp_exit (H2 _ _ _ rfl ?_)
    cases U
    exact G9 _ _ _ _ rfl rfl (y1 _ _ _ p7 p8 p9 q0 (b.pk 6 [1,1,1,1,1] rfl) (G7 _ rfl))
  refine loopQ (fun s a w=>∃ (k6:L2) (a5:Int) (f:FV) (k7:List Hdr),(k6,a5)=s∧a=fr 200 f∧f 2=(pB D)∧f 4=(pB m)∧f 5=i.v∧f 9=iV (o.length:Int)∧f 10=p.v∧f 78=iV (v5.length:Int)∧f 79=iV a5∧St w0 ros (box D 28 [G.v,I.v,K.v]::row 3 I1 j.v o::box m 28 [hnil.v,j.v,hnil.v]::row 3 I1 i.v A::row 22 rH p.v k7::fam 3 I1 k7 k6::rs) w) w5 ⟨_,_,_,_,rfl,rfl,v1,m9,v2,rfl,rfl,rfl,rfl,(b.pk 6 [2,2,2,2,0,0] rfl)⟩ ?_
  rintro _ _ w T2 ⟨k6,a5,f,k7,rfl,rfl,s4,s5,s6,k8,k9,s7,l0,b⟩ V K5 T3 K6 K7
  refine sR fun _ K8=>yY (ylss (eh l0) (eh s7)) (wK K8 (seqQ fun T4 K9 L0=>?_))
  refine cIf e0 V (fun L1 V=>?_) fun L1 V=>?_
  ·refine wp_skip (K9 _ _ (sQ fun _ L3=>blockQ fun _ L4=>sR fun _ L5=>Ym (iV a5) (eh l0) (Ya (iV a5) e0 (wK L5 (wR (Ym p.v (eh k9) (Ym (iV a5) e0 (Ym (iV (o.length:Int)) (eh k8) ?_))))))))
   refine bE V fun T5 L6 V=>yH (rMk b SL_22 e0 L6) fun s8 w b=>bE V fun T6 s9 V=>?_
   obtain ⟨T7,l1⟩:=setI_len (u:=s8) s9 (b.famL (mtR (mtR (mtR (mtR (mtR (mtR mhR)))))))
   refine yY (yIs SLH_24 e0 e0 b rO5 l1) (yT (r_sti (cs:=[s8.v]) (b.pk 6 [5,0,0,0,0,0] rfl) O_22 rfl e0 e0 rfl (mkF rfl) l1) fun w b=>?_)
   replace b:=(b.pk 7 [1,5,0,0,0,0,0] rfl).fput l1 s9
   refine wN (L4 _ _ _ (L3 _ _ (wR (yY (yadd (eh l0) rfl) (Ym (iV (wa .i64 a5 1)) e0 (wN ?_))))))
   cases V
   exact K6 _ _ _ rfl ⟨_,_,_,_,rfl,rfl,s4,s5,s6,k8,k9,s7,rfl,(b.pk 6 [2,2,2,2,1,0] rfl)⟩
  ·refine wp_exit (L0 _ _ _ rfl ?_)
   cases V
   exact K7 _ _ _ _ rfl rfl (w6 _ _ _ _ s4 s5 s6 k8 k9 b (K5 _ rfl))
 replace b:=b.rowNh 3 I1
 refine loopQ (fun s a w=>∃ (e7 l2:LI) (H:Int) (f:FV) (a6:Hdr),(e7,l2,H)=s∧a=fr 200 f∧f 2=(pB D)∧f 4=(pB m)∧f 5=i.v∧f 23=a8.v∧f 24=iV (c5.length:Int)∧f 25=iV H∧St w0 ros (box D 28 [G.v,I.v,K.v]::row 3 I1 a6.v e7::box m 28 [hnil.v,a6.v,hnil.v]::row 3 I1 i.v l2::rs) w) u9 ⟨_,_,_,_,_,rfl,rfl,rfl,rfl,rfl,rfl,rfl,rfl,(b.pk 4 [3,0,1,0] rfl)⟩ ?_
 rintro _ _ w L7 ⟨e7,l2,H,f,a6,rfl,rfl,c3,a0,a7,l3,l4,c4,b⟩ q L8 T8 L9 M0
 refine sR fun _ M1=>yY (ylss (eh c4) (eh l4)) (wK M1 (seqQ fun T9 M2 M3=>?_))
 refine cIf e0 q (fun M4 q=>?_) fun M4 q=>?_
 ·refine wp_skip (M2 _ _ (sQ fun M5 M6=>?_))
  have t0:∀ (l5 l6:LI) (l7:Hdr) (f:FV) w,f 2=(pB D)→f 4=(pB m)→f 5=i.v→f 23=a8.v→f 24=iV (c5.length:Int)→f 25=iV H→St w0 ros (box D 28 [G.v,I.v,K.v]::row 3 I1 l7.v l5::box m 28 [hnil.v,l7.v,hnil.v]::row 3 I1 i.v l6::rs) w→dissect_coarsen_j50 H l5 l6=some L7→M5 .normal (fr 200 f) w:=by
   intro l5 l6 l7 f w M7 M8 M9 N0 N1 N2 b r
   refine M6 _ _ (wR (yY (yadd (eh N2) rfl) (Ym (iV (wa .i64 H 1)) e0 (wN ?_))))
   cases r
   exact L9 _ _ _ rfl ⟨_,_,_,_,_,rfl,rfl,M7,M8,M9,N0,N1,rfl,b⟩
  refine blockQ fun _ t1=>sR fun _ N3=>Ym (iV H) (eh c4) (bE q fun l8 t2 q=>yY (yIa SL_22 (eh l3) (eh c4) b (rdI c7) t2) (yY (yI O_3 e0 b (rdI c7) t2) (Ya (iV H) e0 (Ya (iV l8) e0 (wK N3 (seqQ fun U0 N4 N5=>sR fun _ N6=>?_))))))
  refine Ym (iV l8) e0 (Ym (iV H) e0 (yY (ylss e0 e0) (wK N6 ?_)))
  refine cIf e0 q (fun N7 q=>?_) fun N7 q=>?_
  ·refine sR fun _ N8=>Ym i.v (eh a7) (Ym (iV H) e0 (Ym i.v (eh a7) (Ym (iV l8) e0 (bE q fun N9 t3 q=>yY (yIa SL_22 e0 e0 b rO3 t3) (yY (yI O_3 e0 b rO3 t3) (bE q fun U1 t4 q=>yY (yIs SL_22 e0 e0 b rO3 t4) (yT (r_sti (cs:=[iV N9]) (b.pk 4 [3,0,0,0] rfl) O_3 rfl e0 e0 rfl mkI t4) fun w b=>wN ?_)))))))
   refine N8 _ _ (sQ fun _ O0=>bE q fun U2 t5 q=>bE q fun O1 t6 q=>bE q fun O2 t7 q=>bE q fun U3 t8 q=>dR [0,1,0,0,12,28,63,127,0,256,0,1792,3840,8191,16383,32767] [15] 1 folM ?_)
   replace b:=b.drew
   refine Dn [0,1,2,3,4,5,6,7,8,9,10,11,12,13,14] [] [15] (yR rfl (yFb FL_28_1 (eh a0)) (yR rfl (lb_ a6.v O_22 e0 b R3) (yR rfl (m_ i.v (eh a7)) (yR rfl (m_ (iV H) e0) (yR rfl (yIa SL_22 e0 e0 b rO0 t5) (yR rfl (yI O_3 e0 b rO0 t5) (yR rfl (yIa SL_22 e0 e0 b rO2 t6) (yR rfl (yI O_3 e0 b rO2 t6) (yR rfl (yFb FL_28_1 (eh c3)) (yR rfl (lb_ I.v O_22 e0 b R1) (yR rfl (m_ (iV H) e0) (yR rfl (yIa SL_22 e0 e0 b (rdI c6) t7) (yR rfl (yI O_3 e0 b (rdI c6) t7) ?_)))))))))))))
   refine yR rfl (yadd e0 e0) (yR rfl (yIs SL_22 e0 e0 b rO2 t8) (Rn QSn ?_))
   refine Lc1 rfl ?_
   replace b:=b.pk 3 [2,0,0] rfl
   exact LT wn (r_sti (cs:=[iV (wa .i64 O1 O2)]) b O_3 rfl e0 e0 rfl mkI t8) fun w b=>Dz [] [] (Rn QSn (O0 _ _ (wp_exit (N5 _ _ _ rfl (t1 _ _ _ (t0 _ _ _ _ _ c3 a0 a7 l3 l4 c4 (b.pk 4 [2,0,1,0] rfl) q))))))
  ·refine wp_skip (N4 _ _ (sR fun _ O3=>Ym i.v (eh a7) (Ym (iV H) e0 (yY (yFb FL_28_1 (eh a0)) (yY (lb_ a6.v O_22 e0 b R2) (yY (yLen SL_22 e0 b rO1) (bE q fun U4 t9 q=>yY (yIs SL_22 e0 e0 b rO3 t9) (yT (r_sti (cs:=[iV (e7.length:Int)]) (b.pk 4 [3,0,0,0] rfl) O_3 rfl e0 e0 rfl mkI t9) fun w b=>wN ?_))))))))
   refine O3 _ _ (bE q fun l9 u0 q=>bE q fun U5 O4 q=>dR [0,1,0,4,0,28,60,124,255,511,1023] [7,8,10] 3 folM ?_)
   replace b:=b.drew
   refine Dn [0,1,2,3,4,5,6] [] [7] (yR rfl (yFb FL_28_1 (eh a0)) (yR rfl (lb_ a6.v O_22 e0 b R3) (yR rfl (yFb FL_28_1 (eh c3)) (yR rfl (lb_ I.v O_22 e0 b R1) (yR rfl (m_ (iV H) e0) (yR rfl (yIa SL_22 e0 e0 b (rdI c6) u0) (yR rfl (yI O_3 e0 b (rdI c6) u0) (Rn QSn ?_))))))))
   refine Lc1 rfl ?_
   refine LH wn (rLt (n:=1) (l:=[l9]) b SL_22 [iV l9] (bp1 e0) rfl rfl (mks1 (cs:=[iV l9]) rfl mkI mks0)) fun U6 w b=>Dn [] [0,1] [8] (Rn (yS rfl (yFb FL_28_1 (eh a0)) (yS rfl (lb_ a6.v O_22 e0 b R4) QSn)) ?_)
   refine Lc1 rfl ?_
   replace b:=b.pk 4 [3,0,0,0] rfl
   refine LH wn (rAp b SL_22 e0 e0 rO1 O4) fun O5 w b=>Dn [9] [] [10] (yR rfl (yFb FL_28_1 (eh a0)) (Rn QSn ?_))
   refine Lc1 rfl ?_
   replace b:=b.pk 5 [4,0,0,0,0] rfl
   exact LT wn (r_stb1 (vals':=[hnil.v,O5.v,hnil.v]) b O_22 e0 e0 rfl rfl rfl rfl) fun w b=>Dz [] [] (Rn QSn (t1 _ _ _ (t0 _ _ _ _ _ c3 a0 a7 l3 l4 c4 (b.pk 5 [4,1,0,1] rfl) q)))
 ·refine wp_exit (M3 _ _ _ rfl ?_)
  cases q
  exact M0 _ _ _ _ rfl rfl (v0 _ _ _ _ _ c3 a0 a7 b (L8 _ rfl))
theorem dissect_refine_ok {d8:L2} {d9:LI} {e1:L2} {J:LI} {o l m c:Hdr} {out:LI} (p:dissect_refine d8 d9 e1 J=some out) (e2:imm S1 o.v d8∈ros) (C:imm I1 l.v d9∈ros) (R:imm S1 m.v e1∈ros) (b:St w0 ros (row 3 I1 c.v J::rs) w):
  Calls Tryz.prog 74 #[.agg #[o.v,l.v,m.v],c.v] w (fun e w=>e=.returned (.tuple #[])∧St w0 ros (row 3 I1 c.v out::rs) w):=by
 refine enterQ Tryz.func74 rfl Tryz.ntmps74 rfl fun Q e3=>sR fun _ l0=>yBb (r_box (vals:=[o.v,l.v,m.v]) b e0 rfl) fun i w b=>wK l0 (sR fun _ l1=>yBb (rAl b ZT_129) fun j w b=>?_)
 replace b:St w0 ros (row 129 I1 (arrH j 2).v [0,0]::box i 28 [o.v,l.v,m.v]::row 3 I1 c.v J::rs) w:=b.boxRow rfl rfl rfl
 refine wK l1 (sQ fun _ l2=>sR fun _ l3=>Ym c.v e0 (yY (yLen SL_22 e0 b rO2) (Ym (iV 0) rfl (wK l3 (blockQ fun l4 l5=>bE p fun l6 l7 p=>?_)))))
 have l8:∀ (a2:LI) (f:FV) w,f 1=c.v→f 2=(pB i)→f 4=.pointer (arrH j 2).a→St w0 ros (row 3 I1 c.v J::box i 28 [o.v,l.v,m.v]::row 129 I1 (arrH j 2).v a2::rs) w→a2=l6→l4 (.exit 0) (fr 133 f) w:=by
  intro a2 f w l9 m0 a3 b ho
  subst ho
  refine l5 _ _ _ (l2 _ _ (sR fun _ m1=>bE p fun x e4 p=>yY (yIaA AR_129 (eh a3) rfl b rO2 rfl e4) (yY (yI O_3 e0 b rO2 e4) (bE p fun y e5 p=>yY (yIaA AR_129 (eh a3) rfl b rO2 rfl e5) (yY (yI O_3 e0 b rO2 e5) (yY (yadd e0 e0) (Ya (iV (wa .i64 x y)) e0 (wK m1 ?_))))))))
  refine sR fun _ m2=>Ym (iV 0) rfl (wK m2 (blockQ fun e6 e7=>bE p fun e8 m3 p=>?_))
  have m4:∀ (a4:LI) (f:FV) w,St w0 ros (row 3 I1 c.v a4::rs) w→.inl a4=e8→e6 (.exit 2) (fr 133 f) w:=by
   intro a4 f w b ho
   subst ho
   refine e7 _ _ _ ?_
   cases p
   exact e3 _ _ _ (fin0n Tryz.results74 ⟨rfl,b⟩)
  have m5:∀ (a5:LI) (f:FV) w,St w0 ros (row 3 I1 c.v a5::rs) w→.inr a5=e8→e6 .ret (fr 133 f) w:=by
   intro a5 f w b ho
   subst ho
   refine e7 _ _ _ ?_
   cases p
   exact e3 _ _ _ (fin0r Tryz.results74 ⟨rfl,b⟩)
  refine loopQ (fun s a w=>∃ (A a6:LI) (r:Int) (f:FV),(A,a6,r)=s∧a=fr 133 f∧f 1=c.v∧f 2=(pB i)∧f 4=.pointer (arrH j 2).a∧f 7=iV (wa .i64 x y)∧f 37=iV r∧St w0 ros (row 3 I1 c.v A::box i 28 [o.v,l.v,m.v]::row 129 I1 (arrH j 2).v a6::rs) w) m3 ⟨_,_,_,_,rfl,rfl,l9,m0,a3,rfl,rfl,b⟩ ?_
  rintro _ _ w y4 ⟨A,a6,r,f,rfl,rfl,e9,m6,m7,m8,f0,b⟩ t f1 y5 m9 f2
  refine sR fun _ n0=>yY (ylss (eh f0) rfl) (wK n0 (seqQ fun y6 n2 n3=>?_))
  refine cIf e0 t (fun n4 t=>?_) fun n4 t=>?_
  ·refine wp_skip (n2 _ _ (seqQ fun y7 n5 n6=>blockQ fun _ f3=>sR fun _ n7=>Ya (.bool false) rfl (wK n7 (sQ fun _ n8=>sR fun _ n9=>Ym c.v (eh e9) (yY (yLen SL_22 e0 b rO0) ?_)))))
   refine Ym (iV 0) rfl (wK n9 (blockQ fun o0 o2=>bE t fun o3 o4 t=>?_))
   have o5:∀ (a7 a8:LI) (S:Bool) (f:FV) w,f 1=c.v→f 2=(pB i)→f 4=.pointer (arrH j 2).a→f 7=iV (wa .i64 x y)→f 8=.bool S→f 37=iV r→St w0 ros (row 3 I1 c.v a7::box i 28 [o.v,l.v,m.v]::row 129 I1 (arrH j 2).v a8::rs) w→(a7,a8,S)=o3→o0 (.exit 4) (fr 133 f) w:=by
    intro a7 a8 S f w o6 o7 o8 o9 p0 p1 b ho
    subst ho
    refine o2 _ _ _ (n8 _ _ (sR fun _ p2=>Ym (.bool S) (eh p0) (yY (ynot e0) (wK p2 ?_))))
    rcases iteS t with ⟨a9,t⟩ | ⟨a9,t⟩
    ·refine condF e0 (nF a9) (wp_skip (f3 _ _ _ (n5 _ _ (wR (yY (yadd (eh p1) rfl) (Ym (iV (wa .i64 r 1)) e0 (wN ?_)))))))
     cases t
     exact m9 _ _ _ rfl ⟨_,_,_,_,rfl,rfl,o6,o7,o8,o9,rfl,b⟩
    ·refine condT e0 (nT (bfalse a9)) (wp_ret (f3 _ _ _ (n6 _ _ _ rfl ?_)))
     cases t
     exact f2 _ _ _ _ rfl rfl (m5 _ _ _ (b.pk 3 [0] rfl) (f1 _ rfl))
   refine loopQ (fun s a w=>∃ (D E:LI) (F:Bool) (h:Int) (f:FV),(D,E,F,h)=s∧a=fr 133 f∧f 1=c.v∧f 2=(pB i)∧f 4=.pointer (arrH j 2).a∧f 7=iV (wa .i64 x y)∧f 8=.bool F∧f 37=iV r∧f 39=c.v∧f 40=iV (A.length:Int)∧f 41=iV h∧St w0 ros (row 3 I1 c.v D::box i 28 [o.v,l.v,m.v]::row 129 I1 (arrH j 2).v E::rs) w) o4 ⟨_,_,_,_,_,rfl,rfl,e9,m6,m7,m8,rfl,f0,rfl,rfl,rfl,b⟩ ?_
   rintro _ _ w p3 ⟨D,E,F,h,f,rfl,rfl,f4,b0,f5,f6,f7,f8,f9,g0,T,b⟩ d p4 y8 p5 p6
   refine sR fun _ p7=>yY (ylss (eh T) (eh g0)) (wK p7 (seqQ fun y9 p8 p9=>?_))
   refine cIf e0 d (fun q0 d=>?_) fun q0 d=>?_
   ·refine wp_skip (p8 _ _ (sQ fun _ q4=>blockQ fun q5 q6=>sR fun _ q7=>Ym (iV h) (eh T) (bE d fun u g1 d=>yY (yIa SL_22 (eh f9) (eh T) b rO0 g1) (yY (yI O_3 e0 b rO0 g1) (Ya (iV h) e0 (Ya (iV u) e0 (wK q7 ?_)))))))
    refine sR fun _ q8=>Ya (iV 0) rfl (wK q8 (sQ fun _ q9=>sR fun _ r0=>yY (yFb FL_28_0 (eh b0)) (yY (yFb FL_26_0 e0) (yY (lb_ o.v O_24 e0 b R1) (Ym (iV h) e0 (bE d fun U g2 d=>yY (yIa SL_24 e0 e0 b (rdI e2) g2) ?_))))))
    obtain ⟨V,b⟩:=iLs b e2 g2
    refine yY (yCt O_22 e0 b F1 rfl) (yY (yLen SL_22 e0 b (rdI F0)) (Ym (iV 0) rfl (wK r0 (blockQ fun r1 r2=>bE d fun r3 r4 d=>?_))))
    have r5:∀ (G:Int) (f:FV) w,f 1=c.v→f 2=(pB i)→f 4=.pointer (arrH j 2).a→f 7=iV (wa .i64 x y)→f 8=.bool F→f 9=iV h→f 10=iV u→f 11=iV G→f 37=iV r→f 39=c.v→f 40=iV (A.length:Int)→f 41=iV h→St w0 ros (row 3 I1 c.v D::box i 28 [o.v,l.v,m.v]::row 129 I1 (arrH j 2).v E::rs) w→G=r3→r1 (.exit 6) (fr 133 f) w:=by
     intro G f w g3 b1 b2 b3 g4 b4 b5 g5 g6 g7 g8 g9 b ho
     subst ho
     refine r2 _ _ _ (q9 _ _ (sQ fun _ r6=>bE d fun b6 B d=>?_))
     refine joinN (n:=133) (fun f w=>f 1=c.v∧f 2=(pB i)∧f 4=.pointer (arrH j 2).a∧f 7=iV (wa .i64 x y)∧f 8=.bool F∧f 9=iV h∧f 10=iV u∧f 37=iV r∧f 39=c.v∧f 40=iV (A.length:Int)∧f 41=iV h∧f 102=.bool b6∧St w0 ros (row 3 I1 c.v D::box i 28 [o.v,l.v,m.v]::row 129 I1 (arrH j 2).v E::rs) w) (fun h0=>?_) ?_
     ·rcases iteS B with ⟨g,B⟩ | ⟨g,B⟩
      ·refine bE B fun z0 h1 B=>bE B fun z1 h3 B=>?_
       have r7:=someI B
       refine dR [0,1,3,7,15,31,63,7,135,7,903,1927,4095,8191,7,16391,65535,131071] [] 0 folM ?_
       replace b:=b.drew
       refine Dz [0,1,2,3,4,5,6,7,8,9,10,11,12,13,14,15,16,17] [] (yR rfl (m_ (iV G) (eh g5)) (yR rfl (ygtr e0 rfl) (yR rfl (m_ (.bool (decide ((0:Int) < G))) e0) (Ry rfl rfl (wG (dT g)) (m_ (iV u) (eh b5)) (Ry rfl rfl (wG (dT g)) (ysub rfl e0) (Ry rfl rfl (wG (dT g)) (yIaA AR_129 (eh b2) e0 b rO2 rfl h1) (Ry rfl rfl (wG (dT g)) (yI O_3 e0 b rO2 h1) (Ry rfl rfl (wG (dT g)) (yFb FL_28_1 (eh b1)) (Ry rfl rfl (wG (dT g)) (lb_ l.v O_22 e0 b R1) (Ry rfl rfl (wG (dT g)) (m_ (iV h) (eh b4)) (Ry rfl rfl (wG (dT g)) (yIa SL_22 e0 e0 b (rdI C) h3) (Ry rfl rfl (wG (dT g)) (yI O_3 e0 b (rdI C) h3) (Ry rfl rfl (wG (dT g)) (yadd e0 e0) ?_)))))))))))))
       exact Ry rfl rfl (wG (dT g)) (ymul rfl e0) (Ry rfl rfl (wG (dT g)) (m_ (iV (wa .i64 x y)) (eh b3)) (Ry rfl rfl (wG (dT g)) (ymul rfl e0) (Ry rfl rfl (wG (dT g)) (yleq e0 e0) (yR rfl (pt_ (.bool b6) e0 (dT g) (eqv r7 e0)) (Rn QSn (h0 _ _ ⟨g3,b1,b2,b3,g4,b4,b5,g6,g7,g8,g9,rfl,b⟩))))))
      ·have r8:=someI B
       refine dR [0,1,3,7,15,31,63,7,135,7,903,1927,4095,8191,7,16391,65535,131071] [] 0 folM ?_
       replace b:=b.drew
       refine Dz [0,1,2,3,4,5,6,7,8,9,10,11,12,13,14,15,16,17] [] (yR rfl (m_ (iV G) (eh g5)) (yR rfl (ygtr e0 rfl) (yR rfl (m_ (.bool (decide ((0:Int) < G))) e0) (Rx rfl rfl (wX (dF g)) (Rx rfl rfl (wX (dF g)) (Rx rfl rfl (wX (dF g)) (Rx rfl rfl (wX (dF g)) (Rx rfl rfl (wX (dF g)) (Rx rfl rfl (wX (dF g)) (Rx rfl rfl (wX (dF g)) (Rx rfl rfl (wX (dF g)) (Rx rfl rfl (wX (dF g)) (Rx rfl rfl (wX (dF g)) ?_)))))))))))))
       exact Rx rfl rfl (wX (dF g)) (Rx rfl rfl (wX (dF g)) (Rx rfl rfl (wX (dF g)) (Rx rfl rfl (wX (dF g)) (yR rfl (pf_ (.bool b6) e0 (dF g) (eqv r8 rfl)) (Rn QSn (h0 _ _ ⟨g3,b1,b2,b3,g4,b4,b5,g6,g7,g8,g9,rfl,b⟩))))))
     rintro f w ⟨b7,W,K,h5,r9,b8,c0,h7,h9,i0,i1,s0,b⟩
     refine r6 _ _ ?_
     have i2:∀ (c1 c2:LI) (c3:Bool) (f:FV) w,f 1=c.v→f 2=(pB i)→f 4=.pointer (arrH j 2).a→f 7=iV (wa .i64 x y)→f 8=.bool c3→f 37=iV r→f 39=c.v→f 40=iV (A.length:Int)→f 41=iV h→St w0 ros (row 3 I1 c.v c1::box i 28 [o.v,l.v,m.v]::row 129 I1 (arrH j 2).v c2::rs) w→dissect_refine_j76 h c1 c2 c3=some p3→q5 .normal (fr 133 f) w:=by
      intro c1 c2 c3 f w s1 s2 s3 s4 s5 s6 s7 s8 s9 b p
      refine q6 _ _ _ (q4 _ _ (wR (yY (yadd (eh s9) rfl) (Ym (iV (wa .i64 h 1)) e0 (wN ?_)))))
      cases p
      exact p5 _ _ _ rfl ⟨_,_,_,_,_,rfl,rfl,s1,s2,s3,s4,s5,s6,s7,s8,rfl,b⟩
     refine cB (eh s0) d (fun t0 d=>?_) fun t0 d=>?_
     ·refine sR fun _ t1=>Ym c.v (eh b7) (Ym (iV h) (eh b8) (Ym (iV u) (eh c0) (yY (ysub rfl e0) (bE d fun z2 i3 d=>yY (yIs SL_22 e0 e0 b rO0 i3) (yT (r_sti (cs:=[iV (ws .i64 1 u)]) b O_3 rfl e0 e0 rfl mkI i3) fun w b=>Ya (.bool true) rfl (wK t1 (sQ fun _ t2=>?_)))))))
      refine bE d fun t3 i4 d=>bE d fun t4 i5 d=>bE d fun z3 i6 d=>dR [0,1,3,0,8,0,56,120,255,511,1023] [10] 1 folM ?_
      replace b:=b.drew
      refine Dn [0,1,2,3,4,5,6,7,8,9] [] [10] (yR rfl (m_ (iV u) (eh c0)) (yR rfl (yIaA AR_129 (eh K) e0 b rO2 rfl i4) (yR rfl (yI O_3 e0 b rO2 i4) (yR rfl (yFb FL_28_1 (eh W)) (yR rfl (lb_ l.v O_22 e0 b R1) (yR rfl (m_ (iV h) (eh b8)) (yR rfl (yIa SL_22 e0 e0 b (rdI C) i5) (yR rfl (yI O_3 e0 b (rdI C) i5) (yR rfl (ysub e0 e0) (yR rfl (yIsA AR_129 (eh K) e0 b rO2 rfl i6) (Rn QSn ?_)))))))))))
      refine Lc1 rfl ?_
      replace b:=b.pk 3 [2,0,0] rfl
      refine LT wn (r_sti (cs:=[iV (ws .i64 t3 t4)]) b O_3 rfl e0 e0 rfl mkI i6) fun w b=>Dz [] [] (Rn QSn (t2 _ _ (bE d fun t5 i7 d=>bE d fun t6 i8 d=>bE d fun z4 i9 d=>dR [0,1,3,7,0,16,0,112,240,511,1023,2047] [11] 1 folM ?_)))
      replace b:=b.drew
      refine Dn [0,1,2,3,4,5,6,7,8,9,10] [] [11] (yR rfl (m_ (iV u) (eh c0)) (yR rfl (ysub rfl e0) (yR rfl (yIaA AR_129 (eh K) e0 b rO0 rfl i7) (yR rfl (yI O_3 e0 b rO0 i7) (yR rfl (yFb FL_28_1 (eh W)) (yR rfl (lb_ l.v O_22 e0 b R2) (yR rfl (m_ (iV h) (eh b8)) (yR rfl (yIa SL_22 e0 e0 b (rdI C) i8) (yR rfl (yI O_3 e0 b (rdI C) i8) (yR rfl (yadd e0 e0) (yR rfl (yIsA AR_129 (eh K) e0 b rO0 rfl i9) (Rn QSn ?_))))))))))))
      refine Lc1 rfl ?_
      exact LT wn (r_sti (cs:=[iV (wa .i64 t5 t6)]) b O_3 rfl e0 e0 rfl mkI i9) fun w b=>Dz [] [] (Rn QSn (i2 _ _ _ _ _ b7 W K h5 rfl h7 h9 i0 i1 (b.pk 3 [1,1,0] rfl) d))
     ·exact wp_skip (i2 _ _ _ _ _ b7 W K h5 r9 h7 h9 i0 i1 b d)
    refine loopQ (fun s a w=>∃ (H z:Int) (f:FV),(H,z)=s∧a=fr 133 f∧f 1=c.v∧f 2=(pB i)∧f 4=.pointer (arrH j 2).a∧f 7=iV (wa .i64 x y)∧f 8=.bool F∧f 9=iV h∧f 10=iV u∧f 11=iV H∧f 37=iV r∧f 39=c.v∧f 40=iV (A.length:Int)∧f 41=iV h∧f 51=V.v∧f 52=iV (U.length:Int)∧f 53=iV z∧St w0 (imm I1 V.v U::ros) (row 3 I1 c.v D::box i 28 [o.v,l.v,m.v]::row 129 I1 (arrH j 2).v E::rs) w) r4 ⟨_,_,_,rfl,rfl,f4,b0,f5,f6,f7,rfl,rfl,rfl,f8,f9,g0,T,rfl,rfl,rfl,(b.facts (allC F0 (allT (allT allI))))⟩ ?_
    rintro _ _ w t7 ⟨H,z,f,rfl,rfl,X,L,c4,c5,c6,N,Z,c7,c8,c9,d0,d1,d2,d3,O,b⟩ k t8 z5 t9 u0
    refine sR fun _ u1=>yY (ylss (eh O) (eh d3)) (wK u1 (seqQ fun z6 u2 u3=>?_))
    refine cIf e0 k (fun u4 k=>?_) fun u4 k=>?_
    ·refine wp_skip (u2 _ _ (sQ fun _ u5=>blockQ fun u6 u7=>sR fun _ u8=>Ym (iV z) (eh O) (bE k fun j0 j1 k=>yY (yIa SL_22 (eh d2) (eh O) b (rdI F0) j1) (yY (yI O_3 e0 b (rdI F0) j1) (Ya (iV z) e0 (Ya (iV j0) e0 (wK u8 ?_)))))))
     refine sR fun _ u9=>Ym c.v (eh X) (Ym (iV j0) e0 (bE k fun z7 j2 k=>yY (yIa SL_22 e0 e0 b rO0 j2) (yY (yI O_3 e0 b rO0 j2) (Ym (iV u) (eh Z) (yY (yneq e0 e0) (wK u9 ?_))))))
     have j3:∀ (d4:Int) (f:FV) w,f 1=c.v→f 2=(pB i)→f 4=.pointer (arrH j 2).a→f 7=iV (wa .i64 x y)→f 8=.bool F→f 9=iV h→f 10=iV u→f 11=iV d4→f 37=iV r→f 39=c.v→f 40=iV (A.length:Int)→f 41=iV h→f 51=V.v→f 52=iV (U.length:Int)→f 53=iV z→St w0 (imm I1 V.v U::ros) (row 3 I1 c.v D::box i 28 [o.v,l.v,m.v]::row 129 I1 (arrH j 2).v E::rs) w→dissect_refine_j77 z d4=some t7→u6 .normal (fr 133 f) w:=by
      intro d4 f w v0 v1 v2 v3 v4 v5 v6 v7 v8 v9 w1 w2 w3 w4 w5 b p
      refine u7 _ _ _ (u5 _ _ (wR (yY (yadd (eh w5) rfl) (Ym (iV (wa .i64 z 1)) e0 (wN ?_)))))
      cases p
      exact t9 _ _ _ rfl ⟨_,_,_,rfl,rfl,v0,v1,v2,v3,v4,v5,v6,v7,v8,v9,w1,w2,w3,w4,rfl,b⟩
     rcases iteS k with ⟨d5,k⟩ | ⟨d5,k⟩
     ·refine condF e0 (nF (dT d5)) (wR (Ym (iV H) (eh c7) (yY (yFb FL_28_2 (eh L)) (yY (lb_ m.v O_24 e0 b R1) (Ym (iV h) (eh N) (bE k fun z8 j4 k=>yY (yIa SL_24 e0 e0 b (rdI (mtF R)) j4) ?_))))))
      obtain ⟨z9,b⟩:=iLs b (mtF R) j4
      exact yY (yCt O_22 e0 b F1 rfl) (Ym (iV z) e0 (bE k fun w6 j5 k=>yY (yIa SL_22 e0 e0 b (rdI F0) j5) (yY (yI O_3 e0 b (rdI F0) j5) (yY (ysub e0 e0) (Ya (iV (ws .i64 H w6)) e0 (wN (j3 _ _ _ X L c4 c5 c6 N Z rfl c8 c9 d0 d1 d2 d3 O (b.facts (allC F2 (allT (allT (allT allI))))) k)))))))
     ·refine condT e0 (nT (dF d5)) (wR (Ym (iV H) (eh c7) (yY (yFb FL_28_2 (eh L)) (yY (lb_ m.v O_24 e0 b R1) (Ym (iV h) (eh N) (bE k fun A0 j6 k=>yY (yIa SL_24 e0 e0 b (rdI (mtF R)) j6) ?_))))))
      obtain ⟨A1,b⟩:=iLs b (mtF R) j6
      exact yY (yCt O_22 e0 b F1 rfl) (Ym (iV z) e0 (bE k fun w7 j7 k=>yY (yIa SL_22 e0 e0 b (rdI F0) j7) (yY (yI O_3 e0 b (rdI F0) j7) (yY (yadd e0 e0) (Ya (iV (wa .i64 H w7)) e0 (wN (j3 _ _ _ X L c4 c5 c6 N Z rfl c8 c9 d0 d1 d2 d3 O (b.facts (allC F2 (allT (allT (allT allI))))) k)))))))
    ·refine wp_exit (u3 _ _ _ rfl ?_)
     cases k
     exact u0 _ _ _ _ rfl rfl (r5 _ _ _ X L c4 c5 c6 N Z c7 c8 c9 d0 d1 (b.facts (allT allI)) (t8 _ rfl))
   ·refine wp_exit (p9 _ _ _ rfl ?_)
    cases d
    exact p6 _ _ _ _ rfl rfl (o5 _ _ _ _ _ f4 b0 f5 f6 f7 f8 b (p4 _ rfl))
  ·refine wp_exit (n3 _ _ _ rfl ?_)
   cases t
   exact f2 _ _ _ _ rfl rfl (m4 _ _ _ (b.pk 3 [0] rfl) (f1 _ rfl))
 refine loopQ (fun s a w=>∃ (d6:LI) (I:Int) (f:FV),(d6,I)=s∧a=fr 133 f∧f 1=c.v∧f 2=(pB i)∧f 4=.pointer (arrH j 2).a∧f 14=c.v∧f 15=iV (J.length:Int)∧f 16=iV I∧St w0 ros (row 3 I1 c.v J::box i 28 [o.v,l.v,m.v]::row 129 I1 (arrH j 2).v d6::rs) w) l7 ⟨_,_,_,rfl,rfl,rfl,rfl,rfl,rfl,rfl,rfl,(b.pk 3 [2,1,0] rfl)⟩ ?_
 rintro _ _ w A2 ⟨d6,I,f,rfl,rfl,j8,d7,a0,j9,k0,a1,b⟩ q w8 A3 w9 x0
 refine sR fun _ x2=>yY (ylss (eh a1) (eh k0)) (wK x2 (seqQ fun A4 x4 x6=>?_))
 refine cIf e0 q (fun x8 q=>?_) fun x8 q=>?_
 ·refine wp_skip (x4 _ _ (sQ fun _ x9=>blockQ fun _ y0=>sR fun _ y1=>Ym (iV I) (eh a1) (bE q fun k5 k6 q=>yY (yIa SL_22 (eh j9) (eh a1) b rO0 k6) (yY (yI O_3 e0 b rO0 k6) (Ya (iV I) e0 (Ya (iV k5) e0 (wK y1 ?_)))))))
  refine bE q fun y2 k7 q=>bE q fun y3 k8 q=>bE q fun A5 k9 q=>dR [0,1,3,0,8,0,56,120,255,511,1023] [10] 1 folM ?_
  replace b:=b.drew
  refine Dn [0,1,2,3,4,5,6,7,8,9] [] [10] (yR rfl (m_ (iV k5) e0) (yR rfl (yIaA AR_129 (eh a0) e0 b rO2 rfl k7) (yR rfl (yI O_3 e0 b rO2 k7) (yR rfl (yFb FL_28_1 (eh d7)) (yR rfl (lb_ l.v O_22 e0 b R1) (yR rfl (m_ (iV I) e0) (yR rfl (yIa SL_22 e0 e0 b (rdI C) k8) (yR rfl (yI O_3 e0 b (rdI C) k8) (yR rfl (yadd e0 e0) (yR rfl (yIsA AR_129 (eh a0) e0 b rO2 rfl k9) (Rn QSn ?_)))))))))))
  refine Lc1 rfl ?_
  replace b:=b.pk 3 [2,0,0] rfl
  refine LT wn (r_sti (cs:=[iV (wa .i64 y2 y3)]) b O_3 rfl e0 e0 rfl mkI k9) fun w b=>Dz [] [] (Rn QSn (y0 _ _ _ (x9 _ _ (wR (yY (yadd (eh a1) rfl) (Ym (iV (wa .i64 I 1)) e0 (wN ?_)))))))
  cases q
  exact w9 _ _ _ rfl ⟨_,_,_,rfl,rfl,j8,d7,a0,j9,k0,rfl,(b.pk 3 [1,1,0] rfl)⟩
 ·refine wp_exit (x6 _ _ _ rfl ?_)
  cases q
  exact x0 _ _ _ _ rfl rfl (l8 _ _ _ j8 d7 a0 b (w8 _ rfl))
theorem dissect_bisect_step {rec:L2→LI→L2→Option (LI×Bool)} (c3:∀ {w0:World} {ros:List Fact} {rs:List Res} {w:World} {x:L2} {y:LI} {z:L2} {h g i:Hdr} {out:LI×Bool} (c:rec x y z=some out) (t:imm S1 h.v x∈ros) (q:imm I1 g.v y∈ros) (u:imm S1 i.v z∈ros) (b:St w0 ros rs w),Calls Tryz.prog 43 #[.agg #[h.v,g.v,i.v]] w (fun e w=>∃ (D:Hdr),e=.returned (.tuple #[D.v,.bool out.2])∧St w0 ros (row 3 I1 D.v out.1::rs) w)) {w0:World} {ros:List Fact} {rs:List Res} {w:World} {x:L2} {y:LI} {z:L2} {h g i:Hdr} {out:LI×Bool} (c:dissect_bisect_body rec x y z=some out) (t:imm S1 h.v x∈ros) (q:imm I1 g.v y∈ros) (u:imm S1 i.v z∈ros) (b:St w0 ros rs w):
  Calls Tryz.prog 43 #[.agg #[h.v,g.v,i.v]] w (fun e w=>∃ (D:Hdr),e=.returned (.tuple #[D.v,.bool out.2])∧St w0 ros (row 3 I1 D.v out.1::rs) w):=by
 refine enterQ Tryz.func43 rfl Tryz.ntmps43 rfl fun Q J=>sR fun _ c4=>yBb (r_box (vals:=[h.v,g.v,i.v]) b e0 rfl) fun r w b=>Ya hnil.v rfl (Ya (.bool false) rfl (wK c4 (sR fun _ c5=>yY (lbs_ [h.v,g.v,i.v] ST_28 e0 b R0) (bE c fun c6 c7 c=>yC (yCall FN_73 (a1 e0)) (dissect_grown_ok c7 t q u b) ?_))))
 rintro _ w ⟨o,rfl,b⟩
 refine ⟨_,rfl,?_⟩
 refine Ya o.v e0 (wK c5 (seqQ fun a3 c8 a4=>sR fun _ c9=>yY (yFb FL_28_1 e0) (yY (lb_ g.v O_22 e0 b R1) (yY (yLen SL_22 e0 b (rdI q)) (yY (ygtr e0 rfl) (wK c9 ?_))))))
 have a5:∀ (K:LI) (f:FV) w,f 1=(pB r)→f 4=o.v→St w0 ros (box r 28 [h.v,g.v,i.v]::row 3 I1 o.v K::rs) w→dissect_bisect_j5 x y z K=some out→a3 .normal (fr 61 f) w:=by
  intro K f w d0 a6 b c
  refine c8 _ _ (sR fun _ d1=>yY (lbs_ [h.v,g.v,i.v] ST_28 (eh d0) b R0) (Ym o.v (eh a6) (bE c fun h5 d2 c=>?_)))
  replace b:=b.pk 2 [1,0] rfl
  refine yC (yCall FN_74 (a2 e0 e0)) (dissect_refine_ok d2 t q u b) ?_
  rintro _ w ⟨rfl,b⟩
  refine ⟨_,rfl,?_⟩
  refine wK d1 (sR fun _ d3=>Ym o.v (eh a6) (Ya o.v e0 (Ya (.bool true) rfl (wK d3 (wp_ret ?_)))))
  cases c
  exact J _ _ _ (fin2r Tryz.results43 ⟨rfl,rfl⟩ ⟨rfl,rfl⟩ ⟨_,rfl,(b.pk 2 [0] rfl)⟩)
 refine cIf e0 c (fun d4 c=>?_) fun d4 c=>?_
 ·refine sQ fun _ d5=>bE c fun h7 a7 c=>bE c fun d L c=>?_
  refine joinN (n:=61) (fun f w=>∃ (N:Nat) (G:Hdr) (O:List Hdr) (E H:Hdr) (R:List Hdr) (B:Hdr),f 1=(pB r)∧f 4=o.v∧f 5=(pB N)∧f 6=B.v∧f 7=.bool d.2.2.2.2∧St w0 (imm I1 E.v d.2.1::ros) (box r 28 [h.v,g.v,i.v]::row 3 I1 o.v c6::row 22 rH G.v O::fam 3 I1 O d.1::row 22 rH H.v R::fam 3 I1 R d.2.2.1::box N 28 [G.v,E.v,H.v]::row 3 I1 B.v d.2.2.2.1::rs) w) (fun S=>?_) ?_
  ·refine dR [0,0,2,7,15,31,31,31,0,319,895,2047] [2,3,8,9,10,11] 6 folM ?_
   replace b:=b.drew
   refine Dn [0,1] [] [2,8] (yR rfl (lbs_ [h.v,g.v,i.v] ST_28 e0 b R1) (yR rfl (lbs_ [h.v,g.v,i.v] ST_28 e0 b R1) (Rn QSn ?_)))
   refine Lc rfl ?_ (Lc1 rfl ?_)
   ·refine Lk wn (yCall FN_40 (a1 e0)) (dissect_match_ok a7 t q u b) ?_
    rintro _ w ⟨d6,rfl,b⟩
    refine ⟨_,rfl,?_⟩
    refine Dn [] [0] [3,8] (Rn (yS rfl (lbs_ [h.v,g.v,i.v] ST_28 e0 b R2) QSn) ?_)
    refine Lc rfl ?_ (Lc1 rfl ?_)
    ·replace b:=b.fz
     refine Lk wn (yCall FN_42 (a2 e0 e0)) (dissect_coarsen_ok L (mtF t) (mtF q) (mtF u) F0 b) ?_
     rintro _ w ⟨j,a8,k,l,a9,m,rfl,b⟩
     refine ⟨_,rfl,?_⟩
     refine Dn [4,5,6,7] [] [8] (yR rfl (m_ (.tuple #[.agg #[j.v,k.v,l.v],m.v,.bool d.2.2.2.2]) e0) (yR rfl (x_ (.agg #[j.v,k.v,l.v]) e0) (yR rfl (x_ m.v e0) (yR rfl (x_ (.bool d.2.2.2.2) e0) (Rn QSn ?_)))))
     refine Lc1 rfl ?_
     refine LB wn (rAl b ZT_28) fun b0 w b=>Dn [] [4,5,6,7] [9] (Rn (yS rfl (m_ (.tuple #[.agg #[j.v,k.v,l.v],m.v,.bool d.2.2.2.2]) e0) (yS rfl (x_ (.agg #[j.v,k.v,l.v]) e0) (yS rfl (x_ m.v e0) (yS rfl (x_ (.bool d.2.2.2.2) e0) QSn)))) ?_)
     refine Lc1 rfl ?_
     refine LT wn (r_stbn (vals':=[j.v,k.v,l.v]) (us:=[j.v,k.v,l.v]) b ST_28 e0 e0 rfl rfl (one_of rfl) rfl) fun w b=>Dn [] [6,7] [10] (Rn (yS rfl (x_ m.v e0) (yS rfl (x_ (.bool d.2.2.2.2) e0) QSn)) ?_)
     refine Lc1 rfl ?_
     refine Ly wn (a_ m.v e0) (Dn [] [7] [11] (Rn (yS rfl (x_ (.bool d.2.2.2.2) e0) QSn) ?_))
     refine Lc1 rfl ?_
     exact Ly wn (a_ (.bool d.2.2.2.2) e0) (Dz [] [] (Rn QSn (S _ _ ⟨_,_,_,_,_,_,_,rfl,rfl,rfl,rfl,rfl,((b.pk 8 [7,6,1,1,1,1,0,0] rfl).facts (allC F0 (allT (allT allI))))⟩)))
    ·refine LB wn (rAl b ZT_28) fun b0 w b=>Dn [] [0] [3] (Rn (yS rfl (lbs_ [h.v,g.v,i.v] ST_28 e0 b R3) QSn) ?_)
     refine Lc1 rfl ?_
     replace b:=(b.pk 2 [1,0] rfl).fz
     refine Lk wn (yCall FN_42 (a2 e0 e0)) (dissect_coarsen_ok L (mtF t) (mtF q) (mtF u) F0 b) ?_
     rintro _ w ⟨j,a8,k,l,a9,m,rfl,b⟩
     refine ⟨_,rfl,?_⟩
     refine Dn [4,5,6,7] [] [9] (yR rfl (m_ (.tuple #[.agg #[j.v,k.v,l.v],m.v,.bool d.2.2.2.2]) e0) (yR rfl (x_ (.agg #[j.v,k.v,l.v]) e0) (yR rfl (x_ m.v e0) (yR rfl (x_ (.bool d.2.2.2.2) e0) (Rn QSn ?_)))))
     refine Lc1 rfl ?_
     replace b:=b.pk 6 [5,0,0,0,0,0] rfl
     refine LT wn (r_stbn (vals':=[j.v,k.v,l.v]) (us:=[j.v,k.v,l.v]) b ST_28 e0 e0 rfl rfl (one_of rfl) rfl) fun w b=>Dn [] [6,7] [10] (Rn (yS rfl (x_ m.v e0) (yS rfl (x_ (.bool d.2.2.2.2) e0) QSn)) ?_)
     refine Lc1 rfl ?_
     refine Ly wn (a_ m.v e0) (Dn [] [7] [11] (Rn (yS rfl (x_ (.bool d.2.2.2.2) e0) QSn) ?_))
     refine Lc1 rfl ?_
     exact Ly wn (a_ (.bool d.2.2.2.2) e0) (Dz [] [] (Rn QSn (S _ _ ⟨_,_,_,_,_,_,_,rfl,rfl,rfl,rfl,rfl,((b.pk 8 [7,6,1,1,1,1,0,0] rfl).facts (allC F0 (allT (allT allI))))⟩)))
   ·refine LB wn (rAl b ZT_28) fun b0 w b=>Dn [] [0,1] [2] (Rn (yS rfl (lbs_ [h.v,g.v,i.v] ST_28 e0 b R2) (yS rfl (lbs_ [h.v,g.v,i.v] ST_28 e0 b R2) QSn)) ?_)
    refine Lc1 rfl ?_
    refine Lk wn (yCall FN_40 (a1 e0)) (dissect_match_ok a7 t q u b) ?_
    rintro _ w ⟨d6,rfl,b⟩
    refine ⟨_,rfl,?_⟩
    refine Dn [] [0] [3] (Rn (yS rfl (lbs_ [h.v,g.v,i.v] ST_28 e0 b R3) QSn) ?_)
    refine Lc1 rfl ?_
    replace b:=b.fz
    refine Lk wn (yCall FN_42 (a2 e0 e0)) (dissect_coarsen_ok L (mtF t) (mtF q) (mtF u) F0 b) ?_
    rintro _ w ⟨j,a8,k,l,a9,m,rfl,b⟩
    refine ⟨_,rfl,?_⟩
    refine Dn [4,5,6,7] [] [9] (yR rfl (m_ (.tuple #[.agg #[j.v,k.v,l.v],m.v,.bool d.2.2.2.2]) e0) (yR rfl (x_ (.agg #[j.v,k.v,l.v]) e0) (yR rfl (x_ m.v e0) (yR rfl (x_ (.bool d.2.2.2.2) e0) (Rn QSn ?_)))))
    refine Lc1 rfl ?_
    replace b:=b.pk 6 [5,0,0,0,0,0] rfl
    refine LT wn (r_stbn (vals':=[j.v,k.v,l.v]) (us:=[j.v,k.v,l.v]) b ST_28 e0 e0 rfl rfl (one_of rfl) rfl) fun w b=>Dn [] [6,7] [10] (Rn (yS rfl (x_ m.v e0) (yS rfl (x_ (.bool d.2.2.2.2) e0) QSn)) ?_)
    refine Lc1 rfl ?_
    refine Ly wn (a_ m.v e0) (Dn [] [7] [11] (Rn (yS rfl (x_ (.bool d.2.2.2.2) e0) QSn) ?_))
    refine Lc1 rfl ?_
    exact Ly wn (a_ (.bool d.2.2.2.2) e0) (Dz [] [] (Rn QSn (S _ _ ⟨_,_,_,_,_,_,_,rfl,rfl,rfl,rfl,rfl,((b.pk 8 [7,6,1,1,1,1,0,0] rfl).facts (allC F0 (allT (allT allI))))⟩)))
  rintro f w ⟨N,G,O,E,H,R,B,T,b1,b2,d7,d8,b⟩
  refine d5 _ _ (seqQ fun h8 d9 e1=>sR fun _ e2=>Ym (.bool d.2.2.2.2) (eh d8) (yY (ynot e0) (wK e2 ?_)))
  rcases iteS c with ⟨U,c⟩ | ⟨U,c⟩
  ·refine condF e0 (nF U) (wp_skip (d9 _ _ (sR fun _ e3=>yY (yFb FL_28_1 (eh b2)) (yY (lb_ E.v O_22 e0 b R6) (yY (yLen SL_22 e0 b (rdI F0)) (yY (yFb FL_28_1 (eh T)) (yY (lb_ g.v O_22 e0 b R0) (yY (yLen SL_22 e0 b (rdI (mtF q))) (yY (ylss e0 e0) (wK e3 ?_))))))))))
   have b3:∀ (V:LI) (f:FV) w,f 1=(pB r)→f 4=o.v→St w0 ros (box r 28 [h.v,g.v,i.v]::row 3 I1 o.v V::rs) w→dissect_bisect_j8 x y z V=some out→a3 .normal (fr 61 f) w:=by
    intro V f w e4 e5 b c
    exact a5 _ _ _ e4 e5 b c
   refine cIf e0 c (fun e6 c=>?_) fun e6 c=>?_
   ·refine sR fun _ e7=>yY (lbs_ [G.v,E.v,H.v] ST_28 (eh b2) b R6) (bE c fun F e8 c=>?_)
    replace b:=(((b.pk 4 [2,2,0,0] rfl).ffz).pk 4 [2,2,0,0] rfl).ffz
    refine yC (yCall FN_43 (a1 e0)) (c3 e8 F1 F2 F0 b) ?_
    rintro _ w ⟨C,rfl,b⟩
    refine ⟨_,rfl,?_⟩
    refine Ym (.tuple #[C.v,.bool F.2]) e0 (yY (x_ C.v e0) (yY (x_ (.bool F.2) e0) (Ya C.v e0 (Ya (.bool F.2) e0 (wK e7 (seqQ fun i0 e9 f0=>sR fun _ f1=>Ym (.bool F.2) e0 (yY (ynot e0) (wK f1 ?_))))))))
    rcases iteS c with ⟨W,c⟩ | ⟨W,c⟩
    ·refine condF e0 (nF W) (wp_skip (e9 _ _ (sR fun _ f2=>Ym B.v (eh d7) (yY (yLen SL_22 e0 b rO4) (Ym (iV 0) rfl (wK f2 (blockQ fun f3 f4=>bE c fun f5 f6 c=>?_)))))))
     have f7:∀ (X:LI) (f:FV) w,f 1=(pB r)→f 4=o.v→St w0 ros (box r 28 [h.v,g.v,i.v]::row 3 I1 o.v X::rs) w→X=f5→f3 (.exit 0) (fr 61 f) w:=by
      intro X f w f8 f9 b ho
      subst ho
      exact f4 _ _ _ (b3 _ _ _ f8 f9 b c)
     refine loopQ (fun s a w=>∃ (Z:LI) (A:Int) (f:FV),(Z,A)=s∧a=fr 61 f∧f 1=(pB r)∧f 4=o.v∧f 8=C.v∧f 42=B.v∧f 43=iV (d.2.2.2.1.length:Int)∧f 44=iV A∧St w0 ros (box r 28 [h.v,g.v,i.v]::row 3 I1 o.v Z::row 3 I1 C.v F.1::row 3 I1 B.v d.2.2.2.1::rs) w) f6 ⟨_,_,_,rfl,rfl,T,b1,rfl,rfl,rfl,rfl,((b.pk 5 [1,1,0,1] rfl).facts (allT (allT (allT allI))))⟩ ?_
     rintro _ _ w i1 ⟨Z,A,f,rfl,rfl,b4,a0,b5,b6,b8,I,b⟩ p g0 i2 g1 g2
     refine sR fun _ g3=>yY (ylss (eh I) (eh b8)) (wK g3 (seqQ fun i3 g4 g5=>?_))
     refine cIf e0 p (fun g6 p=>?_) fun g6 p=>?_
     ·refine wp_skip (g4 _ _ (sQ fun _ g7=>blockQ fun _ g8=>sR fun _ g9=>Ym (iV A) (eh I) (bE p fun b9 c0 p=>yY (yIa SL_22 (eh b6) (eh I) b rO3 c0) (yY (yI O_3 e0 b rO3 c0) (Ya (iV A) e0 (Ya (iV b9) e0 (wK g9 ?_)))))))
      refine wR (Ym o.v (eh a0) (Ym (iV A) e0 (Ym C.v (eh b5) (Ym (iV b9) e0 (bE p fun h0 c1 p=>yY (yIa SL_22 e0 e0 b rO2 c1) (yY (yI O_3 e0 b rO2 c1) (bE p fun i4 c2 p=>yY (yIs SL_22 e0 e0 b rO1 c2) (yT (r_sti (cs:=[iV h0]) (b.pk 2 [1,0] rfl) O_3 rfl e0 e0 rfl mkI c2) fun w b=>wN (g8 _ _ _ ?_)))))))))
      refine g7 _ _ (wR (yY (yadd (eh I) rfl) (Ym (iV (wa .i64 A 1)) e0 (wN ?_))))
      cases p
      exact g1 _ _ _ rfl ⟨_,_,_,rfl,rfl,b4,a0,b5,b6,b8,rfl,(b.pk 4 [1,0,0,0] rfl)⟩
     ·refine wp_exit (g5 _ _ _ rfl ?_)
      cases p
      exact g2 _ _ _ _ rfl rfl (f7 _ _ _ b4 a0 (b.pk 4 [0,0] rfl) (g0 _ rfl))
    ·refine condT e0 (nT (bfalse W)) (sR fun _ h1=>Ya hnil.v rfl (Ya (.bool false) rfl (wK h1 (wp_ret (f0 _ _ _ rfl (a4 _ _ _ rfl ?_))))))
     cases c
     replace b:=b.rowNh 3 I1
     exact J _ _ _ (fin2r Tryz.results43 ⟨rfl,rfl⟩ ⟨rfl,rfl⟩ ⟨_,rfl,((b.pk 6 [0] rfl).facts (allT (allT (allT allI))))⟩)
   ·exact wp_skip (b3 _ _ _ T b1 ((b.pk 8 [0,0] rfl).facts (allT allI)) c)
  ·refine condT e0 (nT (bfalse U)) (sR fun _ h3=>Ya hnil.v rfl (Ya (.bool false) rfl (wK h3 (wp_ret (e1 _ _ _ rfl (a4 _ _ _ rfl ?_))))))
   cases c
   replace b:=b.rowNh 3 I1
   exact J _ _ _ (fin2r Tryz.results43 ⟨rfl,rfl⟩ ⟨rfl,rfl⟩ ⟨_,rfl,((b.pk 9 [0] rfl).facts (allT allI))⟩)
 ·exact wp_skip (a5 _ _ _ rfl rfl (b.pk 2 [1,0] rfl) c)
theorem dissect_bisect_ok_n (n:Nat):∀ {w0:World} {ros:List Fact} {rs:List Res} {w:World} {b:L2} {c:LI} {d:L2} {f g h:Hdr} {out:LI×Bool} (a:dissect_bisect n b c d=some out) (i:imm S1 f.v b∈ros) (j:imm I1 g.v c∈ros) (k:imm S1 h.v d∈ros) (l:St w0 ros rs w),
  Calls Tryz.prog 43 #[.agg #[f.v,g.v,h.v]] w (fun e w=>∃ (m:Hdr),e=.returned (.tuple #[m.v,.bool out.2])∧St w0 ros (row 3 I1 m.v out.1::rs) w):=by
 induction n with
 | zero=>intro _ _ _ _ _ _ _ _ _ _ out a; cases a
 | succ n ih=>exact fun a i j k l=>dissect_bisect_step (rec:=dissect_bisect n) ih a i j k l
theorem dissect_bisect_ok {a:L2} {b:LI} {c:L2} {d f g:Hdr} {out:LI×Bool} (i:dissect_bisect FUEL a b c=some out) (j:imm S1 d.v a∈ros) (k:imm I1 f.v b∈ros) (l:imm S1 g.v c∈ros) (m:St w0 ros rs w):
  Calls Tryz.prog 43 #[.agg #[d.v,f.v,g.v]] w (fun e w=>∃ (h:Hdr),e=.returned (.tuple #[h.v,.bool out.2])∧St w0 ros (row 3 I1 h.v out.1::rs) w):=dissect_bisect_ok_n FUEL i j k l m
end Go.Proofs.YthpeajepbffinaaGreat
