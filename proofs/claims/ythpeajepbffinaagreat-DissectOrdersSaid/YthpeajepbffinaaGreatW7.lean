/- Walks: each function computes its model, printed. -/
import Derived.Test.YthpeajepbffinaaGreatW6
namespace Go.Proofs.YthpeajepbffinaaGreat
open Go Sx M
set_option maxRecDepth 100000
set_option maxHeartbeats 40000000
set_option linter.unusedVariables false
attribute [local irreducible] wpList Code.wp Calls DR QR QS LA LS St
variable {w0:World} {ros:List Fact} {rs:List Res} {w:World}
theorem slices_Values_int_ok {c:LI} {a:Hdr} {out:Unit} (g:slices_Values_int c=some out) (k:imm I1 a.v c∈ros) (b:St w0 ros rs w):
  Calls Tryz.prog 130 #[a.v] w (fun e w=>∃ (d:Nat),e=.returned (.func (.func 142) #[] #[(pB d)])∧St w0 ros (box d 22 [a.v]::rs) w):=by
 refine enterQ Tryz.func130 rfl Tryz.ntmps130 rfl fun Q h=>sR fun _ i=>yBb (r_box (vals:=[a.v]) b e0 rfl) fun f w b=>Ya .nilFunc rfl (wK i (sR fun _ j=>yY (ymf (vf:=#[]) (vc:=#[(pB f)]) a0 (a1 e0)) (Ya (.func (.func 142) #[] #[(pB f)]) e0 (wK j ?_))))
 refine wp_ret ?_
 cases g
 exact h _ _ _ (fin1r Tryz.results130 ⟨rfl,rfl⟩ ⟨_,rfl,b⟩)
theorem slices_Collect_int_ok {f:LI} {a:Nat} {b:Hdr} {out:LI} (c:slices_Collect_int f=some out) (h:imm I1 b.v f∈ros) (d:St w0 ros (box a 22 [b.v]::rs) w):
  Calls Tryz.prog 141 #[.func (.func 142) #[] #[(pB a)]] w (fun e w=>∃ (g:Hdr),e=.returned (g.v)∧St w0 ros (box a 22 [b.v]::row 3 I1 g.v out::rs) w):=by
 refine enterQ Tryz.func141 rfl Tryz.ntmps141 rfl fun Q i=>sR fun _ j=>Ya hnil.v rfl (wK j (sR fun _ k=>Ym (.func (.func 142) #[] #[(pB a)]) e0 (bE c fun n l c=>yC (yCall FN_159 (a2 rfl e0)) (colV_ok l h d) ?_)))
 rintro _ w ⟨m,rfl,d⟩
 refine ⟨_,rfl,?_⟩
 refine Ya m.v e0 (wK k (wp_ret ?_))
 cases c
 exact i _ _ _ (fin1r Tryz.results141 ⟨rfl,rfl⟩ ⟨_,rfl,(d.pk 2 [1,0] rfl)⟩)
theorem slices_Sorted_int_ok {g:LI} {c:Nat} {f:Hdr} {out:LI} (b:slices_Sorted_int g=some out) (i:imm I1 f.v g∈ros) (a:St w0 ros (box c 22 [f.v]::rs) w):
  Calls Tryz.prog 129 #[.func (.func 142) #[] #[(pB c)]] w (fun e w=>∃ (h:Hdr),e=.returned (h.v)∧St w0 ros (box c 22 [f.v]::row 3 I1 h.v out::rs) w):=by
 refine enterQ Tryz.func129 rfl Tryz.ntmps129 rfl fun Q j=>sR fun _ k=>Ya hnil.v rfl (wK k (sR fun _ l=>Ym (.func (.func 142) #[] #[(pB c)]) e0 (bE b fun q m b=>yC (yCall FN_141 (a1 e0)) (slices_Collect_int_ok m i a) ?_)))
 rintro _ w ⟨d,rfl,a⟩
 refine ⟨_,rfl,?_⟩
 refine Ya d.v e0 (wK l (sR fun _ n=>Ym d.v e0 (bE b fun r o b=>?_)))
 replace a:=a.pk 2 [1,0] rfl
 refine yC (yCall FN_118 (a1 e0)) (sortI_ok o a) ?_
 rintro _ w ⟨rfl,a⟩
 refine ⟨_,rfl,?_⟩
 refine wK n (sR fun _ p=>Ym d.v e0 (Ya d.v e0 (wK p (wp_ret ?_))))
 cases b
 exact j _ _ _ (fin1r Tryz.results129 ⟨rfl,rfl⟩ ⟨_,rfl,(a.pk 2 [1,0] rfl)⟩)
theorem graph_twice_ok {d:LI} {c:Hdr} {out:Bool} (b:graph_twice d=some out) (f:imm I1 c.v d∈ros) (a:St w0 ros rs w):
  Calls Tryz.prog 113 #[c.v] w (fun e w=>e=.returned (.bool out)∧St w0 ros rs w):=by
 refine enterQ Tryz.func113 rfl Tryz.ntmps113 rfl fun Q g=>sR fun _ h=>Ya (.bool false) rfl (wK h (sR fun _ i=>Ym c.v e0 (bE b fun n j b=>yC (yCall FN_130 (a1 e0)) (slices_Values_int_ok j f a) ?_)))
 rintro _ w ⟨o,rfl,a⟩
 refine ⟨_,rfl,?_⟩
 refine bE b fun p k b=>yC (yCall FN_129 (a1 e0)) (slices_Sorted_int_ok k f a) ?_
 rintro _ w ⟨q,rfl,a⟩
 refine ⟨_,rfl,?_⟩
 refine bE b fun l m b=>?_
 replace a:=a.pk 2 [1,0] rfl
 refine yC (yCall FN_128 (a1 e0)) (compactI_ok m a) ?_
 rintro _ w ⟨r,rfl,a⟩
 refine ⟨_,rfl,?_⟩
 refine yY (yLen SL_22 e0 a rO0) (Ym c.v e0 (yY (yLen SL_22 e0 a (rdI f)) (yY (ylss e0 e0) (Ya (.bool (decide ((l.length:Int) < (d.length:Int)))) e0 (wK i (wp_ret ?_))))))
 cases b
 exact g _ _ _ (fin1r Tryz.results113 ⟨rfl,rfl⟩ ⟨rfl,(a.pk 2 [] rfl)⟩)
theorem graph_Sets_Graph_ok {m:List (List Bool)} {h:Hdr} {out:L2} (i:graph_Sets_Graph m=some out) (n:imm SB h.v m∈ros) (b:St w0 ros rs w):
  Calls Tryz.prog 132 #[h.v] w (fun e w=>∃ (r:Hdr),e=.returned (.agg #[r.v])∧St w0 ros (row 22 S1 r.v out::rs) w):=by
 refine enterQ Tryz.func132 rfl Tryz.ntmps132 rfl fun Q A=>sR fun _ B=>yBb (rAl b ZT_26) fun j w b=>wK B (sR fun _ C=>Ym h.v e0 (yY (yLen SL_136 e0 b (rdI n)) (bE i fun a4 D i=>yH (rMk b SL_24 e0 D) fun c w b=>?_)))
 refine yY (ybuild (us:=[c.v]) [(0,c.v)] SO_26 (bp1 e0) rfl) (yBb (rAl b ZT_26) fun k w b=>yT (r_stbn (vals':=[c.v]) (us:=[c.v]) b ST_26 e0 e0 rfl rfl (one_of rfl) rfl) fun w b=>wK C (sQ fun _ E=>sR fun _ F=>Ym h.v e0 (yY (yLen SL_136 e0 b (rdI n)) (Ym (iV 0) rfl (wN ?_)))))
 refine F _ _ (blockQ fun G H=>bE i fun I J i=>?_)
 have K:∀ (o:L2) (f:FV) w,f 2=(pB j)→f 3=(pB k)→St w0 ros (box j 26 [hnil.v]::row 22 S1 c.v o::box k 26 [c.v]::rs) w→o=I→G (.exit 0) (fr 23 f) w:=by
  intro o f w t L b ho
  subst ho
  refine H _ _ _ (E _ _ (sR fun _ N=>yY (lbs_ [c.v] ST_26 (eh L) b R2) (yT (r_stbn (vals':=[c.v]) (us:=[c.v]) b ST_26 (eh t) e0 rfl rfl (one_of rfl) rfl) fun w b=>wK N (wp_ret ?_))))
  cases i
  exact A _ _ _ (fin1r Tryz.results132 (rcs2 rfl t b R0 ST_26 rfl) ⟨_,rfl,(b.pk 3 [1] rfl)⟩)
 refine loopQ (fun s a w=>∃ (p:L2) (d:Int) (f:FV),(p,d)=s∧a=fr 23 f∧f 0=h.v∧f 2=(pB j)∧f 3=(pB k)∧f 10=iV (m.length:Int)∧f 11=iV d∧St w0 ros (box j 26 [hnil.v]::row 22 S1 c.v p::box k 26 [c.v]::rs) w) J ⟨_,_,_,rfl,rfl,rfl,rfl,rfl,rfl,rfl,(b.pk 3 [2,1,0] rfl)⟩ ?_
 rintro _ _ w a5 ⟨p,d,f,rfl,rfl,u,x,l,y,q,b⟩ g O a6 R S
 refine sR fun _ T=>yY (ylss (eh q) (eh y)) (wK T (seqQ fun a7 U V=>?_))
 refine cIf e0 g (fun W g=>?_) fun W g=>?_
 ·refine wp_skip (U _ _ (sQ fun _ X=>blockQ fun _ Z=>sR fun _ a0=>Ym (iV d) (eh q) (Ya (iV d) e0 (wK a0 (bE g fun a8 a1 g=>bE g fun a9 z g=>dR [0,1,0,0,0,24,63,127] [5,7] 2 folM ?_)))))
  replace b:=b.drew
  refine Dn [0,1,2,3,4] [] [5] (yR rfl (yFb FL_26_0 (eh l)) (yR rfl (lb_ c.v O_24 e0 b R2) (yR rfl (m_ (iV d) e0) (yR rfl (m_ h.v (eh u)) (yR rfl (m_ (iV d) e0) (Rn QSn ?_))))))
  refine Lc1 rfl ?_
  refine Lk wn (yCall FN_109 (a2 e0 e0)) (graph_Sets_List_ok a1 n b) ?_
  rintro _ w ⟨a3,rfl,b⟩
  refine ⟨_,rfl,?_⟩
  refine Dn [6] [0,1,2] [7] (yR rfl (yIs SL_24 e0 e0 b rO2 z) (Rn (yS rfl (yFb FL_26_0 (eh l)) (yS rfl (lb_ c.v O_24 e0 b R3) (yS rfl (m_ (iV d) e0) QSn))) ?_))
  refine Lc1 rfl ?_
  replace b:=b.fz.pk 2 [1,0] rfl
  refine LT wn (r_sti (cs:=[a3.v]) b O_22 rfl e0 e0 rfl (mkS F0) z) fun w b=>Dz [] [] (Rn QSn (Z _ _ _ (X _ _ (wR (yY (yadd (eh q) rfl) (Ym (iV (wa .i64 d 1)) e0 (wN ?_)))))))
  cases g
  exact R _ _ _ rfl ⟨_,_,_,rfl,rfl,u,x,l,y,rfl,((b.pk 3 [1,0,0] rfl).facts (allT allI))⟩
 ·refine wp_exit (V _ _ _ rfl ?_)
  cases g
  exact S _ _ _ _ rfl rfl (K _ _ _ x l b (O _ rfl))
theorem graph_induced_ok {R:L2} {p:LI} {n c:Hdr} {out:L2} (l:graph_induced R p=some out) (a8:imm S1 n.v R∈ros) (q:imm I1 c.v p∈ros) (b:St w0 ros rs w):
  Calls Tryz.prog 114 #[.agg #[n.v],c.v] w (fun e w=>∃ (S:Hdr),e=.returned (.agg #[S.v])∧St w0 ros (row 22 S1 S.v out::rs) w):=by
 refine enterQ Tryz.func114 rfl Tryz.ntmps114 rfl fun Q a9=>sR fun _ k1=>yBb (r_box (vals:=[n.v]) b e0 rfl) fun o w b=>yBb (rAl b ZT_26) fun j w b=>wK k1 (sR fun _ b0=>Ym c.v e0 (yY (yLen SL_22 e0 b (rdI q)) (bE l fun i0 b1 l=>?_)))
 refine yC (yCall FN_131 (a1 e0)) (graph_NewSets_ok b1 b) ?_
 rintro _ w ⟨h,k,rfl,b⟩
 refine ⟨_,rfl,?_⟩
 refine Ya h.v e0 (wK b0 (sQ fun _ b2=>sR fun _ b3=>Ym c.v e0 (yY (yLen SL_22 e0 b (rdI q)) (Ym (iV 0) rfl (wK b3 (blockQ fun b4 b7=>bE l fun b8 b9 l=>?_))))))
 have c0:∀ (A:List (List Bool)) (f:FV) w,f 4=(pB j)→f 5=h.v→St w0 ros (box j 26 [hnil.v]::row 93 rH h.v k::fam 4 rB k A::rs) w→A=b8→b4 (.exit 0) (fr 41 f) w:=by
  intro A f w T c1 b ho
  subst ho
  refine b7 _ _ _ (b2 _ _ (sR fun _ c2=>Ym h.v (eh c1) (bE l fun i1 c3 l=>?_)))
  replace b:=(b.pk 3 [1,1,0] rfl).ffz
  refine yC (yCall FN_132 (a1 e0)) (graph_Sets_Graph_ok c3 F0 b) ?_
  rintro _ w ⟨U,rfl,b⟩
  refine ⟨_,rfl,?_⟩
  refine yT (r_stbn (vals':=[U.v]) (us:=[U.v]) (b.pk 2 [1,0] rfl) ST_26 (eh T) e0 rfl rfl (one_of rfl) rfl) fun w b=>wK c2 (wp_ret ?_)
  cases l
  exact a9 _ _ _ (fin1r Tryz.results114 (rcs2 rfl T b R0 ST_26 rfl) ⟨_,rfl,((b.pk 2 [1] rfl).facts (allT allI))⟩)
 refine loopQ (fun s a w=>∃ (B:List (List Bool)) (d:Int) (f:FV),(B,d)=s∧a=fr 41 f∧f 1=c.v∧f 2=(pB o)∧f 4=(pB j)∧f 5=h.v∧f 13=c.v∧f 14=iV (p.length:Int)∧f 15=iV d∧St w0 ros (box o 26 [n.v]::box j 26 [hnil.v]::row 93 rH h.v k::fam 4 rB k B::rs) w) b9 ⟨_,_,_,rfl,rfl,rfl,rfl,rfl,rfl,rfl,rfl,rfl,(b.pk 4 [3,2,0,0] rfl)⟩ ?_
 rintro _ _ w i2 ⟨B,d,f,rfl,rfl,V,c4,W,X,Z,a0,t,b⟩ i c5 i3 c6 c7
 refine sR fun _ c8=>yY (ylss (eh t) (eh a0)) (wK c8 (seqQ fun i4 c9 d0=>?_))
 refine cIf e0 i (fun d1 i=>?_) fun d1 i=>?_
 ·refine wp_skip (c9 _ _ (sQ fun _ d2=>blockQ fun _ d3=>sR fun _ d4=>Ym (iV d) (eh t) (bE i fun u a2 i=>yY (yIa SL_22 (eh Z) (eh t) b (rdI q) a2) (yY (yI O_3 e0 b (rdI q) a2) (Ya (iV d) e0 (Ya (iV u) e0 (wK d4 ?_)))))))
  refine sR fun _ d5=>Ym c.v (eh V) (Ym (iV d) e0 (bE i fun x a4 i=>yY (ySl (k1:=.i64) SL_22 e0 b (rdI q) (.inr ⟨rfl,rfl⟩) (.inl (congrArg some e0)) a4) ?_))
  replace b:=b.sub q a4
  refine yY (yLen SL_22 e0 b (rdI F0)) (Ym (iV 0) rfl (wK d5 (blockQ fun d6 d7=>bE i fun d8 d9 i=>?_)))
  have e1:∀ (C:List (List Bool)) (f:FV) w,f 1=c.v→f 2=(pB o)→f 4=(pB j)→f 5=h.v→f 13=c.v→f 14=iV (p.length:Int)→f 15=iV d→St w0 ros (box o 26 [n.v]::box j 26 [hnil.v]::row 93 rH h.v k::fam 4 rB k C::rs) w→C=d8→d6 (.exit 2) (fr 41 f) w:=by
   intro C f w e2 e3 e4 e5 e6 e7 e8 b ho
   subst ho
   refine d7 _ _ _ (d3 _ _ _ (d2 _ _ (wR (yY (yadd (eh e8) rfl) (Ym (iV (wa .i64 d 1)) e0 (wN ?_))))))
   cases i
   exact c6 _ _ _ rfl ⟨_,_,_,rfl,rfl,e2,e3,e4,e5,e6,e7,rfl,b⟩
  refine loopQ (fun s a w=>∃ (D:List (List Bool)) (m:Int) (f:FV),(D,m)=s∧a=fr 41 f∧f 1=c.v∧f 2=(pB o)∧f 4=(pB j)∧f 5=h.v∧f 6=iV d∧f 7=iV u∧f 13=c.v∧f 14=iV (p.length:Int)∧f 15=iV d∧f 22=(subH c 1 0 d).v∧f 23=iV (x.length:Int)∧f 24=iV m∧St w0 (imm I1 (subH c 1 0 d).v x::ros) (box o 26 [n.v]::box j 26 [hnil.v]::row 93 rH h.v k::fam 4 rB k D::rs) w) d9 ⟨_,_,_,rfl,rfl,V,c4,W,X,rfl,rfl,Z,a0,t,rfl,rfl,rfl,b⟩ ?_
  rintro _ _ w e9 ⟨D,m,f,rfl,rfl,E,y,F,z,G,H,I,J,K,L,N,r,b⟩ g f0 i5 f1 f2
  refine sR fun _ f3=>yY (ylss (eh r) (eh N)) (wK f3 (seqQ fun i6 f4 f5=>?_))
  refine cIf e0 g (fun f6 g=>?_) fun f6 g=>?_
  ·refine wp_skip (f4 _ _ (sQ fun _ f7=>blockQ fun f8 f9=>sR fun _ g0=>Ym (iV m) (eh r) (bE g fun a5 a6 g=>yY (yIa SL_22 (eh L) (eh r) b (rdI F0) a6) (yY (yI O_3 e0 b (rdI F0) a6) (Ya (iV m) e0 (Ya (iV a5) e0 (wK g0 ?_)))))))
   refine sR fun _ g1=>yY (lbs_ [n.v] ST_26 (eh y) b R0) (Ym (iV u) (eh H) (Ym (iV a5) e0 (bE g fun i7 g2 g=>yC (yCall FN_82 (a3 e0 e0 e0)) (graph_joined_ok g2 (mtF a8) b) ?_)))
   rintro _ w ⟨rfl,b⟩
   refine ⟨_,rfl,?_⟩
   refine wK g1 ?_
   have a7:∀ (O:List (List Bool)) (f:FV) w,f 1=c.v→f 2=(pB o)→f 4=(pB j)→f 5=h.v→f 6=iV d→f 7=iV u→f 13=c.v→f 14=iV (p.length:Int)→f 15=iV d→f 22=(subH c 1 0 d).v→f 23=iV (x.length:Int)→f 24=iV m→St w0 (imm I1 (subH c 1 0 d).v x::ros) (box o 26 [n.v]::box j 26 [hnil.v]::row 93 rH h.v k::fam 4 rB k O::rs) w→graph_induced_j13 m O=some e9→f8 .normal (fr 41 f) w:=by
    intro O f w g3 g4 g5 g6 g7 g8 g9 h0 h1 h3 h5 h6 b l
    refine f9 _ _ _ (f7 _ _ (wR (yY (yadd (eh h6) rfl) (Ym (iV (wa .i64 m 1)) e0 (wN ?_)))))
    cases l
    exact f1 _ _ _ rfl ⟨_,_,_,rfl,rfl,g3,g4,g5,g6,g7,g8,g9,h0,h1,h3,h5,rfl,b⟩
   refine cB e0 g (fun h7 g=>?_) fun h7 g=>?_
   ·refine wR (Ym h.v (eh z) (Ym (iV d) (eh G) (Ym (iV m) e0 (bE g fun i8 h9 g=>?_))))
    replace b:=b.pk 4 [2,2,0,0] rfl
    refine yC (yCall FN_127 (a3 e0 e0 e0)) (graph_Sets_Join_ok h9 b) ?_
    rintro _ w ⟨rfl,b⟩
    refine ⟨_,rfl,?_⟩
    exact wN (a7 _ _ _ E y F z G H I J K L N r (b.pk 4 [2,2,0,0] rfl) g)
   ·exact wp_skip (a7 _ _ _ E y F z G H I J K L N r b g)
  ·refine wp_exit (f5 _ _ _ rfl ?_)
   cases g
   exact f2 _ _ _ _ rfl rfl (e1 _ _ _ E y F z I J K (b.facts (allT allI)) (f0 _ rfl))
 ·refine wp_exit (d0 _ _ _ rfl ?_)
  cases i
  exact c7 _ _ _ _ rfl rfl (c0 _ _ _ W X (b.pk 4 [1,1,1] rfl) (c5 _ rfl))
theorem graph_Induced_ok {m:L2} {n:LI} {c d:Hdr} {out:L2×Int} (b:graph_Induced m n=some out) (i:imm S1 c.v m∈ros) (j:imm I1 d.v n∈ros) (a:St w0 ros rs w):
  Calls Tryz.prog 91 #[.agg #[c.v],d.v] w (fun e w=>∃ (o:Hdr),e=.returned (.tuple #[.agg #[o.v],iV out.2])∧St w0 ros (row 22 S1 o.v out.1::rs) w):=by
 refine enterQ Tryz.func91 rfl Tryz.ntmps91 rfl fun Q g=>sR fun _ q=>yBb (r_box (vals:=[c.v]) a e0 rfl) fun r w a=>yBb (rAl a ZT_26) fun L w a=>Ya (iV 0) rfl (wK q (sR fun _ s=>yY (lbs_ [c.v] ST_26 e0 a R1) (bE b fun f t b=>?_)))
 refine yC (yCall FN_51 (a1 e0)) (graph_Check_ok t i a) ?_
 rintro _ w ⟨rfl,a⟩
 refine ⟨_,rfl,?_⟩
 refine Ya (iV f) e0 (wK s (seqQ fun N u k=>blockQ fun _ h=>sR fun _ x=>Ym (iV f) e0 (yY (yneq e0 rfl) (Ya (.bool (!(decide (f=0)))) e0 (wK x ?_)))))
 rcases iteS b with ⟨l,b⟩ | ⟨l,b⟩
 ·refine condF e0 (nF (dT l)) (sR fun _ y=>Ym d.v e0 (yY (ymf (vf:=#[]) (vc:=#[(pB r)]) a0 (a1 e0)) (bE b fun z A b=>?_)))
  replace a:=a.pk 2 [1,0] rfl
  refine yC (yCall FN_49 (a2 e0 e0)) (slices_ContainsFunc_int_v3_ok A j i a) ?_
  rintro _ w ⟨rfl,a⟩
  refine ⟨_,rfl,?_⟩
  refine Ya (.bool z) e0 (wK y (cB e0 b (fun B b=>?_) fun B b=>?_))
  ·refine sR fun _ C=>yY (ybuild (us:=[hnil.v]) [] SO_26 bp0 rfl) (yT (r_stbn (vals':=[hnil.v]) (us:=[hnil.v]) (a.pk 2 [1,0] rfl) ST_26 e0 e0 rfl rfl (one_of rfl) rfl) fun w a=>Ya (iV 3) rfl (wK C (wp_ret (h _ _ _ (k _ _ _ rfl ?_)))))
   cases b
   replace a:=a.rowNh 22 S1
   exact g _ _ _ (fin2r Tryz.results91 (rcs2 rfl rfl a R1 ST_26 rfl) ⟨rfl,rfl⟩ ⟨_,rfl,(a.pk 3 [0] rfl)⟩)
  ·refine sR fun _ D=>Ym d.v e0 (bE b fun E F b=>yC (yCall FN_113 (a1 e0)) (graph_twice_ok F j a) ?_)
   rintro _ w ⟨rfl,a⟩
   refine ⟨_,rfl,?_⟩
   refine Ya (.bool E) e0 (wK D (cB e0 b (fun G b=>?_) fun G b=>?_))
   ·refine sR fun _ H=>yY (ybuild (us:=[hnil.v]) [] SO_26 bp0 rfl) (yT (r_stbn (vals':=[hnil.v]) (us:=[hnil.v]) (a.pk 2 [1,0] rfl) ST_26 e0 e0 rfl rfl (one_of rfl) rfl) fun w a=>Ya (iV 90) rfl (wK H (wp_ret (h _ _ _ (k _ _ _ rfl ?_)))))
    cases b
    replace a:=a.rowNh 22 S1
    exact g _ _ _ (fin2r Tryz.results91 (rcs2 rfl rfl a R1 ST_26 rfl) ⟨rfl,rfl⟩ ⟨_,rfl,(a.pk 3 [0] rfl)⟩)
   ·refine wp_skip (h _ _ _ (u _ _ (sR fun _ I=>yY (lbs_ [c.v] ST_26 e0 a R0) (Ym d.v e0 (bE b fun O J b=>yC (yCall FN_114 (a2 e0 e0)) (graph_induced_ok J i j a) ?_)))))
    rintro _ w ⟨p,rfl,a⟩
    refine ⟨_,rfl,?_⟩
    refine yT (r_stbn (vals':=[p.v]) (us:=[p.v]) (a.pk 3 [2,0,0] rfl) ST_26 e0 e0 rfl rfl (one_of rfl) rfl) fun w a=>Ya (iV 0) rfl (wK I (wp_ret ?_))
    cases b
    exact g _ _ _ (fin2r Tryz.results91 (rcs2 rfl rfl a R0 ST_26 rfl) ⟨rfl,rfl⟩ ⟨_,rfl,(a.pk 3 [1] rfl)⟩)
 ·refine condT e0 (nT (dF l)) (sR fun _ K=>yY (ybuild (us:=[hnil.v]) [] SO_26 bp0 rfl) (Ym (iV f) e0 (yT (r_stbn (vals':=[hnil.v]) (us:=[hnil.v]) a ST_26 e0 e0 rfl rfl (one_of rfl) rfl) fun w a=>Ya (iV f) e0 (wK K (wp_ret (h _ _ _ (k _ _ _ rfl ?_)))))))
  cases b
  replace a:=a.rowNh 22 S1
  exact g _ _ _ (fin2r Tryz.results91 (rcs2 rfl rfl a R1 ST_26 rfl) ⟨rfl,rfl⟩ ⟨_,rfl,(a.pk 3 [0] rfl)⟩)
theorem dissect_dissected_step {rec:L2→Int→Option (LI)} (d4:∀ {w0:World} {ros:List Fact} {rs:List Res} {w:World} {x:L2} {m:Int} {j:Hdr} {out:LI} (c:rec x m=some out) (A:imm S1 j.v x∈ros) (b:St w0 ros rs w),Calls Tryz.prog 62 #[.agg #[j.v],iV m] w (fun e w=>∃ (B:Hdr),e=.returned (B.v)∧St w0 ros (row 3 I1 B.v out::rs) w)) {w0:World} {ros:List Fact} {rs:List Res} {w:World} {x:L2} {m:Int} {j:Hdr} {out:LI} (c:dissect_dissected_body rec x m=some out) (A:imm S1 j.v x∈ros) (b:St w0 ros rs w):
  Calls Tryz.prog 62 #[.agg #[j.v],iV m] w (fun e w=>∃ (B:Hdr),e=.returned (B.v)∧St w0 ros (row 3 I1 B.v out::rs) w):=by
 refine enterQ Tryz.func62 rfl Tryz.ntmps62 rfl fun Q Z=>sR fun _ d5=>yBb (r_box (vals:=[j.v]) b e0 rfl) fun t w b=>Ya hnil.v rfl (wK d5 (sR fun _ d6=>yY (ybuild (us:=[hnil.v,hnil.v,hnil.v]) [] SO_46 bp0 rfl) (yBb (rAl b ZT_46) fun q w b=>yT (r_stbn (vals':=[hnil.v,hnil.v,hnil.v]) (us:=[hnil.v,hnil.v,hnil.v]) b ST_46 e0 e0 rfl rfl (one_of rfl) rfl) ?_)))
 refine fun w b=>wK d6 (sQ fun d7 d8=>sR fun _ d9=>yY (yFb FL_26_0 e0) (yY (lb_ j.v O_24 e0 b R1) (yY (yLen SL_24 e0 b (rdI A)) (Ym (iV m) e0 (yY (ygtr e0 e0) (wK d9 ?_))))))
 have a0:∀ (d g u:LI) (h i k:Hdr) (f:FV) w,f 1=iV m→f 2=(pB t)→f 5=(pB q)→St w0 ros (box t 26 [j.v]::row 3 I1 h.v d::row 3 I1 i.v g::row 3 I1 k.v u::box q 46 [h.v,i.v,k.v]::rs) w→dissect_dissected_j1 rec x m d g u=some out→d7 .normal (fr 76 f) w:=by
  intro d g u h i k f w a3 a4 F b c
  refine d8 _ _ (seqQ fun l7 e1 e2=>sR fun _ e3=>yY (yFb FL_46_0 (eh F)) (yY (lb_ h.v O_22 e0 b R4) (yY (yLen SL_22 e0 b rO1) (yY (yeql e0 rfl) (Ym (.bool (decide ((d.length:Int)=0))) e0 ?_)))))
  refine joinW 5 (fun f w=>f 1=iV m∧f 2=(pB t)∧f 5=(pB q)∧f 32=.bool ((decide ((d.length:Int)=0)) || (decide ((g.length:Int)=0)))∧St w0 ros (box t 26 [j.v]::row 3 I1 h.v d::row 3 I1 i.v g::row 3 I1 k.v u::box q 46 [h.v,i.v,k.v]::rs) w) (fun a5=>?_) ?_
  ·rcases Bool.eq_false_or_eq_true (decide ((d.length:Int)=0)) with o | o
   ·exact gN o (gN o (gN o (gN o (yY (pt_ (.bool true) e0 o rfl) (a5 _ _ ⟨a3,a4,F,(congrArg Value.bool (orT o)),b⟩)))))
   ·exact yG o (yFb FL_46_1 (eh F)) (yG o (lb_ i.v O_22 e0 b R4) (yG o (yLen SL_22 e0 b rO2) (yG o (yeql e0 rfl) (yY (pf_ (.bool (decide ((g.length:Int)=0))) e0 o e0) (a5 _ _ ⟨a3,a4,F,(congrArg Value.bool (orF o)),b⟩)))))
  rintro f w ⟨e4,a6,J,e5,b⟩
  refine wK e3 (cB (eh e5) c (fun e6 c=>?_) fun e6 c=>?_)
  ·refine sR fun _ e7=>yY (lbs_ [j.v] ST_26 (eh a6) b R0) (bE c fun K e8 c=>yC (yCall FN_90 (a1 e0)) (mindeg_Exact_ok e8 A b) ?_)
   rintro _ w ⟨C,rfl,b⟩
   refine ⟨_,rfl,?_⟩
   refine Ym (.tuple #[C.v,iV K.2]) e0 (yY (x_ C.v e0) (yY (x_ (iV K.2) e0) (Ya C.v e0 (Ya (iV K.2) e0 (wK e7 (sR fun _ e9=>Ym C.v e0 (Ya C.v e0 (wK e9 (wp_ret ?_)))))))))
   refine e2 _ _ _ rfl ?_
   cases c
   exact Z _ _ _ (fin1r Tryz.results62 ⟨rfl,rfl⟩ ⟨_,rfl,(b.pk 6 [0] rfl)⟩)
  ·refine wp_skip (e1 _ _ (sR fun _ f0=>Ya hnil.v rfl (wK f0 (sQ fun _ f1=>sR fun _ f2=>yY (yFb FL_46_0 (eh J)) (yY (lb_ h.v O_22 e0 b R4) (yY (yFb FL_46_1 (eh J)) (yY (lb_ i.v O_22 e0 b R4) ?_)))))))
   refine yH (rLt (n:=2) (l:=[d,g]) ((((b.pk 2 [1,0] rfl).fz).pk 2 [1,0] rfl).fz) SL_24 [h.v,i.v] (bp2 e0 e0) rfl rfl (mks1 (cs:=[h.v]) rfl (mkS F1) (mks1 (cs:=[i.v]) rfl (mkS F0) mks0))) fun y w b=>yY (yLen SL_24 e0 b rO0) (Ym (iV 0) rfl (wK f2 (blockQ fun f3 f4=>bE c fun f5 f6 c=>?_)))
   have f7:∀ (L:LI) (G:Hdr) (f:FV) w,f 5=(pB q)→f 8=G.v→St w0 (imm I1 h.v d::imm I1 i.v g::ros) (row 3 I1 k.v u::box q 46 [h.v,i.v,k.v]::row 3 I1 G.v L::rs) w→L=f5→f3 (.exit 0) (fr 76 f) w:=by
    intro L G f w f8 f9 b ho
    subst ho
    refine f4 _ _ _ (f1 _ _ (sR fun _ g0=>Ym G.v (eh f9) (yY (yFb FL_46_2 (eh f8)) (yY (lb_ k.v O_22 e0 b R1) (bE c fun l8 g1 c=>yH (rAp (b.pk 3 [2,0,0] rfl) SL_22 e0 e0 rO1 g1) fun g2 w b=>Ya g2.v e0 (wK g0 (wp_ret ?_)))))))
    cases c
    exact Z _ _ _ (fin1r Tryz.results62 ⟨rfl,rfl⟩ ⟨_,rfl,((b.pk 3 [0] rfl).facts (allT (allT allI)))⟩)
   replace b:=b.rowNh 3 I1
   refine loopQ (fun s a w=>∃ (N:LI) (z:Int) (f:FV) (O:Hdr),(N,z)=s∧a=fr 76 f∧f 1=iV m∧f 2=(pB t)∧f 5=(pB q)∧f 8=O.v∧f 43=y.v∧f 44=iV ([d,g].length:Int)∧f 45=iV z∧St w0 (imm I1 h.v d::imm I1 i.v g::ros) (box t 26 [j.v]::row 3 I1 k.v u::box q 46 [h.v,i.v,k.v]::row 3 I1 O.v N::row 22 S1 y.v [d,g]::rs) w) f6 ⟨_,_,_,_,rfl,rfl,e4,a6,J,rfl,rfl,rfl,rfl,((b.pk 5 [2,2,2,0,0] rfl).facts (allC F1 (allC F0 (allT (allT allI)))))⟩ ?_
   rintro _ _ w l9 ⟨N,z,f,O,rfl,rfl,a7,a8,a9,b0,b1,b2,R,b⟩ p g3 m0 g4 g5
   refine sR fun _ g6=>yY (ylss (eh R) (eh b2)) (wK g6 (seqQ fun m1 g7 g8=>?_))
   refine cIf e0 p (fun g9 p=>?_) fun g9 p=>?_
   ·refine wp_skip (g7 _ _ (sQ fun _ h0=>blockQ fun _ h1=>sR fun _ h3=>bE p fun h4 b3 p=>yY (yIa SL_24 (eh b1) (eh R) b rO4 b3) ?_))
    obtain ⟨D,h5,b⟩:=rLs b rO4 b3
    refine yY (yCe O_22 e0 h5 rfl) (Ya D.v e0 (wK h3 (sR fun _ h6=>yY (lbs_ [j.v] ST_26 (eh a8) b R0) (Ym D.v e0 (bE p fun S h7 p=>yC (yCall FN_91 (a2 e0 e0)) (graph_Induced_ok h7 (F_3 A) F0 b) ?_)))))
    rintro _ w ⟨E,rfl,b⟩
    refine ⟨_,rfl,?_⟩
    refine Ym (.tuple #[.agg #[E.v],iV S.2]) e0 (yY (x_ (.agg #[E.v]) e0) (yY (x_ (iV S.2) e0) (yBb (rAl b ZT_26) fun m2 w b=>yT (r_stbn (vals':=[E.v]) (us:=[E.v]) b ST_26 e0 e0 rfl rfl (one_of rfl) rfl) fun w b=>Ya (iV S.2) e0 (wK h6 (sR fun _ h8=>yY (lbs_ [E.v] ST_26 e0 b R0) (Ym (iV m) (eh a7) ?_))))))
    refine bE p fun b6 h9 p=>?_
    replace b:=(b.pk 2 [1,0] rfl).fz
    refine yC (yCall FN_62 (a2 e0 e0)) (d4 h9 F0 b) ?_
    rintro _ w ⟨b7,rfl,b⟩
    refine ⟨_,rfl,?_⟩
    refine yY (yLen SL_22 e0 b rO0) (Ym (iV 0) rfl (wK h8 (blockQ fun i0 i1=>bE p fun i2 i3 p=>?_)))
    have i4:∀ (T:LI) (U:Hdr) (f:FV) w,f 1=iV m→f 2=(pB t)→f 5=(pB q)→f 8=U.v→f 43=y.v→f 44=iV ([d,g].length:Int)→f 45=iV z→St w0 (imm I1 h.v d::imm I1 i.v g::ros) (box t 26 [j.v]::row 3 I1 k.v u::box q 46 [h.v,i.v,k.v]::row 3 I1 U.v T::row 22 S1 y.v [d,g]::rs) w→T=i2→i0 (.exit 2) (fr 76 f) w:=by
     intro T U f w i5 i6 i7 i8 i9 j0 j3 b ho
     subst ho
     refine i1 _ _ _ (h1 _ _ _ (h0 _ _ (wR (yY (yadd (eh j3) rfl) (Ym (iV (wa .i64 z 1)) e0 (wN ?_))))))
     cases p
     exact g4 _ _ _ rfl ⟨_,_,_,_,rfl,rfl,i5,i6,i7,i8,i9,j0,rfl,b⟩
    refine loopQ (fun s a w=>∃ (V:LI) (H:Int) (f:FV) (I:Hdr),(V,H)=s∧a=fr 76 f∧f 1=iV m∧f 2=(pB t)∧f 5=(pB q)∧f 8=I.v∧f 10=D.v∧f 43=y.v∧f 44=iV ([d,g].length:Int)∧f 45=iV z∧f 57=b7.v∧f 58=iV (b6.length:Int)∧f 59=iV H∧St w0 (imm I1 h.v d::imm I1 i.v g::imm I1 D.v h4::ros) (box t 26 [j.v]::row 3 I1 k.v u::box q 46 [h.v,i.v,k.v]::row 3 I1 I.v V::row 22 S1 y.v [d,g]::row 3 I1 b7.v b6::rs) w) i3 ⟨_,_,_,_,rfl,rfl,a7,a8,a9,b0,rfl,b1,b2,R,rfl,rfl,rfl,((b.pk 7 [2,2,2,2,2,0] rfl).facts (allC F2 (allC F3 (allC F1 (allT (allT (allT (allT allI))))))))⟩ ?_
    rintro _ _ w m3 ⟨V,H,f,I,rfl,rfl,b8,b9,c0,c1,c2,c3,c4,c5,c6,c7,W,b⟩ r j4 m4 j5 j6
    refine sR fun _ j7=>yY (ylss (eh W) (eh c7)) (wK j7 (seqQ fun m5 j8 j9=>?_))
    refine cIf e0 r (fun k0 r=>?_) fun k0 r=>?_
    ·refine wp_skip (j8 _ _ (sQ fun _ l0=>blockQ fun _ l1=>sR fun _ l2=>bE r fun c8 c9 r=>yY (yIa SL_22 (eh c6) (eh W) b rO5 c9) (yY (yI O_3 e0 b rO5 c9) (Ya (iV c8) e0 (wK l2 (wR (Ym I.v (eh c1) ?_)))))))
     refine Ym D.v (eh c2) (Ym (iV c8) e0 (bE r fun X d0 r=>yY (yIa SL_22 e0 e0 b (rdI F2) d0) (yY (yI O_3 e0 b (rdI F2) d0) (yH (rLt (n:=1) (l:=[X]) b SL_22 [iV X] (bp1 e0) rfl rfl (mks1 (cs:=[iV X]) rfl mkI mks0)) fun m6 w b=>bE r fun m7 l3 r=>yH (rAp (b.pk 5 [4,0,0,0,0] rfl) SL_22 e0 e0 rO1 l3) fun l4 w b=>Ya l4.v e0 (wN (l1 _ _ _ (l0 _ _ ?_)))))))
     refine wR (yY (yadd (eh W) rfl) (Ym (iV (wa .i64 H 1)) e0 (wN ?_)))
     cases r
     exact j5 _ _ _ rfl ⟨_,_,_,_,rfl,rfl,b8,b9,c0,rfl,c2,c3,c4,c5,c6,c7,rfl,(b.pk 7 [2,2,2,0,1,1] rfl)⟩
    ·refine wp_exit (j9 _ _ _ rfl ?_)
     cases r
     exact j6 _ _ _ _ rfl rfl (i4 _ _ _ _ b8 b9 c0 c1 c3 c4 c5 ((b.pk 6 [0,0,0,0,0] rfl).facts (allC F0 (allC F1 (allT (allT (allT allI)))))) (j4 _ rfl))
   ·refine wp_exit (g8 _ _ _ rfl ?_)
    cases p
    exact g5 _ _ _ _ rfl rfl (f7 _ _ _ _ a9 b0 (b.pk 5 [1,1,1] rfl) (g3 _ rfl))
 refine cIf e0 c (fun l5 c=>?_) fun l5 c=>?_
 ·refine wR (yY (lbs_ [j.v] ST_26 e0 b R1) (bE c fun m8 l6 c=>yC (yCall FN_56 (a1 e0)) (dissect_separate_ok l6 A b) ?_))
  rintro _ w ⟨d1,d2,d3,rfl,b⟩
  refine ⟨_,rfl,?_⟩
  exact yT (r_stbn (vals':=[d1.v,d2.v,d3.v]) (us:=[d1.v,d2.v,d3.v]) (b.pk 4 [3,0,0,0] rfl) ST_46 e0 e0 rfl rfl (one_of rfl) rfl) fun w b=>wN (a0 _ _ _ _ _ _ _ _ rfl rfl rfl (b.pk 5 [4,1,1,1,0] rfl) c)
 ·refine wp_skip ?_
  replace b:=((b.rowNh 3 I1).rowNh 3 I1).rowNh 3 I1
  exact a0 _ _ _ _ _ _ _ _ rfl rfl rfl (b.pk 5 [4,2,1,0,0] rfl) c
theorem dissect_dissected_ok_n (n:Nat):∀ {w0:World} {ros:List Fact} {rs:List Res} {w:World} {b:L2} {c:Int} {d:Hdr} {out:LI} (a:dissect_dissected n b c=some out) (f:imm S1 d.v b∈ros) (g:St w0 ros rs w),
  Calls Tryz.prog 62 #[.agg #[d.v],iV c] w (fun e w=>∃ (h:Hdr),e=.returned (h.v)∧St w0 ros (row 3 I1 h.v out::rs) w):=by
 induction n with
 | zero=>intro _ _ _ _ _ _ _ out a; cases a
 | succ n ih=>exact fun a f g=>dissect_dissected_step (rec:=dissect_dissected n) ih a f g
theorem dissect_dissected_ok {a:L2} {b:Int} {c:Hdr} {out:LI} (f:dissect_dissected FUEL a b=some out) (g:imm S1 c.v a∈ros) (h:St w0 ros rs w):
  Calls Tryz.prog 62 #[.agg #[c.v],iV b] w (fun e w=>∃ (d:Hdr),e=.returned (d.v)∧St w0 ros (row 3 I1 d.v out::rs) w):=dissect_dissected_ok_n FUEL f g h
theorem dissect_Order_ok {l:L2} {b:Int} {g:Hdr} {out:LI×Int} (c:dissect_Order l b=some out) (m:imm S1 g.v l∈ros) (a:St w0 ros rs w):
  Calls Tryz.prog 29 #[.agg #[g.v],iV b] w (fun e w=>∃ (n:Hdr),e=.returned (.tuple #[n.v,iV out.2])∧St w0 ros (row 3 I1 n.v out.1::rs) w):=by
 refine enterQ Tryz.func29 rfl Tryz.ntmps29 rfl fun Q i=>sR fun _ r=>yBb (r_box (vals:=[g.v]) a e0 rfl) fun o w a=>Ya hnil.v rfl (Ya (iV 0) rfl (wK r (sR fun _ s=>yY (lbs_ [g.v] ST_26 e0 a R0) (bE c fun h t c=>yC (yCall FN_51 (a1 e0)) (graph_Check_ok t m a) ?_))))
 rintro _ w ⟨rfl,a⟩
 refine ⟨_,rfl,?_⟩
 refine Ya (iV h) e0 (wK s (seqQ fun I u p=>blockQ fun _ j=>sR fun _ x=>Ym (iV h) e0 (yY (yneq e0 rfl) (Ya (.bool (!(decide (h=0)))) e0 (wK x ?_)))))
 rcases iteS c with ⟨k,c⟩ | ⟨k,c⟩
 ·refine condF e0 (nF (dT k)) (sR fun _ y=>Ym (iV b) e0 (yY (ylss e0 rfl) (Ym (.bool (decide (b < 1))) e0 ?_)))
  refine joinW 3 (fun f w=>f 1=iV b∧f 2=(pB o)∧f 19=.bool ((decide (b < 1)) || (decide ((200:Int) < b)))∧St w0 ros (box o 26 [g.v]::rs) w) (fun q=>?_) ?_
  ·rcases Bool.eq_false_or_eq_true (decide (b < 1)) with d | d
   ·exact gN d (gN d (yY (pt_ (.bool true) e0 d rfl) (q _ _ ⟨rfl,rfl,(congrArg Value.bool (orT d)),a⟩)))
   ·exact yG d (m_ (iV b) e0) (yG d (ygtr e0 rfl) (yY (pf_ (.bool (decide ((200:Int) < b))) e0 d e0) (q _ _ ⟨rfl,rfl,(congrArg Value.bool (orF d)),a⟩)))
  rintro f w ⟨z,A,B,a⟩
  refine Ya (.bool ((decide (b < 1)) || (decide ((200:Int) < b)))) (eh B) (wK y (cB e0 c (fun C c=>?_) fun C c=>?_))
  ·refine sR fun _ D=>Ya hnil.v rfl (Ya (iV 1) rfl (wK D (wp_ret (j _ _ _ (p _ _ _ rfl ?_)))))
   cases c
   replace a:=a.rowNh 3 I1
   exact i _ _ _ (fin2r Tryz.results29 ⟨rfl,rfl⟩ ⟨rfl,rfl⟩ ⟨_,rfl,(a.pk 2 [0] rfl)⟩)
  ·refine wp_skip (j _ _ _ (u _ _ (sR fun _ E=>yY (lbs_ [g.v] ST_26 (eh A) a R0) (Ym (iV b) (eh z) (bE c fun J F c=>yC (yCall FN_62 (a2 e0 e0)) (dissect_dissected_ok F m a) ?_)))))
   rintro _ w ⟨G,rfl,a⟩
   refine ⟨_,rfl,?_⟩
   refine Ya G.v e0 (Ya (iV 0) rfl (wK E (wp_ret ?_)))
   cases c
   exact i _ _ _ (fin2r Tryz.results29 ⟨rfl,rfl⟩ ⟨rfl,rfl⟩ ⟨_,rfl,(a.pk 2 [0] rfl)⟩)
 ·refine condT e0 (nT (dF k)) (sR fun _ H=>Ym (iV h) e0 (Ya hnil.v rfl (Ya (iV h) e0 (wK H (wp_ret (j _ _ _ (p _ _ _ rfl ?_)))))))
  cases c
  replace a:=a.rowNh 3 I1
  exact i _ _ _ (fin2r Tryz.results29 ⟨rfl,rfl⟩ ⟨rfl,rfl⟩ ⟨_,rfl,(a.pk 2 [0] rfl)⟩)
theorem sparseref12_Table_ok {j:L2} {i:Hdr} {out:(List (List Bool))} (z:sparseref12_Table j=some out) (q:imm S1 i.v j∈ros) (b:St w0 ros rs w):
  Calls Tryz.prog 70 #[.agg #[i.v]] w (fun e w=>∃ (G:Hdr) (H:List Hdr),e=.returned (G.v)∧St w0 ros (row 93 rH G.v H::fam 4 rB H out::rs) w):=by
 refine enterQ Tryz.func70 rfl Tryz.ntmps70 rfl fun Q U=>sR fun _ V=>yBb (r_box (vals:=[i.v]) b e0 rfl) fun p w b=>Ya hnil.v rfl (wK V (sR fun _ W=>yY (yFb FL_26_0 e0) (yY (lb_ i.v O_24 e0 b R0) (yY (yLen SL_24 e0 b (rdI q)) (Ya (iV (j.length:Int)) e0 ?_)))))
 refine wK W (sR fun _ X=>Ya hnil.v rfl (wK X (sQ fun _ Z=>sR fun _ a0=>Ya (iV 0) rfl (wK a0 (blockQ fun a1 a2=>?_)))))
 refine bE z fun a3 a4 z=>?_
 have a5:∀ (A:List (List Bool)) (r:Hdr) (B:List Hdr) (f:FV) w,f 4=r.v→St w0 ros (row 93 rH r.v B::fam 4 rB B A::rs) w→A=a3→a1 (.exit 0) (fr 43 f) w:=by
  intro A r B f w a6 b ho
  subst ho
  refine a2 _ _ _ (Z _ _ (sR fun _ a7=>Ym r.v (eh a6) (Ya r.v e0 (wK a7 (wp_ret ?_)))))
  cases z
  exact U _ _ _ (fin1r Tryz.results70 ⟨rfl,rfl⟩ ⟨_,_,rfl,b⟩)
 replace b:=((b.rowNh 93 rH).fNew 4 rB).pk 2 [1,0] rfl
 refine loopQ (fun s a w=>∃ (t:List (List Bool)) (g:Int) (f:FV) (k:Hdr) (m:List Hdr),(t,g)=s∧a=fr 43 f∧f 1=(pB p)∧f 3=iV (j.length:Int)∧f 4=k.v∧f 5=iV g∧St w0 ros (box p 26 [i.v]::row 93 rH k.v m::fam 4 rB m t::rs) w) a4 ⟨_,_,_,_,_,rfl,rfl,rfl,rfl,rfl,rfl,(b.pk 3 [2,0,0] rfl)⟩ ?_
 rintro _ _ w e5 ⟨t,g,f,k,m,rfl,rfl,a8,C,I,J,b⟩ d a9 e6 b0 b1
 refine seqQ fun e7 b2 b4=>sR fun _ b5=>Ym (iV g) (eh J) (Ym (iV (j.length:Int)) (eh C) (yY (ylss e0 e0) (wK b5 ?_)))
 refine cIf e0 d (fun b6 d=>?_) fun b6 d=>?_
 ·refine wp_skip (b2 _ _ (sQ fun _ b7=>blockQ fun _ b8=>sR fun _ b9=>Ym (iV (j.length:Int)) (eh C) (bE d fun e8 c0 d=>yH (rMk b SL_93 e0 c0) fun h w b=>Ya h.v e0 (wK b9 (sQ fun _ c1=>?_)))))
  refine sR fun _ c2=>Ya (iV 0) rfl (wK c2 (blockQ fun c3 c4=>bE d fun c5 c6 d=>?_))
  have c7:∀ (u:List Bool) (f:FV) w,f 1=(pB p)→f 3=iV (j.length:Int)→f 4=k.v→f 5=iV g→f 6=h.v→St w0 ros (box p 26 [i.v]::row 93 rH k.v m::fam 4 rB m t::row 4 rB h.v u::rs) w→u=c5→c3 (.exit 2) (fr 43 f) w:=by
   intro u f w c8 c9 d0 d1 d2 b ho
   subst ho
   refine c4 _ _ _ (c1 _ _ (wR (Ym k.v (eh d0) (Ym h.v (eh d2) (yH (rLt (n:=1) (l:=[h]) b SLH_98 [h.v] (bp1 e0) rfl rfl (mks1 rfl (mkF rfl) mks0)) fun e9 w b=>bE d fun f0 K d=>?_)))))
   replace b:=b.pk 3 [2,0,0] rfl
   obtain ⟨f1,ey112,d3⟩:=app_rep K (b.famL R3) (show [h].length=[u].length from rfl)
   refine yH (rAp b SLH_98 e0 e0 rO1 d3) fun d4 w b=>?_
   replace b:=(b.pk 5 [4,3,0,0,0] rfl).fPush
   rw [← ey112,← (app_some K).1] at b
   refine Ya d4.v e0 (wN (b8 _ _ _ (b7 _ _ (wR (Ym (iV g) (eh d1) (yY (yadd e0 rfl) (Ya (iV (wa .i64 g 1)) e0 (wN ?_))))))))
   cases d
   exact b0 _ _ _ rfl ⟨_,_,_,_,_,rfl,rfl,c8,c9,rfl,rfl,(b.pk 4 [3,1,0] rfl)⟩
  refine loopQ (fun s a w=>∃ (D:List Bool) (o:Int) (f:FV),(D,o)=s∧a=fr 43 f∧f 1=(pB p)∧f 3=iV (j.length:Int)∧f 4=k.v∧f 5=iV g∧f 6=h.v∧f 7=iV o∧St w0 ros (box p 26 [i.v]::row 93 rH k.v m::fam 4 rB m t::row 4 rB h.v D::rs) w) c6 ⟨_,_,_,rfl,rfl,a8,C,I,J,rfl,rfl,(b.pk 4 [1,1,1,0] rfl)⟩ ?_
  rintro _ _ w f2 ⟨D,o,f,rfl,rfl,x,L,N,y,E,F,b⟩ c d5 f3 d6 d7
  refine seqQ fun f4 d8 d9=>sR fun _ e1=>Ym (iV o) (eh F) (yY (yFb FL_26_0 (eh x)) (yY (lb_ i.v O_24 e0 b R0) (Ym (iV g) (eh y) (bE c fun f5 O c=>yY (yIa SL_24 e0 e0 b (rdI q) O) ?_))))
  obtain ⟨f6,b⟩:=iLs b q O
  refine yY (yCt O_22 e0 b F1 rfl) (yY (yLen SL_22 e0 b (rdI F0)) (yY (ylss e0 e0) (wK e1 ?_)))
  refine cIf e0 c (fun e2 c=>?_) fun e2 c=>?_
  ·refine wp_skip (d8 _ _ (sQ fun _ e3=>blockQ fun _ e4=>wR (Ym h.v (eh E) (yY (yFb FL_26_0 (eh x)) (yY (lb_ i.v O_24 e0 b R0) (Ym (iV g) (eh y) (bE c fun f7 R c=>yY (yIa SL_24 e0 e0 b (rdI (F_2 q)) R) ?_)))))))
   obtain ⟨f8,b⟩:=iLs b (F_2 q) R
   refine yY (yCt O_22 e0 b F1 rfl) (Ym (iV o) (eh F) (bE c fun f9 S c=>yY (yIa SL_22 e0 e0 b (rdI F0) S) (yY (yI O_3 e0 b (rdI F0) S) (bE c fun g0 T c=>yY (yIs SL_93 e0 e0 b rO3 T) (yT (r_sti (cs:=[.bool true]) (b.pk 4 [3,0,0,0] rfl) O_4 rfl e0 rfl rfl mkB T) fun w b=>wN (e4 _ _ _ (e3 _ _ (wR (Ym (iV o) (eh F) ?_)))))))))
   refine yY (yadd e0 rfl) (Ya (iV (wa .i64 o 1)) e0 (wN ?_))
   cases c
   exact d6 _ _ _ rfl ⟨_,_,_,rfl,rfl,x,L,N,y,E,rfl,((b.pk 4 [1,1,1,0] rfl).facts (allT (allT (allT (allT allI)))))⟩
  ·refine wp_exit (d9 _ _ _ rfl ?_)
   cases c
   exact d7 _ _ _ _ rfl rfl (c7 _ _ _ x L N y E (b.facts (allT (allT allI))) (d5 _ rfl))
 ·refine wp_exit (b4 _ _ _ rfl ?_)
  cases d
  exact b1 _ _ _ _ rfl rfl (a5 _ _ _ _ _ I (b.pk 3 [1,1] rfl) (a9 _ rfl))
theorem sparseref16_Begin_ok {o:L2} {b:Hdr} {out:(List (List Bool))×(List Bool)} (g:sparseref16_Begin o=some out) (h:imm S1 b.v o∈ros) (a:St w0 ros rs w):
  Calls Tryz.prog 92 #[.agg #[b.v]] w (fun e w=>∃ (p:Nat) (q:Hdr) (r:List Hdr) (s:Hdr),e=.returned (pB p)∧St w0 ros (row 93 rH q.v r::fam 4 rB r out.1::row 4 rB s.v out.2::box p 123 [q.v,s.v]::rs) w):=by
 refine enterQ Tryz.func92 rfl Tryz.ntmps92 rfl fun Q y=>sR fun _ z=>yBb (r_box (vals:=[b.v]) a e0 rfl) fun F w a=>Ya (.pointer none) rfl (wK z (sQ fun _ A=>bE g fun B t g=>bE g fun C u g=>?_))
 refine joinN (n:=11) (fun f w=>∃ (i:Nat) (j:Hdr) (k:List Hdr) (l:Hdr),f 2=(pB i)∧St w0 ros (row 93 rH j.v k::fam 4 rB k B::row 4 rB l.v C::box i 123 [j.v,l.v]::rs) w) (fun x=>?_) ?_
 ·refine dR [0,1,0,4,12,28,63,127,255] [1,5,7,8] 4 folM ?_
  replace a:=a.drew
  refine Dn [0,2,3,4] [] [1,5] (yR rfl (lbs_ [b.v] ST_26 e0 a R0) (yR rfl (yFb FL_26_0 e0) (yR rfl (lb_ b.v O_24 e0 a R0) (yR rfl (yLen SL_24 e0 a (rdI h)) (Rn QSn ?_)))))
  refine Lc rfl ?_ (Lc1 rfl ?_)
  ·refine Lk wn (yCall FN_70 (a1 e0)) (sparseref12_Table_ok t h a) ?_
   rintro _ w ⟨c,D,rfl,a⟩
   refine ⟨_,rfl,?_⟩
   refine Dn [] [2,3,4] [5] (Rn (yS rfl (yFb FL_26_0 e0) (yS rfl (lb_ b.v O_24 e0 a R2) (yS rfl (yLen SL_24 e0 a (rdI h)) QSn))) ?_)
   refine Lc1 rfl ?_
   refine LH wn (rMk a SL_93 e0 u) fun d w a=>Dn [6] [] [7] (yR rfl (ybuild (us:=[c.v,d.v]) [(0,c.v),(1,d.v)] SO_123 (bp2 e0 e0) rfl) (Rn QSn ?_))
   refine Lc1 rfl ?_
   refine LB wn (r_box (vals:=[c.v,d.v]) a e0 rfl) fun m w a=>Dn [] [] [8] (Rn QSn ?_)
   refine Lc1 rfl ?_
   exact Ly wn (a_ (pB m) e0) (Dz [] [] (Rn QSn (x _ _ ⟨_,_,_,_,rfl,(a.pk 5 [2,2,1,0] rfl)⟩)))
  ·refine LH wn (rMk a SL_93 e0 u) fun d w a=>Dn [] [0] [1] (Rn (yS rfl (lbs_ [b.v] ST_26 e0 a R1) QSn) ?_)
   refine Lc1 rfl ?_
   refine Lk wn (yCall FN_70 (a1 e0)) (sparseref12_Table_ok t h a) ?_
   rintro _ w ⟨c,D,rfl,a⟩
   refine ⟨_,rfl,?_⟩
   refine Dn [6] [] [7] (yR rfl (ybuild (us:=[c.v,d.v]) [(0,c.v),(1,d.v)] SO_123 (bp2 e0 e0) rfl) (Rn QSn ?_))
   refine Lc1 rfl ?_
   refine LB wn (r_box (vals:=[c.v,d.v]) a e0 rfl) fun m w a=>Dn [] [] [8] (Rn QSn ?_)
   refine Lc1 rfl ?_
   exact Ly wn (a_ (pB m) e0) (Dz [] [] (Rn QSn (x _ _ ⟨_,_,_,_,rfl,(a.pk 5 [1,1,1,0] rfl)⟩)))
 rintro f w ⟨i,j,k,l,E,a⟩
 refine A _ _ (wp_ret ?_)
 cases g
 exact y _ _ _ (fin1r Tryz.results92 ⟨rfl,E⟩ ⟨_,_,_,_,rfl,a⟩)
theorem sparseref16_Elimination_Neighbours_ok {m:List (List Bool)} {o:List Bool} {q:Int} {i:Nat} {h:Hdr} {k:List Hdr} {j:Hdr} {out:LI} (t:sparseref16_Elimination_Neighbours m o q=some out) (b:St w0 ros (box i 123 [h.v,j.v]::row 93 rH h.v k::fam 4 rB k m::row 4 rB j.v o::rs) w):
  Calls Tryz.prog 93 #[(pB i),iV q] w (fun e w=>∃ (I:Hdr),e=.returned (I.v)∧St w0 ros (row 93 rH h.v k::fam 4 rB k m::row 4 rB j.v o::box i 123 [h.v,j.v]::row 3 I1 I.v out::rs) w):=by
 refine enterQ Tryz.func93 rfl Tryz.ntmps93 rfl fun Q T=>sR fun _ U=>Ya hnil.v rfl (wK U (sR fun _ V=>Ya hnil.v rfl (wK V (sQ fun _ W=>sR fun _ X=>?_))))
 refine Ya (iV 0) rfl (wK X (blockQ fun Z a0=>bE t fun a1 a2 t=>?_))
 have a3:∀ (B:LI) (u:Hdr) (f:FV) w,f 5=u.v→St w0 ros (row 93 rH h.v k::fam 4 rB k m::row 4 rB j.v o::box i 123 [h.v,j.v]::row 3 I1 u.v B::rs) w→B=a1→Z (.exit 0) (fr 41 f) w:=by
  intro B u f w a4 b ho
  subst ho
  refine a0 _ _ _ (W _ _ (sR fun _ a5=>Ym u.v (eh a4) (Ya u.v e0 (wK a5 (wp_ret ?_)))))
  cases t
  exact T _ _ _ (fin1r Tryz.results93 ⟨rfl,rfl⟩ ⟨_,rfl,b⟩)
 replace b:=b.rowNh 3 I1
 refine loopQ (fun s a w=>∃ (z:LI) (g:Int) (f:FV) (r:Hdr),(z,g)=s∧a=fr 41 f∧f 0=(pB i)∧f 1=iV q∧f 5=r.v∧f 6=iV g∧St w0 ros (row 93 rH h.v k::fam 4 rB k m::row 4 rB j.v o::box i 123 [h.v,j.v]::row 3 I1 r.v z::rs) w) a2 ⟨_,_,_,_,rfl,rfl,rfl,rfl,rfl,rfl,(b.pk 5 [2,2,2,1,0] rfl)⟩ ?_
 rintro _ _ w a6 ⟨z,g,f,r,rfl,rfl,x,C,D,y,b⟩ d a7 d0 a8 a9
 refine seqQ fun d1 b0 b2=>sR fun _ b3=>Ym (iV g) (eh y) (Ym (pB i) (eh x) (yY (yn e0) (yY (yFb FL_123_0 e0) (yY (lb_ h.v O_98 e0 b R3) (yY (yLenF SLH_98 e0 b rO0 R1) (yY (ylss e0 e0) (wK b3 ?_)))))))
 refine cIf e0 d (fun b4 d=>?_) fun b4 d=>?_
 ·refine wp_skip (b0 _ _ (sQ fun _ b5=>blockQ fun b6 b7=>sR fun _ b8=>Ym (pB i) (eh x) (yY (yn e0) (yY (yFb FL_123_0 e0) (yY (lb_ h.v O_98 e0 b R3) (Ym (iV q) (eh C) (bE d fun d2 E d=>?_)))))))
  obtain ⟨d3,A⟩:=b.famI R1 E
  refine yY (yIa SLH_98 e0 e0 b rO0 A) (yY (yF1 O_93 e0 b rO0 A rfl) (Ym (iV g) (eh y) (bE d fun b9 J d=>yY (yIa SL_93 e0 e0 b (rdF R1 A E) J) (yY (yB O_4 e0 b (rdF R1 A E) J) (Ym (.bool b9) e0 (bE d fun c0 p d=>?_))))))
  refine joinW 9 (fun f w=>f 0=(pB i)∧f 1=iV q∧f 5=r.v∧f 6=iV g∧f 35=.bool c0∧St w0 ros (row 93 rH h.v k::fam 4 rB k m::row 4 rB j.v o::box i 123 [h.v,j.v]::row 3 I1 r.v z::rs) w) (fun K=>?_) ?_
  ·rcases iteS p with ⟨c,p⟩ | ⟨c,p⟩
   ·refine yG c (m_ (pB i) (eh x)) (yG c (yn e0) (yG c (yFb FL_123_1 e0) (yG c (lb_ j.v O_93 e0 b R3) (yG c (m_ (iV g) (eh y)) (bE p fun c1 L p=>yG c (yIa SL_93 e0 e0 b rO2 L) (yG c (yB O_4 e0 b rO2 L) (yG c (ynot e0) (yY (pt_ (.bool (!c1)) e0 c e0) ?_))))))))
    cases p
    exact K _ _ ⟨x,C,D,y,rfl,b⟩
   ·refine gN (bfalse c) (gN (bfalse c) (gN (bfalse c) (gN (bfalse c) (gN (bfalse c) (gN (bfalse c) (gN (bfalse c) (gN (bfalse c) (yY (pf_ (.bool false) e0 (bfalse c) rfl) ?_))))))))
    cases p
    exact K _ _ ⟨x,C,D,y,rfl,b⟩
  rintro f w ⟨N,O,R,F,c2,b⟩
  refine wK b8 ?_
  have S:∀ (G:LI) (H:Hdr) (f:FV) w,f 0=(pB i)→f 1=iV q→f 5=H.v→f 6=iV g→St w0 ros (row 93 rH h.v k::fam 4 rB k m::row 4 rB j.v o::box i 123 [h.v,j.v]::row 3 I1 H.v G::rs) w→sparseref16_Elimination_Neighbours_j7 g G=some a6→b6 .normal (fr 41 f) w:=by
   intro G H f w c3 c4 c5 c6 b t
   refine b7 _ _ _ (b5 _ _ (wR (Ym (iV g) (eh c6) (yY (yadd e0 rfl) (Ya (iV (wa .i64 g 1)) e0 (wN ?_))))))
   cases t
   exact a8 _ _ _ rfl ⟨_,_,_,_,rfl,rfl,c3,c4,c5,rfl,b⟩
  refine cB (eh c2) d (fun c7 d=>?_) fun c7 d=>?_
  ·exact wR (Ym r.v (eh R) (Ym (iV g) (eh F) (yH (rLt (n:=1) (l:=[g]) b SL_22 [iV g] (bp1 e0) rfl rfl (mks1 (cs:=[iV g]) rfl mkI mks0)) fun d4 w b=>bE d fun d5 c8 d=>yH (rAp (b.pk 6 [5,0,0,0,0,0] rfl) SL_22 e0 e0 rO1 c8) fun c9 w b=>Ya c9.v e0 (wN (S _ _ _ _ N O rfl F (b.pk 6 [2,2,2,2,0] rfl) d)))))
  ·exact wp_skip (S _ _ _ _ N O R F b d)
 ·refine wp_exit (b2 _ _ _ rfl ?_)
  cases d
  exact a9 _ _ _ _ rfl rfl (a3 _ _ _ _ D b (a7 _ rfl))
theorem sparseref16_Elimination_Eliminate_ok {H:List (List Bool)} {o:List Bool} {m:Int} {d:Nat} {g:Hdr} {i:List Hdr} {h:Hdr} {out:(List (List Bool))×(List Bool)} (n:sparseref16_Elimination_Eliminate H o m=some out) (b:St w0 ros (box d 123 [g.v,h.v]::row 93 rH g.v i::fam 4 rB i H::row 4 rB h.v o::rs) w):
  Calls Tryz.prog 94 #[(pB d),iV m] w (fun e w=>e=.returned (.tuple #[])∧St w0 ros (row 93 rH g.v i::fam 4 rB i out.1::row 4 rB h.v out.2::box d 123 [g.v,h.v]::rs) w):=by
 refine enterQ Tryz.func94 rfl Tryz.ntmps94 rfl fun Q U=>sR fun _ V=>Ym (pB d) e0 (Ym (iV m) e0 (bE n fun x W n=>yC (yCall FN_93 (a2 e0 e0)) (sparseref16_Elimination_Neighbours_ok W b) ?_))
 rintro _ w ⟨j,rfl,b⟩
 refine ⟨_,rfl,?_⟩
 refine Ya j.v e0 (wK V (sQ fun _ X=>sR fun _ Z=>Ya (iV 0) rfl (wK Z (blockQ fun a0 a1=>bE n fun a3 a4 n=>?_))))
 have a5:∀ (z:List (List Bool)) (f:FV) w,f 0=(pB d)→f 1=iV m→St w0 ros (row 93 rH g.v i::fam 4 rB i z::row 4 rB h.v o::box d 123 [g.v,h.v]::rs) w→z=a3→a0 (.exit 0) (fr 46 f) w:=by
  intro z f w a6 a7 b ho
  subst ho
  refine a1 _ _ _ (X _ _ (wR (Ym (pB d) (eh a6) (yY (yn e0) (yY (yFb FL_123_1 e0) (yY (lb_ h.v O_93 e0 b R3) (Ym (iV m) (eh a7) (bE n fun e7 I n=>yY (yIs SL_93 e0 e0 b rO2 I) (yT (r_sti (cs:=[.bool true]) (b.pk 3 [2,0,0] rfl) O_4 rfl e0 rfl rfl mkB I) fun w b=>wN ?_)))))))))
  cases n
  exact U _ _ _ (fin0n Tryz.results94 ⟨rfl,(b.pk 4 [1,1,0,0] rfl)⟩)
 refine loopQ (fun s a w=>∃ (A:List (List Bool)) (k:Int) (f:FV),(A,k)=s∧a=fr 46 f∧f 0=(pB d)∧f 1=iV m∧f 4=j.v∧f 5=iV k∧St w0 ros (row 93 rH g.v i::fam 4 rB i A::row 4 rB h.v o::box d 123 [g.v,h.v]::row 3 I1 j.v x::rs) w) a4 ⟨_,_,_,rfl,rfl,rfl,rfl,rfl,rfl,b⟩ ?_
 rintro _ _ w e8 ⟨A,k,f,rfl,rfl,J,K,L,N,b⟩ p a8 e9 a9 b0
 refine seqQ fun f0 b2 b3=>sR fun _ b4=>Ym (iV k) (eh N) (Ym j.v (eh L) (yY (yLen SL_22 e0 b rO4) (yY (ylss e0 e0) (wK b4 ?_))))
 refine cIf e0 p (fun b5 p=>?_) fun b5 p=>?_
 ·refine wp_skip (b2 _ _ (sQ fun _ b6=>blockQ fun _ b7=>sR fun _ b8=>Ya (iV 0) rfl (wK b8 (blockQ fun b9 c0=>bE p fun c1 c2 p=>?_))))
  have c3:∀ (B:List (List Bool)) (f:FV) w,f 0=(pB d)→f 1=iV m→f 4=j.v→f 5=iV k→St w0 ros (row 93 rH g.v i::fam 4 rB i B::row 4 rB h.v o::box d 123 [g.v,h.v]::row 3 I1 j.v x::rs) w→B=c1→b9 (.exit 2) (fr 46 f) w:=by
   intro B f w c4 c5 c6 c7 b ho
   subst ho
   refine c0 _ _ _ (b7 _ _ _ (b6 _ _ (wR (Ym (iV k) (eh c7) (yY (yadd e0 rfl) (Ya (iV (wa .i64 k 1)) e0 (wN ?_)))))))
   cases p
   exact a9 _ _ _ rfl ⟨_,_,_,rfl,rfl,c4,c5,c6,rfl,b⟩
  refine loopQ (fun s a w=>∃ (C:List (List Bool)) (l:Int) (f:FV),(C,l)=s∧a=fr 46 f∧f 0=(pB d)∧f 1=iV m∧f 4=j.v∧f 5=iV k∧f 6=iV l∧St w0 ros (row 93 rH g.v i::fam 4 rB i C::row 4 rB h.v o::box d 123 [g.v,h.v]::row 3 I1 j.v x::rs) w) c2 ⟨_,_,_,rfl,rfl,J,K,L,N,rfl,b⟩ ?_
  rintro _ _ w c8 ⟨C,l,f,rfl,rfl,y,D,q,r,t,b⟩ c c9 f1 d0 d1
  refine seqQ fun f2 d2 d3=>sR fun _ d4=>Ym (iV l) (eh t) (Ym j.v (eh q) (yY (yLen SL_22 e0 b rO4) (yY (ylss e0 e0) (wK d4 ?_))))
  refine cIf e0 c (fun d5 c=>?_) fun d5 c=>?_
  ·refine wp_skip (d2 _ _ (sQ fun _ d6=>blockQ fun d7 d8=>sR fun _ d9=>Ym (iV k) (eh r) (Ym (iV l) (eh t) (yY (yneq e0 e0) (wK d9 ?_)))))
   have O:∀ (E:List (List Bool)) (f:FV) w,f 0=(pB d)→f 1=iV m→f 4=j.v→f 5=iV k→f 6=iV l→St w0 ros (row 93 rH g.v i::fam 4 rB i E::row 4 rB h.v o::box d 123 [g.v,h.v]::row 3 I1 j.v x::rs) w→sparseref16_Elimination_Eliminate_j13 l E=some c8→d7 .normal (fr 46 f) w:=by
    intro E f w e1 e2 e3 e4 e5 b n
    refine d8 _ _ _ (d6 _ _ (wR (Ym (iV l) (eh e5) (yY (yadd e0 rfl) (Ya (iV (wa .i64 l 1)) e0 (wN ?_))))))
    cases n
    exact d0 _ _ _ rfl ⟨_,_,_,rfl,rfl,e1,e2,e3,e4,rfl,b⟩
   rcases iteS c with ⟨F,c⟩ | ⟨F,c⟩
   ·exact condF e0 (nF (dT F)) (wp_skip (O _ _ _ y D q r t b c))
   ·refine condT e0 (nT (dF F)) (bE c fun f3 R c=>bE c fun f4 G c=>bE c fun f5 S c=>bE c fun f6 T c=>bE c fun f7 e6 c=>dR [0,1,3,7,0,0,48,112,255,511,0,0,3072,7168,16383,32767] [15] 1 folM ?_)
    replace b:=b.drew
    refine Dn [0,1,2,3,4,5,6,7,8,9,10,11,12,13,14] [] [15] (yR rfl (m_ (pB d) (eh y)) (yR rfl (yn e0) (yR rfl (yFb FL_123_0 e0) (yR rfl (lb_ g.v O_98 e0 b R3) (yR rfl (m_ j.v (eh q)) (yR rfl (m_ (iV k) (eh r)) (yR rfl (yIa SL_22 e0 e0 b rO4 R) (yR rfl (yI O_3 e0 b rO4 R) ?_))))))))
    obtain ⟨f8,u⟩:=b.famI R1 G
    refine yR rfl (yIa SLH_98 e0 e0 b rO0 u) (yR rfl (yF1 O_93 e0 b rO0 u rfl) (yR rfl (m_ j.v (eh q)) (yR rfl (m_ (iV l) (eh t)) (yR rfl (yIa SL_22 e0 e0 b rO4 S) (yR rfl (yI O_3 e0 b rO4 S) (yR rfl (yIs SL_93 e0 e0 b (rdF R1 u G) T) (Rn QSn ?_)))))))
    refine Lc1 rfl ?_
    replace b:=b.pk 2 [1,0] rfl
    refine LT wn (r_sti (cs:=[.bool true]) (b.foc u G) O_4 rfl e0 rfl rfl mkB T) fun w b=>?_
    replace b:=b.unfoc' u e6
    exact Dz [] [] (Rn QSn (O _ _ _ y D q r t (b.pk 5 [1,0,0,0,0] rfl) c))
  ·refine wp_exit (d3 _ _ _ rfl ?_)
   cases c
   exact d1 _ _ _ _ rfl rfl (c3 _ _ _ y D q r b (c9 _ rfl))
 ·refine wp_exit (b3 _ _ _ rfl ?_)
  cases p
  exact b0 _ _ _ _ rfl rfl (a5 _ _ _ J K (b.pk 5 [0,0,0,0] rfl) (a8 _ rfl))
theorem sparseref16_Exact_ok {W:L2} {j:Hdr} {out:LI×Int} (k:sparseref16_Exact W=some out) (I:imm S1 j.v W∈ros) (b:St w0 ros rs w):
  Calls Tryz.prog 63 #[.agg #[j.v]] w (fun e w=>∃ (X:Hdr),e=.returned (.tuple #[X.v,iV out.2])∧St w0 ros (row 3 I1 X.v out.1::rs) w):=by
 refine enterQ Tryz.func63 rfl Tryz.ntmps63 rfl fun Q Z=>sR fun _ b2=>yBb (r_box (vals:=[j.v]) b e0 rfl) fun p w b=>Ya hnil.v rfl (Ya (iV 0) rfl (wK b2 (seqQ fun j3 b4 b5=>sR fun _ b6=>yY (lbs_ [j.v] ST_26 e0 b R0) (bE k fun J b8 k=>?_))))
 refine yC (yCall FN_54 (a1 e0)) (sparseref12_Check_ok b8 I b) ?_
 rintro _ w ⟨rfl,b⟩
 refine ⟨_,rfl,?_⟩
 refine Ya (iV J) e0 (wK b6 (sR fun _ b9=>Ym (iV J) e0 (yY (yneq e0 rfl) (wK b9 ?_))))
 rcases iteS k with ⟨O,k⟩ | ⟨O,k⟩
 ·refine condF e0 (nF (dT O)) (wp_skip (b4 _ _ (sR fun _ c0=>yY (lbs_ [j.v] ST_26 e0 b R0) (bE k fun j4 c1 k=>yC (yCall FN_92 (a1 e0)) (sparseref16_Begin_ok c1 I b) ?_))))
  rintro _ w ⟨c,q,r,m,rfl,b⟩
  refine ⟨_,rfl,?_⟩
  refine Ya (pB c) e0 (wK c0 (sR fun _ c2=>Ya hnil.v rfl (wK c2 (sQ fun _ c3=>blockQ fun c4 c6=>bE k fun c7 c8 k=>?_))))
  have c9:∀ (R:LI) (F:Hdr) (f:FV) w,f 6=F.v→St w0 ros (row 3 I1 F.v R::rs) w→R=c7→c4 (.exit 0) (fr 62 f) w:=by
   intro R F f w d0 b ho
   subst ho
   refine c6 _ _ _ (c3 _ _ (sR fun _ d1=>Ym F.v (eh d0) (Ya F.v e0 (Ya (iV 0) rfl (wK d1 (wp_ret ?_))))))
   cases k
   exact Z _ _ _ (fin2r Tryz.results63 ⟨rfl,rfl⟩ ⟨rfl,rfl⟩ ⟨_,rfl,b⟩)
  replace b:=b.rowNh 3 I1
  refine loopQ (fun s a w=>∃ (z:List (List Bool)) (A:List Bool) (B:LI) (f:FV) (d:Hdr),(z,A,B)=s∧a=fr 62 f∧f 1=(pB p)∧f 5=(pB c)∧f 6=d.v∧St w0 ros (box p 26 [j.v]::row 93 rH q.v r::fam 4 rB r z::row 4 rB m.v A::box c 123 [q.v,m.v]::row 3 I1 d.v B::rs) w) c8 ⟨_,_,_,_,_,rfl,rfl,rfl,rfl,rfl,(b.pk 6 [5,1,1,1,1,0] rfl)⟩ ?_
  rintro _ _ w j5 ⟨z,A,B,f,d,rfl,rfl,a0,d2,S,b⟩ t d3 j6 d4 d5
  refine seqQ fun j7 d6 d7=>sR fun _ d8=>Ym d.v (eh S) (yY (yLen SL_22 e0 b rO5) (yY (yFb FL_26_0 (eh a0)) (yY (lb_ j.v O_24 e0 b R0) (yY (yLen SL_24 e0 b (rdI I)) (yY (ylss e0 e0) (wK d8 ?_))))))
  refine cIf e0 t (fun d9 t=>?_) fun d9 t=>?_
  ·refine wp_skip (d6 _ _ (blockQ fun _ e1=>sR fun _ e2=>Ya (iV (-1)) rfl (Ya (iV 0) rfl (wK e2 (sQ fun _ e3=>sR fun _ e4=>Ya (iV 0) rfl (wN ?_))))))
   refine e4 _ _ (blockQ fun e5 e6=>bE t fun e7 e8 t=>?_)
   have e9:∀ (C:Int) (f:FV) w,f 1=(pB p)→f 5=(pB c)→f 6=d.v→f 7=iV C→St w0 ros (box p 26 [j.v]::row 93 rH q.v r::fam 4 rB r z::row 4 rB m.v A::box c 123 [q.v,m.v]::row 3 I1 d.v B::rs) w→C=e7→e5 (.exit 2) (fr 62 f) w:=by
    intro C f w f0 a3 f1 a4 b ho
    subst ho
    refine e6 _ _ _ (e3 _ _ (sR fun _ f2=>Ym (pB c) (eh a3) (Ym (iV C) (eh a4) (bE t fun j8 f3 t=>?_))))
    replace b:=b.pk 5 [4,1,1,1,0] rfl
    refine yC (yCall FN_94 (a2 e0 e0)) (sparseref16_Elimination_Eliminate_ok f3 b) ?_
    rintro _ w ⟨rfl,b⟩
    refine ⟨_,rfl,?_⟩
    refine wK f2 (wR (Ym d.v (eh f1) (Ym (iV C) (eh a4) (yH (rLt (n:=1) (l:=[C]) b SL_22 [iV C] (bp1 e0) rfl rfl (mks1 (cs:=[iV C]) rfl mkI mks0)) fun j9 w b=>bE t fun k0 f4 t=>yH (rAp (b.pk 7 [6,0,0,0,0,0,0] rfl) SL_22 e0 e0 rO1 f4) fun f5 w b=>Ya f5.v e0 (wN (e1 _ _ _ ?_))))))
    cases t
    exact d4 _ _ _ rfl ⟨_,_,_,_,_,rfl,rfl,f0,a3,rfl,(b.pk 7 [6,2,2,2,2,0] rfl)⟩
   refine loopQ (fun s a w=>∃ (g x h:Int) (f:FV),(g,x,h)=s∧a=fr 62 f∧f 1=(pB p)∧f 5=(pB c)∧f 6=d.v∧f 7=iV g∧f 8=iV x∧f 9=iV h∧St w0 ros (box p 26 [j.v]::row 93 rH q.v r::fam 4 rB r z::row 4 rB m.v A::box c 123 [q.v,m.v]::row 3 I1 d.v B::rs) w) e8 ⟨_,_,_,_,rfl,rfl,a0,d2,S,rfl,rfl,rfl,b⟩ ?_
   rintro _ _ w f6 ⟨g,x,h,f,rfl,rfl,G,D,K,H,L,E,b⟩ o f7 k8 f8 f9
   refine seqQ fun k9 g0 g1=>sR fun _ g2=>Ym (iV h) (eh E) (yY (yFb FL_26_0 (eh G)) (yY (lb_ j.v O_24 e0 b R0) (yY (yLen SL_24 e0 b (rdI I)) (yY (ylss e0 e0) (wK g2 ?_)))))
   refine cIf e0 o (fun g3 o=>?_) fun g3 o=>?_
   ·refine wp_skip (g0 _ _ (sQ fun _ g4=>blockQ fun g5 g6=>sR fun _ g7=>Ym (pB c) (eh D) (Ym (iV h) (eh E) (bE o fun y g8 o=>?_))))
    replace b:=b.pk 5 [4,1,1,1,0] rfl
    refine yC (yCall FN_93 (a2 e0 e0)) (sparseref16_Elimination_Neighbours_ok g8 b) ?_
    rintro _ w ⟨l0,rfl,b⟩
    refine ⟨_,rfl,?_⟩
    refine yY (yLen SL_22 e0 b rO4) (Ya (iV (y.length:Int)) e0 (wK g7 (sR fun _ g9=>Ym (pB c) (eh D) (yY (yn e0) (yY (yFb FL_123_1 e0) (yY (lb_ m.v O_93 e0 b R3) (Ym (iV h) (eh E) (bE o fun N a5 o=>yY (yIa SL_93 e0 e0 b rO2 a5) (yY (yB O_4 e0 b rO2 a5) ?_)))))))))
    refine yY (ynot e0) (Ym (.bool (!N)) e0 ?_)
    refine joinW 8 (fun f w=>f 1=(pB p)∧f 5=(pB c)∧f 6=d.v∧f 7=iV g∧f 8=iV x∧f 9=iV h∧f 10=iV (y.length:Int)∧f 51=.bool ((!N) && ((decide (g < 0)) || (decide ((y.length:Int) < x))))∧St w0 ros (box p 26 [j.v]::row 93 rH q.v r::fam 4 rB r z::row 4 rB m.v A::box c 123 [q.v,m.v]::row 3 I1 d.v B::rs) w) (fun a6=>?_) ?_
    ·rcases Bool.eq_false_or_eq_true (!N) with i | i
     ·refine yG i (m_ (iV g) (eh H)) (yG i (ylss e0 rfl) (yG i (m_ (.bool (decide (g < 0))) e0) ?_))
      refine joinW 4 (fun f w=>f 1=(pB p)∧f 5=(pB c)∧f 6=d.v∧f 7=iV g∧f 8=iV x∧f 9=iV h∧f 10=iV (y.length:Int)∧f 43=.bool (!N)∧f 44=iV g∧f 45=.bool (decide (g < 0))∧f 46=.bool (decide (g < 0))∧f 50=.bool ((decide (g < 0)) || (decide ((y.length:Int) < x)))∧St w0 ros (box p 26 [j.v]::row 93 rH q.v r::fam 4 rB r z::row 4 rB m.v A::box c 123 [q.v,m.v]::row 3 I1 d.v B::rs) w) (fun a7=>?_) ?_
      ·rcases Bool.eq_false_or_eq_true (decide (g < 0)) with u | u
       ·exact gN u (gN u (gN u (yG i (pt_ (.bool true) e0 u rfl) (a7 _ _ ⟨G,D,K,H,L,E,rfl,rfl,rfl,rfl,rfl,(congrArg Value.bool (orT u)),(b.pk 7 [5,0,0,0,0,1] rfl)⟩))))
       ·exact yG u (m_ (iV (y.length:Int)) e0) (yG u (m_ (iV x) (eh L)) (yG u (ylss e0 e0) (yG i (pf_ (.bool (decide ((y.length:Int) < x))) e0 u e0) (a7 _ _ ⟨G,D,K,H,L,E,rfl,rfl,rfl,rfl,rfl,(congrArg Value.bool (orF u)),(b.pk 7 [5,0,0,0,0,1] rfl)⟩))))
      rintro f w ⟨h0,h1,h3,h4,h5,h6,h7,h9,l1,l2,l3,i0,b⟩
      exact yY (pt_ (.bool ((decide (g < 0)) || (decide ((y.length:Int) < x)))) (eh h9) i (eh i0)) (a6 _ _ ⟨h0,h1,h3,h4,h5,h6,h7,(congrArg Value.bool (andT i)),b⟩)
     ·exact gN i (gN i (gN i (Gn (wxu rfl rfl rfl) rfl (Gn (wxu rfl rfl rfl) rfl (Gn (wxu rfl rfl rfl) rfl (gN i (yY (pf_ (.bool false) e0 i rfl) (a6 _ _ ⟨G,D,K,H,L,E,rfl,(congrArg Value.bool (andF i)),(b.pk 7 [5,0,0,0,0,1] rfl)⟩))))))))
    rintro f w ⟨a8,a9,b0,i1,i2,T,i3,i4,b⟩
    refine wK g9 ?_
    have b1:∀ (U V:Int) (f:FV) w,f 1=(pB p)→f 5=(pB c)→f 6=d.v→f 7=iV U→f 8=iV V→f 9=iV h→St w0 ros (box p 26 [j.v]::row 93 rH q.v r::fam 4 rB r z::row 4 rB m.v A::box c 123 [q.v,m.v]::row 3 I1 d.v B::rs) w→sparseref16_Exact_j40 h U V=some f6→g5 .normal (fr 62 f) w:=by
     intro U V f w i5 i6 i7 i8 i9 j0 b k
     refine g6 _ _ _ (g4 _ _ (wR (Ym (iV h) (eh j0) (yY (yadd e0 rfl) (Ya (iV (wa .i64 h 1)) e0 (wN ?_))))))
     cases k
     exact f8 _ _ _ rfl ⟨_,_,_,_,rfl,rfl,i5,i6,i7,i8,i9,rfl,b⟩
    refine cB (eh i4) o (fun j1 o=>?_) fun j1 o=>?_
    ·exact wR (Ym (iV h) (eh T) (Ym (iV (y.length:Int)) (eh i3) (Ya (iV h) e0 (Ya (iV (y.length:Int)) e0 (wN (b1 _ _ _ _ a8 a9 b0 rfl rfl T b o))))))
    ·exact wp_skip (b1 _ _ _ _ a8 a9 b0 i1 i2 T b o)
   ·refine wp_exit (g1 _ _ _ rfl ?_)
    cases o
    exact f9 _ _ _ _ rfl rfl (e9 _ _ _ G D K H b (f7 _ rfl))
  ·refine wp_exit (d7 _ _ _ rfl ?_)
   cases t
   exact d5 _ _ _ _ rfl rfl (c9 _ _ _ _ S (b.pk 6 [5] rfl) (d3 _ rfl))
 ·refine condT e0 (nT (dF O)) (sR fun _ j2=>Ym (iV J) e0 (Ya hnil.v rfl (Ya (iV J) e0 (wK j2 (wp_ret (b5 _ _ _ rfl ?_))))))
  cases k
  replace b:=b.rowNh 3 I1
  exact Z _ _ _ (fin2r Tryz.results63 ⟨rfl,rfl⟩ ⟨rfl,rfl⟩ ⟨_,rfl,(b.pk 2 [0] rfl)⟩)
end Go.Proofs.YthpeajepbffinaaGreat
