/- Walks: each function computes its model, printed. -/
import Derived.Test.YthpeajepbffinaaGreatW6
namespace Go.Proofs.YthpeajepbffinaaGreat
open Go Sx M
set_option maxRecDepth 100000
set_option maxHeartbeats 40000000
set_option linter.unusedVariables false
attribute [local irreducible] wpList Code.wp Calls DR QR QS LA LS St
variable {w0:World} {ros:List Fact} {rs:List Res} {w:World}
theorem slices_Values_int_ok {c:LI} {a:Hdr} {out:Unit} (g:slices_Values_int c=some out) (k:imm I1 a.v c∈ros) (b:St w0 ros rs w):
  Calls Tryz.prog 130 #[a.v] w (fun e w=>∃ (d:Nat),e=.returned (.func (.func 142) #[] #[(pB d)])∧St w0 ros (box d 22 [a.v]::rs) w):=by
 refine enterQ Tryz.func130 rfl Tryz.ntmps130 rfl fun Q h=>sR fun _ i=>yBb (r_box (vals:=[a.v]) b e0 rfl) fun f w b=>Ya .nilFunc rfl (wK i (sR fun _ j=>yY (ymf (vf:=#[]) (vc:=#[(pB f)]) a0 (a1 e0)) (Ya (.func (.func 142) #[] #[(pB f)]) e0 (wK j ?_))))
 refine wp_ret ?_
 cases g
 exact h _ _ _ (fin1r Tryz.results130 ⟨rfl,rfl⟩ ⟨_,rfl,b⟩)
theorem slices_Collect_int_ok {f:LI} {a:Nat} {b:Hdr} {out:LI} (c:slices_Collect_int f=some out) (h:imm I1 b.v f∈ros) (d:St w0 ros (box a 22 [b.v]::rs) w):
  Calls Tryz.prog 141 #[.func (.func 142) #[] #[(pB a)]] w (fun e w=>∃ (g:Hdr),e=.returned (g.v)∧St w0 ros (box a 22 [b.v]::row 3 I1 g.v out::rs) w):=by
 refine enterQ Tryz.func141 rfl Tryz.ntmps141 rfl fun Q i=>sR fun _ j=>Ya hnil.v rfl (wK j (sR fun _ k=>Ym (.func (.func 142) #[] #[(pB a)]) e0 (bE c fun n l c=>yC (yCall FN_159 (a2 rfl e0)) (colV_ok l h d) ?_)))
 rintro _ w ⟨m,rfl,d⟩
 refine ⟨_,rfl,?_⟩
 refine Ya m.v e0 (wK k (wp_ret ?_))
 cases c
 exact i _ _ _ (fin1r Tryz.results141 ⟨rfl,rfl⟩ ⟨_,rfl,(d.pk 2 [1,0] rfl)⟩)
theorem slices_Sorted_int_ok {g:LI} {c:Nat} {f:Hdr} {out:LI} (b:slices_Sorted_int g=some out) (i:imm I1 f.v g∈ros) (a:St w0 ros (box c 22 [f.v]::rs) w):
  Calls Tryz.prog 129 #[.func (.func 142) #[] #[(pB c)]] w (fun e w=>∃ (h:Hdr),e=.returned (h.v)∧St w0 ros (box c 22 [f.v]::row 3 I1 h.v out::rs) w):=by
 refine enterQ Tryz.func129 rfl Tryz.ntmps129 rfl fun Q j=>sR fun _ k=>Ya hnil.v rfl (wK k (sR fun _ l=>Ym (.func (.func 142) #[] #[(pB c)]) e0 (bE b fun q m b=>yC (yCall FN_141 (a1 e0)) (slices_Collect_int_ok m i a) ?_)))
 rintro _ w ⟨d,rfl,a⟩
 refine ⟨_,rfl,?_⟩
 refine Ya d.v e0 (wK l (sR fun _ n=>Ym d.v e0 (bE b fun r o b=>?_)))
 replace a:=a.pk 2 [1,0] rfl
 refine yC (yCall FN_118 (a1 e0)) (sortI_ok o a) ?_
 rintro _ w ⟨rfl,a⟩
 refine ⟨_,rfl,?_⟩
 refine wK n (sR fun _ p=>Ym d.v e0 (Ya d.v e0 (wK p (wp_ret ?_))))
 cases b
 exact j _ _ _ (fin1r Tryz.results129 ⟨rfl,rfl⟩ ⟨_,rfl,(a.pk 2 [1,0] rfl)⟩)
theorem graph_twice_ok {d:LI} {c:Hdr} {out:Bool} (b:graph_twice d=some out) (f:imm I1 c.v d∈ros) (a:St w0 ros rs w):
  Calls Tryz.prog 113 #[c.v] w (fun e w=>e=.returned (.bool out)∧St w0 ros rs w):=by
 refine enterQ Tryz.func113 rfl Tryz.ntmps113 rfl fun Q g=>sR fun _ h=>Ya (.bool false) rfl (wK h (sR fun _ i=>Ym c.v e0 (bE b fun n j b=>yC (yCall FN_130 (a1 e0)) (slices_Values_int_ok j f a) ?_)))
 rintro _ w ⟨o,rfl,a⟩
 refine ⟨_,rfl,?_⟩
 refine bE b fun p k b=>yC (yCall FN_129 (a1 e0)) (slices_Sorted_int_ok k f a) ?_
 rintro _ w ⟨q,rfl,a⟩
 refine ⟨_,rfl,?_⟩
 refine bE b fun l m b=>?_
 replace a:=a.pk 2 [1,0] rfl
 refine yC (yCall FN_128 (a1 e0)) (compactI_ok m a) ?_
 rintro _ w ⟨r,rfl,a⟩
 refine ⟨_,rfl,?_⟩
 refine yY (yLen SL_22 e0 a rO0) (Ym c.v e0 (yY (yLen SL_22 e0 a (rdI f)) (yY (ylss e0 e0) (Ya (.bool (decide ((l.length:Int) < (d.length:Int)))) e0 (wK i (wp_ret ?_))))))
 cases b
 exact g _ _ _ (fin1r Tryz.results113 ⟨rfl,rfl⟩ ⟨rfl,(a.pk 2 [] rfl)⟩)
theorem graph_Sets_Graph_ok {k:List (List Bool)} {h:Hdr} {out:L2} (i:graph_Sets_Graph k=some out) (l:imm SB h.v k∈ros) (b:St w0 ros rs w):
  Calls Tryz.prog 132 #[h.v] w (fun e w=>∃ (p:Hdr),e=.returned (.agg #[p.v])∧St w0 ros (row 22 S1 p.v out::rs) w):=by
 refine enterQ Tryz.func132 rfl Tryz.ntmps132 rfl fun Q y=>sR fun _ z=>yBb (rAl b ZT_26) fun q w b=>wK z (sR fun _ A=>Ym h.v e0 (yY (yLen SL_136 e0 b (rdI l)) (bE i fun W B i=>yH (rMk b SL_24 e0 B) fun c w b=>?_)))
 refine yY (ybuild (us:=[c.v]) [(0,c.v)] SO_26 (bp1 e0) rfl) (yBb (rAl b ZT_26) fun r w b=>yT (r_stbn (vals':=[c.v]) (us:=[c.v]) b ST_26 e0 e0 rfl rfl (one_of rfl) rfl) fun w b=>wK A (sQ fun _ C=>sR fun _ D=>Ym h.v e0 (yY (yLen SL_136 e0 b (rdI l)) (Ym (iV 0) rfl (wN ?_)))))
 refine D _ _ (blockQ fun _ E=>bE i fun X F i=>?_)
 refine loopQ (fun s a w=>∃ (m:L2) (d:Int) (f:FV),(m,d)=s∧a=fr 23 f∧f 0=h.v∧f 2=(pB q)∧f 3=(pB r)∧f 10=iV (k.length:Int)∧f 11=iV d∧St w0 ros (box q 26 [hnil.v]::row 22 S1 c.v m::box r 26 [c.v]::rs) w) F ⟨_,_,_,rfl,rfl,rfl,rfl,rfl,rfl,rfl,(b.pk 3 [2,1,0] rfl)⟩ ?_
 rintro _ _ w Z ⟨m,d,f,rfl,rfl,t,n,j,u,o,b⟩ g G a0 H I
 refine sR fun _ J=>yY (ylss (eh o) (eh u)) (wK J (seqQ fun a1 K L=>?_))
 refine cIf e0 g (fun N g=>?_) fun N g=>?_
 ·refine wp_skip (K _ _ (sQ fun _ O=>blockQ fun _ R=>sR fun _ S=>Ym (iV d) (eh o) (Ya (iV d) e0 (wK S (bE g fun a3 T g=>bE g fun a4 x g=>dR [0,1,0,0,0,24,63,127] [5,7] 2 folM ?_)))))
  replace b:=b.drew
  refine Dn [0,1,2,3,4] [] [5] (yR rfl (yFb FL_26_0 (eh j)) (yR rfl (lb_ c.v O_24 e0 b R2) (yR rfl (m_ (iV d) e0) (yR rfl (m_ h.v (eh t)) (yR rfl (m_ (iV d) e0) (Rn QSn ?_))))))
  refine Lc1 rfl ?_
  refine Lk wn (yCall FN_109 (a2 e0 e0)) (graph_Sets_List_ok T l b) ?_
  rintro _ w ⟨U,rfl,b⟩
  refine ⟨_,rfl,?_⟩
  refine Dn [6] [0,1,2] [7] (yR rfl (yIs SL_24 e0 e0 b rO2 x) (Rn (yS rfl (yFb FL_26_0 (eh j)) (yS rfl (lb_ c.v O_24 e0 b R3) (yS rfl (m_ (iV d) e0) QSn))) ?_))
  refine Lc1 rfl ?_
  replace b:=b.fz.pk 2 [1,0] rfl
  refine LT wn (r_sti (cs:=[U.v]) b O_22 rfl e0 e0 rfl (mkS F0) x) fun w b=>Dz [] [] (Rn QSn (R _ _ _ (O _ _ (wR (yY (yadd (eh o) rfl) (Ym (iV (wa .i64 d 1)) e0 (wN ?_)))))))
  cases g
  exact H _ _ _ rfl ⟨_,_,_,rfl,rfl,t,n,j,u,rfl,((b.pk 3 [1,0,0] rfl).facts (allT allI))⟩
 refine wp_exit (L _ _ _ rfl ?_)
 cases g
 refine I _ _ _ _ rfl rfl ?_
 obtain rfl:=G _ rfl
 refine E _ _ _ (C _ _ (sR fun _ V=>yY (lbs_ [c.v] ST_26 (eh j) b R2) (yT (r_stbn (vals':=[c.v]) (us:=[c.v]) b ST_26 (eh n) e0 rfl rfl (one_of rfl) rfl) fun w b=>wK V (wp_ret ?_))))
 cases i
 exact y _ _ _ (fin1r Tryz.results132 (rcs2 rfl n b R0 ST_26 rfl) ⟨_,rfl,(b.pk 3 [1] rfl)⟩)
theorem graph_induced_ok {O:L2} {q:LI} {l d:Hdr} {out:L2} (i:graph_induced O q=some out) (a5:imm S1 l.v O∈ros) (m:imm I1 d.v q∈ros) (b:St w0 ros rs w):
  Calls Tryz.prog 114 #[.agg #[l.v],d.v] w (fun e w=>∃ (R:Hdr),e=.returned (.agg #[R.v])∧St w0 ros (row 22 S1 R.v out::rs) w):=by
 refine enterQ Tryz.func114 rfl Tryz.ntmps114 rfl fun Q a6=>sR fun _ k1=>yBb (r_box (vals:=[l.v]) b e0 rfl) fun n w b=>yBb (rAl b ZT_26) fun o w b=>wK k1 (sR fun _ a7=>Ym d.v e0 (yY (yLen SL_22 e0 b (rdI m)) (bE i fun g0 a8 i=>?_)))
 refine yC (yCall FN_131 (a1 e0)) (graph_NewSets_ok a8 b) ?_
 rintro _ w ⟨j,p,rfl,b⟩
 refine ⟨_,rfl,?_⟩
 refine Ya j.v e0 (wK a7 (sQ fun _ a9=>sR fun _ b0=>Ym d.v e0 (yY (yLen SL_22 e0 b (rdI m)) (Ym (iV 0) rfl (wK b0 (blockQ fun _ b1=>bE i fun g1 b2 i=>?_))))))
 refine loopQ (fun s a w=>∃ (A:List (List Bool)) (c:Int) (f:FV),(A,c)=s∧a=fr 41 f∧f 1=d.v∧f 2=(pB n)∧f 4=(pB o)∧f 5=j.v∧f 13=d.v∧f 14=iV (q.length:Int)∧f 15=iV c∧St w0 ros (box n 26 [l.v]::box o 26 [hnil.v]::row 93 rH j.v p::fam 4 rB p A::rs) w) b2 ⟨_,_,_,rfl,rfl,rfl,rfl,rfl,rfl,rfl,rfl,rfl,(b.pk 4 [3,2,0,0] rfl)⟩ ?_
 rintro _ _ w g2 ⟨A,c,f,rfl,rfl,S,b3,B,T,U,V,t,b⟩ h b4 g3 b7 b8
 refine sR fun _ b9=>yY (ylss (eh t) (eh V)) (wK b9 (seqQ fun g4 c0 c1=>?_))
 refine cIf e0 h (fun c2 h=>?_) fun c2 h=>?_
 ·refine wp_skip (c0 _ _ (sQ fun _ c3=>blockQ fun _ c4=>sR fun _ c5=>Ym (iV c) (eh t) (bE h fun u W h=>yY (yIa SL_22 (eh U) (eh t) b (rdI m) W) (yY (yI O_3 e0 b (rdI m) W) (Ya (iV c) e0 (Ya (iV u) e0 (wK c5 ?_)))))))
  refine sR fun _ c6=>Ym d.v (eh S) (Ym (iV c) e0 (bE h fun x X h=>yY (ySl (k1:=.i64) SL_22 e0 b (rdI m) (.inr ⟨rfl,rfl⟩) (.inl (congrArg some e0)) X) ?_))
  replace b:=b.sub m X
  refine yY (yLen SL_22 e0 b (rdI F0)) (Ym (iV 0) rfl (wK c6 (blockQ fun _ c7=>bE h fun g5 c8 h=>?_)))
  refine loopQ (fun s a w=>∃ (C:List (List Bool)) (k:Int) (f:FV),(C,k)=s∧a=fr 41 f∧f 1=d.v∧f 2=(pB n)∧f 4=(pB o)∧f 5=j.v∧f 6=iV c∧f 7=iV u∧f 13=d.v∧f 14=iV (q.length:Int)∧f 15=iV c∧f 22=(subH d 1 0 c).v∧f 23=iV (x.length:Int)∧f 24=iV k∧St w0 (imm I1 (subH d 1 0 c).v x::ros) (box n 26 [l.v]::box o 26 [hnil.v]::row 93 rH j.v p::fam 4 rB p C::rs) w) c8 ⟨_,_,_,rfl,rfl,S,b3,B,T,rfl,rfl,U,V,t,rfl,rfl,rfl,b⟩ ?_
  rintro _ _ w c9 ⟨C,k,f,rfl,rfl,D,y,E,z,F,G,H,I,J,K,L,r,b⟩ g d0 g6 d1 d2
  refine sR fun _ d3=>yY (ylss (eh r) (eh L)) (wK d3 (seqQ fun g7 d4 d5=>?_))
  refine cIf e0 g (fun d6 g=>?_) fun d6 g=>?_
  ·refine wp_skip (d4 _ _ (sQ fun _ d7=>blockQ fun d8 d9=>sR fun _ e1=>Ym (iV k) (eh r) (bE g fun Z a0 g=>yY (yIa SL_22 (eh K) (eh r) b (rdI F0) a0) (yY (yI O_3 e0 b (rdI F0) a0) (Ya (iV k) e0 (Ya (iV Z) e0 (wK e1 ?_)))))))
   refine sR fun _ e2=>yY (lbs_ [l.v] ST_26 (eh y) b R0) (Ym (iV u) (eh G) (Ym (iV Z) e0 (bE g fun g8 e3 g=>yC (yCall FN_82 (a3 e0 e0 e0)) (graph_joined_ok e3 (mtF a5) b) ?_)))
   rintro _ w ⟨rfl,b⟩
   refine ⟨_,rfl,?_⟩
   refine wK e2 ?_
   have a2:∀ (N:List (List Bool)) (f:FV) w,f 1=d.v→f 2=(pB n)→f 4=(pB o)→f 5=j.v→f 6=iV c→f 7=iV u→f 13=d.v→f 14=iV (q.length:Int)→f 15=iV c→f 22=(subH d 1 0 c).v→f 23=iV (x.length:Int)→f 24=iV k→St w0 (imm I1 (subH d 1 0 c).v x::ros) (box n 26 [l.v]::box o 26 [hnil.v]::row 93 rH j.v p::fam 4 rB p N::rs) w→graph_induced_j13 k N=some c9→d8 .normal (fr 41 f) w:=by
    intro N f w e4 e5 e6 e7 e8 e9 f0 f1 f2 f3 f4 f5 b i
    refine d9 _ _ _ (d7 _ _ (wR (yY (yadd (eh f5) rfl) (Ym (iV (wa .i64 k 1)) e0 (wN ?_)))))
    cases i
    exact d1 _ _ _ rfl ⟨_,_,_,rfl,rfl,e4,e5,e6,e7,e8,e9,f0,f1,f2,f3,f4,rfl,b⟩
   refine cB e0 g (fun f6 g=>?_) fun f6 g=>?_
   ·refine wR (Ym j.v (eh z) (Ym (iV c) (eh F) (Ym (iV k) e0 (bE g fun g9 f7 g=>?_))))
    replace b:=b.pk 4 [2,2,0,0] rfl
    refine yC (yCall FN_127 (a3 e0 e0 e0)) (graph_Sets_Join_ok f7 b) ?_
    rintro _ w ⟨rfl,b⟩
    refine ⟨_,rfl,?_⟩
    exact wN (a2 _ _ _ D y E z F G H I J K L r (b.pk 4 [2,2,0,0] rfl) g)
   exact wp_skip (a2 _ _ _ D y E z F G H I J K L r b g)
  refine wp_exit (d5 _ _ _ rfl ?_)
  cases g
  refine d2 _ _ _ _ rfl rfl ?_
  obtain rfl:=d0 _ rfl
  refine c7 _ _ _ (c4 _ _ _ (c3 _ _ (wR (yY (yadd (eh J) rfl) (Ym (iV (wa .i64 c 1)) e0 (wN ?_))))))
  cases h
  exact b7 _ _ _ rfl ⟨_,_,_,rfl,rfl,D,y,E,z,H,I,rfl,(b.facts (allT allI))⟩
 refine wp_exit (c1 _ _ _ rfl ?_)
 cases h
 refine b8 _ _ _ _ rfl rfl ?_
 obtain rfl:=b4 _ rfl
 refine b1 _ _ _ (a9 _ _ (sR fun _ f8=>Ym j.v (eh T) (bE i fun h0 f9 i=>?_)))
 replace b:=(b.pk 4 [2,2,0,0] rfl).ffz
 refine yC (yCall FN_132 (a1 e0)) (graph_Sets_Graph_ok f9 F0 b) ?_
 rintro _ w ⟨a4,rfl,b⟩
 refine ⟨_,rfl,?_⟩
 refine yT (r_stbn (vals':=[a4.v]) (us:=[a4.v]) (b.pk 3 [2,0,0] rfl) ST_26 (eh B) e0 rfl rfl (one_of rfl) rfl) fun w b=>wK f8 (wp_ret ?_)
 cases i
 exact a6 _ _ _ (fin1r Tryz.results114 (rcs2 rfl B b R0 ST_26 rfl) ⟨_,rfl,((b.pk 3 [1] rfl).facts (allT allI))⟩)
theorem graph_Induced_ok {m:L2} {n:LI} {c d:Hdr} {out:L2×Int} (b:graph_Induced m n=some out) (i:imm S1 c.v m∈ros) (j:imm I1 d.v n∈ros) (a:St w0 ros rs w):
  Calls Tryz.prog 91 #[.agg #[c.v],d.v] w (fun e w=>∃ (o:Hdr),e=.returned (.tuple #[.agg #[o.v],iV out.2])∧St w0 ros (row 22 S1 o.v out.1::rs) w):=by
 refine enterQ Tryz.func91 rfl Tryz.ntmps91 rfl fun Q g=>sR fun _ q=>yBb (r_box (vals:=[c.v]) a e0 rfl) fun r w a=>yBb (rAl a ZT_26) fun L w a=>Ya (iV 0) rfl (wK q (sR fun _ s=>yY (lbs_ [c.v] ST_26 e0 a R1) (bE b fun f t b=>?_)))
 refine yC (yCall FN_51 (a1 e0)) (graph_Check_ok t i a) ?_
 rintro _ w ⟨rfl,a⟩
 refine ⟨_,rfl,?_⟩
 refine Ya (iV f) e0 (wK s (seqQ fun N u k=>blockQ fun _ h=>sR fun _ x=>Ym (iV f) e0 (yY (yneq e0 rfl) (Ya (.bool (!(decide (f=0)))) e0 (wK x ?_)))))
 rcases iteS b with ⟨l,b⟩ | ⟨l,b⟩
 ·refine condF e0 (nF (dT l)) (sR fun _ y=>Ym d.v e0 (yY (ymf (vf:=#[]) (vc:=#[(pB r)]) a0 (a1 e0)) (bE b fun z A b=>?_)))
  replace a:=a.pk 2 [1,0] rfl
  refine yC (yCall FN_49 (a2 e0 e0)) (slices_ContainsFunc_int_v3_ok A j i a) ?_
  rintro _ w ⟨rfl,a⟩
  refine ⟨_,rfl,?_⟩
  refine Ya (.bool z) e0 (wK y (cB e0 b (fun B b=>?_) fun B b=>?_))
  ·refine sR fun _ C=>yY (ybuild (us:=[hnil.v]) [] SO_26 bp0 rfl) (yT (r_stbn (vals':=[hnil.v]) (us:=[hnil.v]) (a.pk 2 [1,0] rfl) ST_26 e0 e0 rfl rfl (one_of rfl) rfl) fun w a=>Ya (iV 3) rfl (wK C (wp_ret (h _ _ _ (k _ _ _ rfl ?_)))))
   cases b
   replace a:=a.rowNh 22 S1
   exact g _ _ _ (fin2r Tryz.results91 (rcs2 rfl rfl a R1 ST_26 rfl) ⟨rfl,rfl⟩ ⟨_,rfl,(a.pk 3 [0] rfl)⟩)
  refine sR fun _ D=>Ym d.v e0 (bE b fun E F b=>yC (yCall FN_113 (a1 e0)) (graph_twice_ok F j a) ?_)
  rintro _ w ⟨rfl,a⟩
  refine ⟨_,rfl,?_⟩
  refine Ya (.bool E) e0 (wK D (cB e0 b (fun G b=>?_) fun G b=>?_))
  ·refine sR fun _ H=>yY (ybuild (us:=[hnil.v]) [] SO_26 bp0 rfl) (yT (r_stbn (vals':=[hnil.v]) (us:=[hnil.v]) (a.pk 2 [1,0] rfl) ST_26 e0 e0 rfl rfl (one_of rfl) rfl) fun w a=>Ya (iV 90) rfl (wK H (wp_ret (h _ _ _ (k _ _ _ rfl ?_)))))
   cases b
   replace a:=a.rowNh 22 S1
   exact g _ _ _ (fin2r Tryz.results91 (rcs2 rfl rfl a R1 ST_26 rfl) ⟨rfl,rfl⟩ ⟨_,rfl,(a.pk 3 [0] rfl)⟩)
  refine wp_skip (h _ _ _ (u _ _ (sR fun _ I=>yY (lbs_ [c.v] ST_26 e0 a R0) (Ym d.v e0 (bE b fun O J b=>yC (yCall FN_114 (a2 e0 e0)) (graph_induced_ok J i j a) ?_)))))
  rintro _ w ⟨p,rfl,a⟩
  refine ⟨_,rfl,?_⟩
  refine yT (r_stbn (vals':=[p.v]) (us:=[p.v]) (a.pk 3 [2,0,0] rfl) ST_26 e0 e0 rfl rfl (one_of rfl) rfl) fun w a=>Ya (iV 0) rfl (wK I (wp_ret ?_))
  cases b
  exact g _ _ _ (fin2r Tryz.results91 (rcs2 rfl rfl a R0 ST_26 rfl) ⟨rfl,rfl⟩ ⟨_,rfl,(a.pk 3 [1] rfl)⟩)
 refine condT e0 (nT (dF l)) (sR fun _ K=>yY (ybuild (us:=[hnil.v]) [] SO_26 bp0 rfl) (Ym (iV f) e0 (yT (r_stbn (vals':=[hnil.v]) (us:=[hnil.v]) a ST_26 e0 e0 rfl rfl (one_of rfl) rfl) fun w a=>Ya (iV f) e0 (wK K (wp_ret (h _ _ _ (k _ _ _ rfl ?_)))))))
 cases b
 replace a:=a.rowNh 22 S1
 exact g _ _ _ (fin2r Tryz.results91 (rcs2 rfl rfl a R1 ST_26 rfl) ⟨rfl,rfl⟩ ⟨_,rfl,(a.pk 3 [0] rfl)⟩)
theorem dissect_dissected_step {rec:L2→Int→Option (LI)} (d0:∀ {w0:World} {ros:List Fact} {rs:List Res} {w:World} {u:L2} {o:Int} {d:Hdr} {out:LI} (c:rec u o=some out) (y:imm S1 d.v u∈ros) (b:St w0 ros rs w),Calls Tryz.prog 62 #[.agg #[d.v],iV o] w (fun e w=>∃ (z:Hdr),e=.returned (z.v)∧St w0 ros (row 3 I1 z.v out::rs) w)) {w0:World} {ros:List Fact} {rs:List Res} {w:World} {u:L2} {o:Int} {d:Hdr} {out:LI} (c:dissect_dissected_body rec u o=some out) (y:imm S1 d.v u∈ros) (b:St w0 ros rs w):
  Calls Tryz.prog 62 #[.agg #[d.v],iV o] w (fun e w=>∃ (z:Hdr),e=.returned (z.v)∧St w0 ros (row 3 I1 z.v out::rs) w):=by
 refine enterQ Tryz.func62 rfl Tryz.ntmps62 rfl fun Q U=>sR fun _ d1=>yBb (r_box (vals:=[d.v]) b e0 rfl) fun r w b=>Ya hnil.v rfl (wK d1 (sR fun _ d2=>yY (ybuild (us:=[hnil.v,hnil.v,hnil.v]) [] SO_46 bp0 rfl) (yBb (rAl b ZT_46) fun t w b=>yT (r_stbn (vals':=[hnil.v,hnil.v,hnil.v]) (us:=[hnil.v,hnil.v,hnil.v]) b ST_46 e0 e0 rfl rfl (one_of rfl) rfl) ?_)))
 refine fun w b=>wK d2 (sQ fun d3 d4=>sR fun _ d5=>yY (yFb FL_26_0 e0) (yY (lb_ d.v O_24 e0 b R1) (yY (yLen SL_24 e0 b (rdI y)) (Ym (iV o) e0 (yY (ygtr e0 e0) (wK d5 ?_))))))
 have V:∀ (g h x:LI) (i j q:Hdr) (f:FV) w,f 1=iV o→f 2=(pB r)→f 5=(pB t)→St w0 ros (box r 26 [d.v]::row 3 I1 i.v g::row 3 I1 j.v h::row 3 I1 q.v x::box t 46 [i.v,j.v,q.v]::rs) w→dissect_dissected_j1 rec u o g h x=some out→d3 .normal (fr 76 f) w:=by
  intro g h x i j q f w W X E b c
  refine d4 _ _ (seqQ fun i7 d6 d7=>sR fun _ d8=>yY (yFb FL_46_0 (eh E)) (yY (lb_ i.v O_22 e0 b R4) (yY (yLen SL_22 e0 b rO1) (yY (yeql e0 rfl) (Ym (.bool (decide ((g.length:Int)=0))) e0 ?_)))))
  refine joinW 5 (fun f w=>f 1=iV o∧f 2=(pB r)∧f 5=(pB t)∧f 32=.bool ((decide ((g.length:Int)=0)) || (decide ((h.length:Int)=0)))∧St w0 ros (box r 26 [d.v]::row 3 I1 i.v g::row 3 I1 j.v h::row 3 I1 q.v x::box t 46 [i.v,j.v,q.v]::rs) w) (fun Z=>?_) ?_
  ·rcases Bool.eq_false_or_eq_true (decide ((g.length:Int)=0)) with k | k
   ·exact gN k (gN k (gN k (gN k (yY (pt_ (.bool true) e0 k rfl) (Z _ _ ⟨W,X,E,(congrArg Value.bool (orT k)),b⟩)))))
   exact yG k (yFb FL_46_1 (eh E)) (yG k (lb_ j.v O_22 e0 b R4) (yG k (yLen SL_22 e0 b rO2) (yG k (yeql e0 rfl) (yY (pf_ (.bool (decide ((h.length:Int)=0))) e0 k e0) (Z _ _ ⟨W,X,E,(congrArg Value.bool (orF k)),b⟩)))))
  rintro f w ⟨d9,a0,J,e1,b⟩
  refine wK d8 (cB (eh e1) c (fun e2 c=>?_) fun e2 c=>?_)
  ·refine sR fun _ e3=>yY (lbs_ [d.v] ST_26 (eh a0) b R0) (bE c fun K e4 c=>yC (yCall FN_90 (a1 e0)) (mindeg_Exact_ok e4 y b) ?_)
   rintro _ w ⟨A,rfl,b⟩
   refine ⟨_,rfl,?_⟩
   refine Ym (.tuple #[A.v,iV K.2]) e0 (yY (x_ A.v e0) (yY (x_ (iV K.2) e0) (Ya A.v e0 (Ya (iV K.2) e0 (wK e3 (sR fun _ e5=>Ym A.v e0 (Ya A.v e0 (wK e5 (wp_ret ?_)))))))))
   refine d7 _ _ _ rfl ?_
   cases c
   exact U _ _ _ (fin1r Tryz.results62 ⟨rfl,rfl⟩ ⟨_,rfl,(b.pk 6 [0] rfl)⟩)
  refine wp_skip (d6 _ _ (sR fun _ e6=>Ya hnil.v rfl (wK e6 (sQ fun _ e7=>sR fun _ e8=>yY (yFb FL_46_0 (eh J)) (yY (lb_ i.v O_22 e0 b R4) (yY (yFb FL_46_1 (eh J)) (yY (lb_ j.v O_22 e0 b R4) ?_)))))))
  refine yH (rLt (n:=2) (l:=[g,h]) ((((b.pk 2 [1,0] rfl).fz).pk 2 [1,0] rfl).fz) SL_24 [i.v,j.v] (bp2 e0 e0) rfl rfl (mks1 (cs:=[i.v]) rfl (mkS F1) (mks1 (cs:=[j.v]) rfl (mkS F0) mks0))) fun F w b=>yY (yLen SL_24 e0 b rO0) (Ym (iV 0) rfl (wK e8 (blockQ fun _ e9=>bE c fun i8 f0 c=>?_)))
  replace b:=b.rowNh 3 I1
  refine loopQ (fun s a w=>∃ (L:LI) (B:Int) (f:FV) (G:Hdr),(L,B)=s∧a=fr 76 f∧f 1=iV o∧f 2=(pB r)∧f 5=(pB t)∧f 8=G.v∧f 43=F.v∧f 44=iV ([g,h].length:Int)∧f 45=iV B∧St w0 (imm I1 i.v g::imm I1 j.v h::ros) (box r 26 [d.v]::row 3 I1 q.v x::box t 46 [i.v,j.v,q.v]::row 3 I1 G.v L::row 22 S1 F.v [g,h]::rs) w) f0 ⟨_,_,_,_,rfl,rfl,d9,a0,J,rfl,rfl,rfl,rfl,((b.pk 5 [2,2,2,0,0] rfl).facts (allC F1 (allC F0 (allT (allT allI)))))⟩ ?_
  rintro _ _ w i9 ⟨L,B,f,G,rfl,rfl,a3,a4,a5,a6,a7,a8,N,b⟩ m f1 j0 f2 f3
  refine sR fun _ f4=>yY (ylss (eh N) (eh a8)) (wK f4 (seqQ fun j3 f5 f6=>?_))
  refine cIf e0 m (fun f7 m=>?_) fun f7 m=>?_
  ·refine wp_skip (f5 _ _ (sQ fun _ f8=>blockQ fun _ f9=>sR fun _ g0=>bE m fun g1 a9 m=>yY (yIa SL_24 (eh a7) (eh N) b rO4 a9) ?_))
   obtain ⟨C,g2,b⟩:=rLs b rO4 a9
   refine yY (yCe O_22 e0 g2 rfl) (Ya C.v e0 (wK g0 (sR fun _ g3=>yY (lbs_ [d.v] ST_26 (eh a4) b R0) (Ym C.v e0 (bE m fun O g4 m=>yC (yCall FN_91 (a2 e0 e0)) (graph_Induced_ok g4 (F_3 y) F0 b) ?_)))))
   rintro _ w ⟨D,rfl,b⟩
   refine ⟨_,rfl,?_⟩
   refine Ym (.tuple #[.agg #[D.v],iV O.2]) e0 (yY (x_ (.agg #[D.v]) e0) (yY (x_ (iV O.2) e0) (yBb (rAl b ZT_26) fun j4 w b=>yT (r_stbn (vals':=[D.v]) (us:=[D.v]) b ST_26 e0 e0 rfl rfl (one_of rfl) rfl) fun w b=>Ya (iV O.2) e0 (wK g3 (sR fun _ g5=>yY (lbs_ [D.v] ST_26 e0 b R0) (Ym (iV o) (eh a3) ?_))))))
   refine bE m fun b0 g6 m=>?_
   replace b:=(b.pk 2 [1,0] rfl).fz
   refine yC (yCall FN_62 (a2 e0 e0)) (d0 g6 F0 b) ?_
   rintro _ w ⟨b1,rfl,b⟩
   refine ⟨_,rfl,?_⟩
   refine yY (yLen SL_22 e0 b rO0) (Ym (iV 0) rfl (wK g5 (blockQ fun _ g7=>bE m fun j5 g8 m=>?_)))
   refine loopQ (fun s a w=>∃ (R:LI) (H:Int) (f:FV) (I:Hdr),(R,H)=s∧a=fr 76 f∧f 1=iV o∧f 2=(pB r)∧f 5=(pB t)∧f 8=I.v∧f 10=C.v∧f 43=F.v∧f 44=iV ([g,h].length:Int)∧f 45=iV B∧f 57=b1.v∧f 58=iV (b0.length:Int)∧f 59=iV H∧St w0 (imm I1 i.v g::imm I1 j.v h::imm I1 C.v g1::ros) (box r 26 [d.v]::row 3 I1 q.v x::box t 46 [i.v,j.v,q.v]::row 3 I1 I.v R::row 22 S1 F.v [g,h]::row 3 I1 b1.v b0::rs) w) g8 ⟨_,_,_,_,rfl,rfl,a3,a4,a5,a6,rfl,a7,a8,N,rfl,rfl,rfl,((b.pk 7 [2,2,2,2,2,0] rfl).facts (allC F2 (allC F3 (allC F1 (allT (allT (allT (allT allI))))))))⟩ ?_
   rintro _ _ w j6 ⟨R,H,f,I,rfl,rfl,b2,b3,b6,b7,b8,b9,c0,c1,c2,c3,S,b⟩ p g9 j7 h0 h1
   refine sR fun _ h3=>yY (ylss (eh S) (eh c3)) (wK h3 (seqQ fun j8 h4 h5=>?_))
   refine cIf e0 p (fun h6 p=>?_) fun h6 p=>?_
   ·refine wp_skip (h4 _ _ (sQ fun _ h7=>blockQ fun _ h8=>sR fun _ h9=>bE p fun c4 c5 p=>yY (yIa SL_22 (eh c2) (eh S) b rO5 c5) (yY (yI O_3 e0 b rO5 c5) (Ya (iV c4) e0 (wK h9 (wR (Ym I.v (eh b7) ?_)))))))
    refine Ym C.v (eh b8) (Ym (iV c4) e0 (bE p fun T c6 p=>yY (yIa SL_22 e0 e0 b (rdI F2) c6) (yY (yI O_3 e0 b (rdI F2) c6) (yH (rLt (n:=1) (l:=[T]) b SL_22 [iV T] (bp1 e0) rfl rfl (mks1 (cs:=[iV T]) rfl mkI mks0)) fun j9 w b=>bE p fun k0 i0 p=>yH (rAp (b.pk 5 [4,0,0,0,0] rfl) SL_22 e0 e0 rO1 i0) fun i1 w b=>Ya i1.v e0 (wN (h8 _ _ _ (h7 _ _ ?_)))))))
    refine wR (yY (yadd (eh S) rfl) (Ym (iV (wa .i64 H 1)) e0 (wN ?_)))
    cases p
    exact h0 _ _ _ rfl ⟨_,_,_,_,rfl,rfl,b2,b3,b6,rfl,b8,b9,c0,c1,c2,c3,rfl,(b.pk 7 [2,2,2,0,1,1] rfl)⟩
   refine wp_exit (h5 _ _ _ rfl ?_)
   cases p
   refine h1 _ _ _ _ rfl rfl ?_
   obtain rfl:=g9 _ rfl
   refine g7 _ _ _ (f9 _ _ _ (f8 _ _ (wR (yY (yadd (eh c1) rfl) (Ym (iV (wa .i64 B 1)) e0 (wN ?_))))))
   cases m
   exact f2 _ _ _ rfl ⟨_,_,_,_,rfl,rfl,b2,b3,b6,b7,b9,c0,rfl,((b.pk 6 [0,0,0,0,0] rfl).facts (allC F0 (allC F1 (allT (allT (allT allI))))))⟩
  refine wp_exit (f6 _ _ _ rfl ?_)
  cases m
  refine f3 _ _ _ _ rfl rfl ?_
  obtain rfl:=f1 _ rfl
  refine e9 _ _ _ (e7 _ _ (sR fun _ i2=>Ym G.v (eh a6) (yY (yFb FL_46_2 (eh a5)) (yY (lb_ q.v O_22 e0 b R2) (bE c fun l0 i3 c=>yH (rAp (b.pk 4 [3,0,0,0] rfl) SL_22 e0 e0 rO2 i3) fun i4 w b=>Ya i4.v e0 (wK i2 (wp_ret ?_)))))))
  cases c
  exact U _ _ _ (fin1r Tryz.results62 ⟨rfl,rfl⟩ ⟨_,rfl,((b.pk 5 [0] rfl).facts (allT (allT allI)))⟩)
 refine cIf e0 c (fun i5 c=>?_) fun i5 c=>?_
 ·refine wR (yY (lbs_ [d.v] ST_26 e0 b R1) (bE c fun l1 i6 c=>yC (yCall FN_56 (a1 e0)) (dissect_separate_ok i6 y b) ?_))
  rintro _ w ⟨c7,c8,c9,rfl,b⟩
  refine ⟨_,rfl,?_⟩
  exact yT (r_stbn (vals':=[c7.v,c8.v,c9.v]) (us:=[c7.v,c8.v,c9.v]) (b.pk 4 [3,0,0,0] rfl) ST_46 e0 e0 rfl rfl (one_of rfl) rfl) fun w b=>wN (V _ _ _ _ _ _ _ _ rfl rfl rfl (b.pk 5 [4,1,1,1,0] rfl) c)
 refine wp_skip ?_
 replace b:=((b.rowNh 3 I1).rowNh 3 I1).rowNh 3 I1
 exact V _ _ _ _ _ _ _ _ rfl rfl rfl (b.pk 5 [4,2,1,0,0] rfl) c
theorem dissect_dissected_ok_n (n:Nat):∀ {w0:World} {ros:List Fact} {rs:List Res} {w:World} {b:L2} {c:Int} {d:Hdr} {out:LI} (a:dissect_dissected n b c=some out) (f:imm S1 d.v b∈ros) (g:St w0 ros rs w),
  Calls Tryz.prog 62 #[.agg #[d.v],iV c] w (fun e w=>∃ (h:Hdr),e=.returned (h.v)∧St w0 ros (row 3 I1 h.v out::rs) w):=by
 induction n with
 | zero=>intro _ _ _ _ _ _ _ out a; cases a
 | succ n ih=>exact fun a f g=>dissect_dissected_step (rec:=dissect_dissected n) ih a f g
theorem dissect_dissected_ok {a:L2} {b:Int} {c:Hdr} {out:LI} (f:dissect_dissected FUEL a b=some out) (g:imm S1 c.v a∈ros) (h:St w0 ros rs w):
  Calls Tryz.prog 62 #[.agg #[c.v],iV b] w (fun e w=>∃ (d:Hdr),e=.returned (d.v)∧St w0 ros (row 3 I1 d.v out::rs) w):=dissect_dissected_ok_n FUEL f g h
theorem dissect_Order_ok {l:L2} {b:Int} {g:Hdr} {out:LI×Int} (c:dissect_Order l b=some out) (m:imm S1 g.v l∈ros) (a:St w0 ros rs w):
  Calls Tryz.prog 29 #[.agg #[g.v],iV b] w (fun e w=>∃ (n:Hdr),e=.returned (.tuple #[n.v,iV out.2])∧St w0 ros (row 3 I1 n.v out.1::rs) w):=by
 refine enterQ Tryz.func29 rfl Tryz.ntmps29 rfl fun Q i=>sR fun _ r=>yBb (r_box (vals:=[g.v]) a e0 rfl) fun o w a=>Ya hnil.v rfl (Ya (iV 0) rfl (wK r (sR fun _ s=>yY (lbs_ [g.v] ST_26 e0 a R0) (bE c fun h t c=>yC (yCall FN_51 (a1 e0)) (graph_Check_ok t m a) ?_))))
 rintro _ w ⟨rfl,a⟩
 refine ⟨_,rfl,?_⟩
 refine Ya (iV h) e0 (wK s (seqQ fun I u p=>blockQ fun _ j=>sR fun _ x=>Ym (iV h) e0 (yY (yneq e0 rfl) (Ya (.bool (!(decide (h=0)))) e0 (wK x ?_)))))
 rcases iteS c with ⟨k,c⟩ | ⟨k,c⟩
 ·refine condF e0 (nF (dT k)) (sR fun _ y=>Ym (iV b) e0 (yY (ylss e0 rfl) (Ym (.bool (decide (b < 1))) e0 ?_)))
  refine joinW 3 (fun f w=>f 1=iV b∧f 2=(pB o)∧f 19=.bool ((decide (b < 1)) || (decide ((200:Int) < b)))∧St w0 ros (box o 26 [g.v]::rs) w) (fun q=>?_) ?_
  ·rcases Bool.eq_false_or_eq_true (decide (b < 1)) with d | d
   ·exact gN d (gN d (yY (pt_ (.bool true) e0 d rfl) (q _ _ ⟨rfl,rfl,(congrArg Value.bool (orT d)),a⟩)))
   exact yG d (m_ (iV b) e0) (yG d (ygtr e0 rfl) (yY (pf_ (.bool (decide ((200:Int) < b))) e0 d e0) (q _ _ ⟨rfl,rfl,(congrArg Value.bool (orF d)),a⟩)))
  rintro f w ⟨z,A,B,a⟩
  refine Ya (.bool ((decide (b < 1)) || (decide ((200:Int) < b)))) (eh B) (wK y (cB e0 c (fun C c=>?_) fun C c=>?_))
  ·refine sR fun _ D=>Ya hnil.v rfl (Ya (iV 1) rfl (wK D (wp_ret (j _ _ _ (p _ _ _ rfl ?_)))))
   cases c
   replace a:=a.rowNh 3 I1
   exact i _ _ _ (fin2r Tryz.results29 ⟨rfl,rfl⟩ ⟨rfl,rfl⟩ ⟨_,rfl,(a.pk 2 [0] rfl)⟩)
  refine wp_skip (j _ _ _ (u _ _ (sR fun _ E=>yY (lbs_ [g.v] ST_26 (eh A) a R0) (Ym (iV b) (eh z) (bE c fun J F c=>yC (yCall FN_62 (a2 e0 e0)) (dissect_dissected_ok F m a) ?_)))))
  rintro _ w ⟨G,rfl,a⟩
  refine ⟨_,rfl,?_⟩
  refine Ya G.v e0 (Ya (iV 0) rfl (wK E (wp_ret ?_)))
  cases c
  exact i _ _ _ (fin2r Tryz.results29 ⟨rfl,rfl⟩ ⟨rfl,rfl⟩ ⟨_,rfl,(a.pk 2 [0] rfl)⟩)
 refine condT e0 (nT (dF k)) (sR fun _ H=>Ym (iV h) e0 (Ya hnil.v rfl (Ya (iV h) e0 (wK H (wp_ret (j _ _ _ (p _ _ _ rfl ?_)))))))
 cases c
 replace a:=a.rowNh 3 I1
 exact i _ _ _ (fin2r Tryz.results29 ⟨rfl,rfl⟩ ⟨rfl,rfl⟩ ⟨_,rfl,(a.pk 2 [0] rfl)⟩)
theorem sparseref12_Table_ok {k:L2} {h:Hdr} {out:(List (List Bool))} (y:sparseref12_Table k=some out) (o:imm S1 h.v k∈ros) (b:St w0 ros rs w):
  Calls Tryz.prog 70 #[.agg #[h.v]] w (fun e w=>∃ (C:Hdr) (D:List Hdr),e=.returned (C.v)∧St w0 ros (row 93 rH C.v D::fam 4 rB D out::rs) w):=by
 refine enterQ Tryz.func70 rfl Tryz.ntmps70 rfl fun Q O=>sR fun _ R=>yBb (r_box (vals:=[h.v]) b e0 rfl) fun q w b=>Ya hnil.v rfl (wK R (sR fun _ S=>yY (yFb FL_26_0 e0) (yY (lb_ h.v O_24 e0 b R0) (yY (yLen SL_24 e0 b (rdI o)) (Ya (iV (k.length:Int)) e0 ?_)))))
 refine wK S (sR fun _ T=>Ya hnil.v rfl (wK T (sQ fun _ U=>sR fun _ V=>Ya (iV 0) rfl (wK V (blockQ fun _ W=>?_)))))
 refine bE y fun c8 X y=>?_
 replace b:=((b.rowNh 93 rH).fNew 4 rB).pk 2 [1,0] rfl
 refine loopQ (fun s a w=>∃ (r:List (List Bool)) (g:Int) (f:FV) (i:Hdr) (p:List Hdr),(r,g)=s∧a=fr 43 f∧f 1=(pB q)∧f 3=iV (k.length:Int)∧f 4=i.v∧f 5=iV g∧St w0 ros (box q 26 [h.v]::row 93 rH i.v p::fam 4 rB p r::rs) w) X ⟨_,_,_,_,_,rfl,rfl,rfl,rfl,rfl,rfl,(b.pk 3 [2,0,0] rfl)⟩ ?_
 rintro _ _ w c9 ⟨r,g,f,i,p,rfl,rfl,Z,z,E,F,b⟩ d a0 d0 a1 a2
 refine seqQ fun d1 a3 a4=>sR fun _ a5=>Ym (iV g) (eh F) (Ym (iV (k.length:Int)) (eh z) (yY (ylss e0 e0) (wK a5 ?_)))
 refine cIf e0 d (fun a6 d=>?_) fun a6 d=>?_
 ·refine wp_skip (a3 _ _ (sQ fun _ a7=>blockQ fun _ a8=>sR fun _ a9=>Ym (iV (k.length:Int)) (eh z) (bE d fun d2 b0 d=>yH (rMk b SL_93 e0 b0) fun j w b=>Ya j.v e0 (wK a9 (sQ fun _ b1=>?_)))))
  refine sR fun _ b2=>Ya (iV 0) rfl (wK b2 (blockQ fun _ b4=>bE d fun d3 b5 d=>?_))
  refine loopQ (fun s a w=>∃ (t:List Bool) (m:Int) (f:FV),(t,m)=s∧a=fr 43 f∧f 1=(pB q)∧f 3=iV (k.length:Int)∧f 4=i.v∧f 5=iV g∧f 6=j.v∧f 7=iV m∧St w0 ros (box q 26 [h.v]::row 93 rH i.v p::fam 4 rB p r::row 4 rB j.v t::rs) w) b5 ⟨_,_,_,rfl,rfl,Z,z,E,F,rfl,rfl,(b.pk 4 [1,1,1,0] rfl)⟩ ?_
  rintro _ _ w d4 ⟨t,m,f,rfl,rfl,u,G,H,x,A,B,b⟩ c b6 d5 b7 b8
  refine seqQ fun d6 b9 c0=>sR fun _ c1=>Ym (iV m) (eh B) (yY (yFb FL_26_0 (eh u)) (yY (lb_ h.v O_24 e0 b R0) (Ym (iV g) (eh x) (bE c fun d7 I c=>yY (yIa SL_24 e0 e0 b (rdI o) I) ?_))))
  obtain ⟨d8,b⟩:=iLs b o I
  refine yY (yCt O_22 e0 b F1 rfl) (yY (yLen SL_22 e0 b (rdI F0)) (yY (ylss e0 e0) (wK c1 ?_)))
  refine cIf e0 c (fun c2 c=>?_) fun c2 c=>?_
  ·refine wp_skip (b9 _ _ (sQ fun _ c3=>blockQ fun _ c4=>wR (Ym j.v (eh A) (yY (yFb FL_26_0 (eh u)) (yY (lb_ h.v O_24 e0 b R0) (Ym (iV g) (eh x) (bE c fun d9 J c=>yY (yIa SL_24 e0 e0 b (rdI (F_2 o)) J) ?_)))))))
   obtain ⟨e1,b⟩:=iLs b (F_2 o) J
   refine yY (yCt O_22 e0 b F1 rfl) (Ym (iV m) (eh B) (bE c fun e2 K c=>yY (yIa SL_22 e0 e0 b (rdI F0) K) (yY (yI O_3 e0 b (rdI F0) K) (bE c fun e3 L c=>yY (yIs SL_93 e0 e0 b rO3 L) (yT (r_sti (cs:=[.bool true]) (b.pk 4 [3,0,0,0] rfl) O_4 rfl e0 rfl rfl mkB L) fun w b=>wN (c4 _ _ _ (c3 _ _ (wR (Ym (iV m) (eh B) ?_)))))))))
   refine yY (yadd e0 rfl) (Ya (iV (wa .i64 m 1)) e0 (wN ?_))
   cases c
   exact b7 _ _ _ rfl ⟨_,_,_,rfl,rfl,u,G,H,x,A,rfl,((b.pk 4 [1,1,1,0] rfl).facts (allT (allT (allT (allT allI)))))⟩
  refine wp_exit (c0 _ _ _ rfl ?_)
  cases c
  refine b8 _ _ _ _ rfl rfl ?_
  obtain rfl:=b6 _ rfl
  refine b4 _ _ _ (b1 _ _ (wR (Ym i.v (eh H) (Ym j.v (eh A) (yH (rLt (n:=1) (l:=[j]) b SLH_98 [j.v] (bp1 e0) rfl rfl (mks1 rfl (mkF rfl) mks0)) fun e4 w b=>bE d fun e5 N d=>?_)))))
  replace b:=b.pk 3 [2,0,0] rfl
  obtain ⟨e6,ey119,c5⟩:=app_rep N (b.famL R3) (show [j].length=[t].length from rfl)
  refine yH (rAp b SLH_98 e0 e0 rO1 c5) fun c6 w b=>?_
  replace b:=(b.pk 5 [4,3,0,0,0] rfl).fPush
  rw [← ey119,← (app_some N).1] at b
  refine Ya c6.v e0 (wN (a8 _ _ _ (a7 _ _ (wR (Ym (iV g) (eh x) (yY (yadd e0 rfl) (Ya (iV (wa .i64 g 1)) e0 (wN ?_))))))))
  cases d
  exact a1 _ _ _ rfl ⟨_,_,_,_,_,rfl,rfl,u,G,rfl,rfl,((b.pk 4 [3,1,0] rfl).facts (allT (allT allI)))⟩
 refine wp_exit (a4 _ _ _ rfl ?_)
 cases d
 refine a2 _ _ _ _ rfl rfl ?_
 obtain rfl:=a0 _ rfl
 refine W _ _ _ (U _ _ (sR fun _ c7=>Ym i.v (eh E) (Ya i.v e0 (wK c7 (wp_ret ?_)))))
 cases y
 exact O _ _ _ (fin1r Tryz.results70 ⟨rfl,rfl⟩ ⟨_,_,rfl,(b.pk 3 [1,1] rfl)⟩)
theorem sparseref16_Begin_ok {o:L2} {b:Hdr} {out:(List (List Bool))×(List Bool)} (g:sparseref16_Begin o=some out) (h:imm S1 b.v o∈ros) (a:St w0 ros rs w):
  Calls Tryz.prog 92 #[.agg #[b.v]] w (fun e w=>∃ (p:Nat) (q:Hdr) (r:List Hdr) (s:Hdr),e=.returned (pB p)∧St w0 ros (row 93 rH q.v r::fam 4 rB r out.1::row 4 rB s.v out.2::box p 123 [q.v,s.v]::rs) w):=by
 refine enterQ Tryz.func92 rfl Tryz.ntmps92 rfl fun Q y=>sR fun _ z=>yBb (r_box (vals:=[b.v]) a e0 rfl) fun F w a=>Ya (.pointer none) rfl (wK z (sQ fun _ A=>bE g fun B t g=>bE g fun C u g=>?_))
 refine joinN (n:=11) (fun f w=>∃ (i:Nat) (j:Hdr) (k:List Hdr) (l:Hdr),f 2=(pB i)∧St w0 ros (row 93 rH j.v k::fam 4 rB k B::row 4 rB l.v C::box i 123 [j.v,l.v]::rs) w) (fun x=>?_) ?_
 ·refine dR [0,1,0,4,12,28,63,127,255] [1,5,7,8] 4 folM ?_
  replace a:=a.drew
  refine Dn [0,2,3,4] [] [1,5] (yR rfl (lbs_ [b.v] ST_26 e0 a R0) (yR rfl (yFb FL_26_0 e0) (yR rfl (lb_ b.v O_24 e0 a R0) (yR rfl (yLen SL_24 e0 a (rdI h)) (Rn QSn ?_)))))
  refine Lc rfl ?_ (Lc1 rfl ?_)
  ·refine Lk wn (yCall FN_70 (a1 e0)) (sparseref12_Table_ok t h a) ?_
   rintro _ w ⟨c,D,rfl,a⟩
   refine ⟨_,rfl,?_⟩
   refine Dn [] [2,3,4] [5] (Rn (yS rfl (yFb FL_26_0 e0) (yS rfl (lb_ b.v O_24 e0 a R2) (yS rfl (yLen SL_24 e0 a (rdI h)) QSn))) ?_)
   refine Lc1 rfl ?_
   refine LH wn (rMk a SL_93 e0 u) fun d w a=>Dn [6] [] [7] (yR rfl (ybuild (us:=[c.v,d.v]) [(0,c.v),(1,d.v)] SO_123 (bp2 e0 e0) rfl) (Rn QSn ?_))
   refine Lc1 rfl ?_
   refine LB wn (r_box (vals:=[c.v,d.v]) a e0 rfl) fun m w a=>Dn [] [] [8] (Rn QSn ?_)
   refine Lc1 rfl ?_
   exact Ly wn (a_ (pB m) e0) (Dz [] [] (Rn QSn (x _ _ ⟨_,_,_,_,rfl,(a.pk 5 [2,2,1,0] rfl)⟩)))
  refine LH wn (rMk a SL_93 e0 u) fun d w a=>Dn [] [0] [1] (Rn (yS rfl (lbs_ [b.v] ST_26 e0 a R1) QSn) ?_)
  refine Lc1 rfl ?_
  refine Lk wn (yCall FN_70 (a1 e0)) (sparseref12_Table_ok t h a) ?_
  rintro _ w ⟨c,D,rfl,a⟩
  refine ⟨_,rfl,?_⟩
  refine Dn [6] [] [7] (yR rfl (ybuild (us:=[c.v,d.v]) [(0,c.v),(1,d.v)] SO_123 (bp2 e0 e0) rfl) (Rn QSn ?_))
  refine Lc1 rfl ?_
  refine LB wn (r_box (vals:=[c.v,d.v]) a e0 rfl) fun m w a=>Dn [] [] [8] (Rn QSn ?_)
  refine Lc1 rfl ?_
  exact Ly wn (a_ (pB m) e0) (Dz [] [] (Rn QSn (x _ _ ⟨_,_,_,_,rfl,(a.pk 5 [1,1,1,0] rfl)⟩)))
 rintro f w ⟨i,j,k,l,E,a⟩
 refine A _ _ (wp_ret ?_)
 cases g
 exact y _ _ _ (fin1r Tryz.results92 ⟨rfl,E⟩ ⟨_,_,_,_,rfl,a⟩)
theorem sparseref16_Elimination_Neighbours_ok {p:List (List Bool)} {q:List Bool} {r:Int} {h:Nat} {i:Hdr} {k:List Hdr} {j:Hdr} {out:LI} (t:sparseref16_Elimination_Neighbours p q r=some out) (b:St w0 ros (box h 123 [i.v,j.v]::row 93 rH i.v k::fam 4 rB k p::row 4 rB j.v q::rs) w):
  Calls Tryz.prog 93 #[(pB h),iV r] w (fun e w=>∃ (G:Hdr),e=.returned (G.v)∧St w0 ros (row 93 rH i.v k::fam 4 rB k p::row 4 rB j.v q::box h 123 [i.v,j.v]::row 3 I1 G.v out::rs) w):=by
 refine enterQ Tryz.func93 rfl Tryz.ntmps93 rfl fun Q R=>sR fun _ S=>Ya hnil.v rfl (wK S (sR fun _ T=>Ya hnil.v rfl (wK T (sQ fun _ U=>sR fun _ V=>?_))))
 refine Ya (iV 0) rfl (wK V (blockQ fun _ W=>bE t fun c4 X t=>?_))
 replace b:=b.rowNh 3 I1
 refine loopQ (fun s a w=>∃ (y:LI) (g:Int) (f:FV) (m:Hdr),(y,g)=s∧a=fr 41 f∧f 0=(pB h)∧f 1=iV r∧f 5=m.v∧f 6=iV g∧St w0 ros (row 93 rH i.v k::fam 4 rB k p::row 4 rB j.v q::box h 123 [i.v,j.v]::row 3 I1 m.v y::rs) w) X ⟨_,_,_,_,rfl,rfl,rfl,rfl,rfl,rfl,(b.pk 5 [2,2,2,1,0] rfl)⟩ ?_
 rintro _ _ w Z ⟨y,g,f,m,rfl,rfl,u,A,B,x,b⟩ d a0 c5 a1 a2
 refine seqQ fun c6 a3 a4=>sR fun _ a5=>Ym (iV g) (eh x) (Ym (pB h) (eh u) (yY (yn e0) (yY (yFb FL_123_0 e0) (yY (lb_ i.v O_98 e0 b R3) (yY (yLenF SLH_98 e0 b rO0 R1) (yY (ylss e0 e0) (wK a5 ?_)))))))
 refine cIf e0 d (fun a6 d=>?_) fun a6 d=>?_
 ·refine wp_skip (a3 _ _ (sQ fun _ a7=>blockQ fun a8 a9=>sR fun _ b0=>Ym (pB h) (eh u) (yY (yn e0) (yY (yFb FL_123_0 e0) (yY (lb_ i.v O_98 e0 b R3) (Ym (iV r) (eh A) (bE d fun c7 C d=>?_)))))))
  obtain ⟨c8,z⟩:=b.famI R1 C
  refine yY (yIa SLH_98 e0 e0 b rO0 z) (yY (yF1 O_93 e0 b rO0 z rfl) (Ym (iV g) (eh x) (bE d fun b2 H d=>yY (yIa SL_93 e0 e0 b (rdF R1 z C) H) (yY (yB O_4 e0 b (rdF R1 z C) H) (Ym (.bool b2) e0 (bE d fun b3 o d=>?_))))))
  refine joinW 9 (fun f w=>f 0=(pB h)∧f 1=iV r∧f 5=m.v∧f 6=iV g∧f 35=.bool b3∧St w0 ros (row 93 rH i.v k::fam 4 rB k p::row 4 rB j.v q::box h 123 [i.v,j.v]::row 3 I1 m.v y::rs) w) (fun I=>?_) ?_
  ·rcases iteS o with ⟨c,o⟩ | ⟨c,o⟩
   ·refine yG c (m_ (pB h) (eh u)) (yG c (yn e0) (yG c (yFb FL_123_1 e0) (yG c (lb_ j.v O_93 e0 b R3) (yG c (m_ (iV g) (eh x)) (bE o fun b4 J o=>yG c (yIa SL_93 e0 e0 b rO2 J) (yG c (yB O_4 e0 b rO2 J) (yG c (ynot e0) (yY (pt_ (.bool (!b4)) e0 c e0) ?_))))))))
    cases o
    exact I _ _ ⟨u,A,B,x,rfl,b⟩
   refine gN (bfalse c) (gN (bfalse c) (gN (bfalse c) (gN (bfalse c) (gN (bfalse c) (gN (bfalse c) (gN (bfalse c) (gN (bfalse c) (yY (pf_ (.bool false) e0 (bfalse c) rfl) ?_))))))))
   cases o
   exact I _ _ ⟨u,A,B,x,rfl,b⟩
  rintro f w ⟨K,L,N,D,b5,b⟩
  refine wK b0 ?_
  have O:∀ (E:LI) (F:Hdr) (f:FV) w,f 0=(pB h)→f 1=iV r→f 5=F.v→f 6=iV g→St w0 ros (row 93 rH i.v k::fam 4 rB k p::row 4 rB j.v q::box h 123 [i.v,j.v]::row 3 I1 F.v E::rs) w→sparseref16_Elimination_Neighbours_j7 g E=some Z→a8 .normal (fr 41 f) w:=by
   intro E F f w b6 b7 b8 b9 b t
   refine a9 _ _ _ (a7 _ _ (wR (Ym (iV g) (eh b9) (yY (yadd e0 rfl) (Ya (iV (wa .i64 g 1)) e0 (wN ?_))))))
   cases t
   exact a1 _ _ _ rfl ⟨_,_,_,_,rfl,rfl,b6,b7,b8,rfl,b⟩
  refine cB (eh b5) d (fun c0 d=>?_) fun c0 d=>?_
  ·exact wR (Ym m.v (eh N) (Ym (iV g) (eh D) (yH (rLt (n:=1) (l:=[g]) b SL_22 [iV g] (bp1 e0) rfl rfl (mks1 (cs:=[iV g]) rfl mkI mks0)) fun c9 w b=>bE d fun d0 c1 d=>yH (rAp (b.pk 6 [5,0,0,0,0,0] rfl) SL_22 e0 e0 rO1 c1) fun c2 w b=>Ya c2.v e0 (wN (O _ _ _ _ K L rfl D (b.pk 6 [2,2,2,2,0] rfl) d)))))
  exact wp_skip (O _ _ _ _ K L N D b d)
 refine wp_exit (a4 _ _ _ rfl ?_)
 cases d
 refine a2 _ _ _ _ rfl rfl ?_
 obtain rfl:=a0 _ rfl
 refine W _ _ _ (U _ _ (sR fun _ c3=>Ym m.v (eh B) (Ya m.v e0 (wK c3 (wp_ret ?_)))))
 cases t
 exact R _ _ _ (fin1r Tryz.results93 ⟨rfl,rfl⟩ ⟨_,rfl,b⟩)
theorem sparseref16_Elimination_Eliminate_ok {F:List (List Bool)} {q:List Bool} {n:Int} {d:Nat} {g:Hdr} {j:List Hdr} {h:Hdr} {out:(List (List Bool))×(List Bool)} (m:sparseref16_Elimination_Eliminate F q n=some out) (b:St w0 ros (box d 123 [g.v,h.v]::row 93 rH g.v j::fam 4 rB j F::row 4 rB h.v q::rs) w):
  Calls Tryz.prog 94 #[(pB d),iV n] w (fun e w=>e=.returned (.tuple #[])∧St w0 ros (row 93 rH g.v j::fam 4 rB j out.1::row 4 rB h.v out.2::box d 123 [g.v,h.v]::rs) w):=by
 refine enterQ Tryz.func94 rfl Tryz.ntmps94 rfl fun Q S=>sR fun _ T=>Ym (pB d) e0 (Ym (iV n) e0 (bE m fun y U m=>yC (yCall FN_93 (a2 e0 e0)) (sparseref16_Elimination_Neighbours_ok U b) ?_))
 rintro _ w ⟨i,rfl,b⟩
 refine ⟨_,rfl,?_⟩
 refine Ya i.v e0 (wK T (sQ fun _ V=>sR fun _ W=>Ya (iV 0) rfl (wK W (blockQ fun _ X=>bE m fun d2 Z m=>?_))))
 refine loopQ (fun s a w=>∃ (z:List (List Bool)) (k:Int) (f:FV),(z,k)=s∧a=fr 46 f∧f 0=(pB d)∧f 1=iV n∧f 4=i.v∧f 5=iV k∧St w0 ros (row 93 rH g.v j::fam 4 rB j z::row 4 rB h.v q::box d 123 [g.v,h.v]::row 3 I1 i.v y::rs) w) Z ⟨_,_,_,rfl,rfl,rfl,rfl,rfl,rfl,b⟩ ?_
 rintro _ _ w d3 ⟨z,k,f,rfl,rfl,G,H,I,J,b⟩ o a0 d4 a1 a3
 refine seqQ fun d5 a4 a5=>sR fun _ a6=>Ym (iV k) (eh J) (Ym i.v (eh I) (yY (yLen SL_22 e0 b rO4) (yY (ylss e0 e0) (wK a6 ?_))))
 refine cIf e0 o (fun a7 o=>?_) fun a7 o=>?_
 ·refine wp_skip (a4 _ _ (sQ fun _ a8=>blockQ fun _ a9=>sR fun _ b0=>Ya (iV 0) rfl (wK b0 (blockQ fun _ b2=>bE o fun d6 b3 o=>?_))))
  refine loopQ (fun s a w=>∃ (A:List (List Bool)) (l:Int) (f:FV),(A,l)=s∧a=fr 46 f∧f 0=(pB d)∧f 1=iV n∧f 4=i.v∧f 5=iV k∧f 6=iV l∧St w0 ros (row 93 rH g.v j::fam 4 rB j A::row 4 rB h.v q::box d 123 [g.v,h.v]::row 3 I1 i.v y::rs) w) b3 ⟨_,_,_,rfl,rfl,G,H,I,J,rfl,b⟩ ?_
  rintro _ _ w b4 ⟨A,l,f,rfl,rfl,x,B,p,r,t,b⟩ c b5 d7 b6 b7
  refine seqQ fun d8 b8 b9=>sR fun _ c0=>Ym (iV l) (eh t) (Ym i.v (eh p) (yY (yLen SL_22 e0 b rO4) (yY (ylss e0 e0) (wK c0 ?_))))
  refine cIf e0 c (fun c1 c=>?_) fun c1 c=>?_
  ·refine wp_skip (b8 _ _ (sQ fun _ c2=>blockQ fun c3 c4=>sR fun _ c5=>Ym (iV k) (eh r) (Ym (iV l) (eh t) (yY (yneq e0 e0) (wK c5 ?_)))))
   have K:∀ (C:List (List Bool)) (f:FV) w,f 0=(pB d)→f 1=iV n→f 4=i.v→f 5=iV k→f 6=iV l→St w0 ros (row 93 rH g.v j::fam 4 rB j C::row 4 rB h.v q::box d 123 [g.v,h.v]::row 3 I1 i.v y::rs) w→sparseref16_Elimination_Eliminate_j13 l C=some b4→c3 .normal (fr 46 f) w:=by
    intro C f w c6 c7 c8 c9 d0 b m
    refine c4 _ _ _ (c2 _ _ (wR (Ym (iV l) (eh d0) (yY (yadd e0 rfl) (Ya (iV (wa .i64 l 1)) e0 (wN ?_))))))
    cases m
    exact b6 _ _ _ rfl ⟨_,_,_,rfl,rfl,c6,c7,c8,c9,rfl,b⟩
   rcases iteS c with ⟨D,c⟩ | ⟨D,c⟩
   ·exact condF e0 (nF (dT D)) (wp_skip (K _ _ _ x B p r t b c))
   refine condT e0 (nT (dF D)) (bE c fun d9 L c=>bE c fun e1 E c=>bE c fun e2 N c=>bE c fun e3 O c=>bE c fun e4 d1 c=>dR [0,1,3,7,0,0,48,112,255,511,0,0,3072,7168,16383,32767] [15] 1 folM ?_)
   replace b:=b.drew
   refine Dn [0,1,2,3,4,5,6,7,8,9,10,11,12,13,14] [] [15] (yR rfl (m_ (pB d) (eh x)) (yR rfl (yn e0) (yR rfl (yFb FL_123_0 e0) (yR rfl (lb_ g.v O_98 e0 b R3) (yR rfl (m_ i.v (eh p)) (yR rfl (m_ (iV k) (eh r)) (yR rfl (yIa SL_22 e0 e0 b rO4 L) (yR rfl (yI O_3 e0 b rO4 L) ?_))))))))
   obtain ⟨e5,u⟩:=b.famI R1 E
   refine yR rfl (yIa SLH_98 e0 e0 b rO0 u) (yR rfl (yF1 O_93 e0 b rO0 u rfl) (yR rfl (m_ i.v (eh p)) (yR rfl (m_ (iV l) (eh t)) (yR rfl (yIa SL_22 e0 e0 b rO4 N) (yR rfl (yI O_3 e0 b rO4 N) (yR rfl (yIs SL_93 e0 e0 b (rdF R1 u E) O) (Rn QSn ?_)))))))
   refine Lc1 rfl ?_
   replace b:=b.pk 2 [1,0] rfl
   refine LT wn (r_sti (cs:=[.bool true]) (b.foc u E) O_4 rfl e0 rfl rfl mkB O) fun w b=>?_
   replace b:=b.unfoc' u d1
   exact Dz [] [] (Rn QSn (K _ _ _ x B p r t (b.pk 5 [1,0,0,0,0] rfl) c))
  refine wp_exit (b9 _ _ _ rfl ?_)
  cases c
  refine b7 _ _ _ _ rfl rfl ?_
  obtain rfl:=b5 _ rfl
  refine b2 _ _ _ (a9 _ _ _ (a8 _ _ (wR (Ym (iV k) (eh r) (yY (yadd e0 rfl) (Ya (iV (wa .i64 k 1)) e0 (wN ?_)))))))
  cases o
  exact a1 _ _ _ rfl ⟨_,_,_,rfl,rfl,x,B,p,rfl,b⟩
 refine wp_exit (a5 _ _ _ rfl ?_)
 cases o
 refine a3 _ _ _ _ rfl rfl ?_
 obtain rfl:=a0 _ rfl
 refine X _ _ _ (V _ _ (wR (Ym (pB d) (eh G) (yY (yn e0) (yY (yFb FL_123_1 e0) (yY (lb_ h.v O_93 e0 b R3) (Ym (iV n) (eh H) (bE m fun e6 R m=>yY (yIs SL_93 e0 e0 b rO2 R) (yT (r_sti (cs:=[.bool true]) (b.pk 3 [2,0,0] rfl) O_4 rfl e0 rfl rfl mkB R) fun w b=>wN ?_)))))))))
 cases m
 exact S _ _ _ (fin0n Tryz.results94 ⟨rfl,(b.pk 5 [1,1,0,0] rfl)⟩)
theorem sparseref16_Exact_ok {T:L2} {m:Hdr} {out:LI×Int} (j:sparseref16_Exact T=some out) (G:imm S1 m.v T∈ros) (b:St w0 ros rs w):
  Calls Tryz.prog 63 #[.agg #[m.v]] w (fun e w=>∃ (U:Hdr),e=.returned (.tuple #[U.v,iV out.2])∧St w0 ros (row 3 I1 U.v out.1::rs) w):=by
 refine enterQ Tryz.func63 rfl Tryz.ntmps63 rfl fun Q V=>sR fun _ a7=>yBb (r_box (vals:=[m.v]) b e0 rfl) fun r w b=>Ya hnil.v rfl (Ya (iV 0) rfl (wK a7 (seqQ fun h9 a8 a9=>sR fun _ b0=>yY (lbs_ [m.v] ST_26 e0 b R0) (bE j fun H b1 j=>?_))))
 refine yC (yCall FN_54 (a1 e0)) (sparseref12_Check_ok b1 G b) ?_
 rintro _ w ⟨rfl,b⟩
 refine ⟨_,rfl,?_⟩
 refine Ya (iV H) e0 (wK b0 (sR fun _ b2=>Ym (iV H) e0 (yY (yneq e0 rfl) (wK b2 ?_))))
 rcases iteS j with ⟨L,j⟩ | ⟨L,j⟩
 ·refine condF e0 (nF (dT L)) (wp_skip (a8 _ _ (sR fun _ b4=>yY (lbs_ [m.v] ST_26 e0 b R0) (bE j fun i0 b5 j=>yC (yCall FN_92 (a1 e0)) (sparseref16_Begin_ok b5 G b) ?_))))
  rintro _ w ⟨g,t,u,o,rfl,b⟩
  refine ⟨_,rfl,?_⟩
  refine Ya (pB g) e0 (wK b4 (sR fun _ b6=>Ya hnil.v rfl (wK b6 (sQ fun _ b8=>blockQ fun _ b9=>bE j fun i1 c0 j=>?_))))
  replace b:=b.rowNh 3 I1
  refine loopQ (fun s a w=>∃ (z:List (List Bool)) (A:List Bool) (B:LI) (f:FV) (d:Hdr),(z,A,B)=s∧a=fr 62 f∧f 1=(pB r)∧f 5=(pB g)∧f 6=d.v∧St w0 ros (box r 26 [m.v]::row 93 rH t.v u::fam 4 rB u z::row 4 rB o.v A::box g 123 [t.v,o.v]::row 3 I1 d.v B::rs) w) c0 ⟨_,_,_,_,_,rfl,rfl,rfl,rfl,rfl,(b.pk 6 [5,1,1,1,1,0] rfl)⟩ ?_
  rintro _ _ w i2 ⟨z,A,B,f,d,rfl,rfl,W,c1,N,b⟩ p c2 i3 c3 c4
  refine seqQ fun i4 c6 c7=>sR fun _ c8=>Ym d.v (eh N) (yY (yLen SL_22 e0 b rO5) (yY (yFb FL_26_0 (eh W)) (yY (lb_ m.v O_24 e0 b R0) (yY (yLen SL_24 e0 b (rdI G)) (yY (ylss e0 e0) (wK c8 ?_))))))
  refine cIf e0 p (fun c9 p=>?_) fun c9 p=>?_
  ·refine wp_skip (c6 _ _ (blockQ fun _ d0=>sR fun _ d1=>Ya (iV (-1)) rfl (Ya (iV 0) rfl (wK d1 (sQ fun _ d2=>sR fun _ d3=>Ya (iV 0) rfl (wN ?_))))))
   refine d3 _ _ (blockQ fun _ d4=>bE p fun i5 d5 p=>?_)
   refine loopQ (fun s a w=>∃ (c x h:Int) (f:FV),(c,x,h)=s∧a=fr 62 f∧f 1=(pB r)∧f 5=(pB g)∧f 6=d.v∧f 7=iV c∧f 8=iV x∧f 9=iV h∧St w0 ros (box r 26 [m.v]::row 93 rH t.v u::fam 4 rB u z::row 4 rB o.v A::box g 123 [t.v,o.v]::row 3 I1 d.v B::rs) w) d5 ⟨_,_,_,_,rfl,rfl,W,c1,N,rfl,rfl,rfl,b⟩ ?_
   rintro _ _ w d6 ⟨c,x,h,f,rfl,rfl,F,C,I,D,J,E,b⟩ k d7 i6 d8 d9
   refine seqQ fun i7 e1 e2=>sR fun _ e3=>Ym (iV h) (eh E) (yY (yFb FL_26_0 (eh F)) (yY (lb_ m.v O_24 e0 b R0) (yY (yLen SL_24 e0 b (rdI G)) (yY (ylss e0 e0) (wK e3 ?_)))))
   refine cIf e0 k (fun e4 k=>?_) fun e4 k=>?_
   ·refine wp_skip (e1 _ _ (sQ fun _ e5=>blockQ fun e6 e7=>sR fun _ e8=>Ym (pB g) (eh C) (Ym (iV h) (eh E) (bE k fun y e9 k=>?_))))
    replace b:=b.pk 5 [4,1,1,1,0] rfl
    refine yC (yCall FN_93 (a2 e0 e0)) (sparseref16_Elimination_Neighbours_ok e9 b) ?_
    rintro _ w ⟨i8,rfl,b⟩
    refine ⟨_,rfl,?_⟩
    refine yY (yLen SL_22 e0 b rO4) (Ya (iV (y.length:Int)) e0 (wK e8 (sR fun _ f0=>Ym (pB g) (eh C) (yY (yn e0) (yY (yFb FL_123_1 e0) (yY (lb_ o.v O_93 e0 b R3) (Ym (iV h) (eh E) (bE k fun K X k=>yY (yIa SL_93 e0 e0 b rO2 X) (yY (yB O_4 e0 b rO2 X) ?_)))))))))
    refine yY (ynot e0) (Ym (.bool (!K)) e0 ?_)
    refine joinW 8 (fun f w=>f 1=(pB r)∧f 5=(pB g)∧f 6=d.v∧f 7=iV c∧f 8=iV x∧f 9=iV h∧f 10=iV (y.length:Int)∧f 51=.bool ((!K) && ((decide (c < 0)) || (decide ((y.length:Int) < x))))∧St w0 ros (box r 26 [m.v]::row 93 rH t.v u::fam 4 rB u z::row 4 rB o.v A::box g 123 [t.v,o.v]::row 3 I1 d.v B::rs) w) (fun Z=>?_) ?_
    ·rcases Bool.eq_false_or_eq_true (!K) with i | i
     ·refine yG i (m_ (iV c) (eh D)) (yG i (ylss e0 rfl) (yG i (m_ (.bool (decide (c < 0))) e0) ?_))
      refine joinW 4 (fun f w=>f 1=(pB r)∧f 5=(pB g)∧f 6=d.v∧f 7=iV c∧f 8=iV x∧f 9=iV h∧f 10=iV (y.length:Int)∧f 43=.bool (!K)∧f 44=iV c∧f 45=.bool (decide (c < 0))∧f 46=.bool (decide (c < 0))∧f 50=.bool ((decide (c < 0)) || (decide ((y.length:Int) < x)))∧St w0 ros (box r 26 [m.v]::row 93 rH t.v u::fam 4 rB u z::row 4 rB o.v A::box g 123 [t.v,o.v]::row 3 I1 d.v B::rs) w) (fun a0=>?_) ?_
      ·rcases Bool.eq_false_or_eq_true (decide (c < 0)) with q | q
       ·exact gN q (gN q (gN q (yG i (pt_ (.bool true) e0 q rfl) (a0 _ _ ⟨F,C,I,D,J,E,rfl,rfl,rfl,rfl,rfl,(congrArg Value.bool (orT q)),(b.pk 7 [5,0,0,0,0,1] rfl)⟩))))
       exact yG q (m_ (iV (y.length:Int)) e0) (yG q (m_ (iV x) (eh J)) (yG q (ylss e0 e0) (yG i (pf_ (.bool (decide ((y.length:Int) < x))) e0 q e0) (a0 _ _ ⟨F,C,I,D,J,E,rfl,rfl,rfl,rfl,rfl,(congrArg Value.bool (orF q)),(b.pk 7 [5,0,0,0,0,1] rfl)⟩))))
      rintro f w ⟨f1,f2,f3,f4,f5,f6,f7,f8,i9,j0,j1,f9,b⟩
      exact yY (pt_ (.bool ((decide (c < 0)) || (decide ((y.length:Int) < x)))) (eh f8) i (eh f9)) (Z _ _ ⟨f1,f2,f3,f4,f5,f6,f7,(congrArg Value.bool (andT i)),b⟩)
     exact gN i (gN i (gN i (Gn (wxu rfl rfl rfl) rfl (Gn (wxu rfl rfl rfl) rfl (Gn (wxu rfl rfl rfl) rfl (gN i (yY (pf_ (.bool false) e0 i rfl) (Z _ _ ⟨F,C,I,D,J,E,rfl,(congrArg Value.bool (andF i)),(b.pk 7 [5,0,0,0,0,1] rfl)⟩))))))))
    rintro f w ⟨a3,a4,a5,g0,g1,O,g2,g3,b⟩
    refine wK f0 ?_
    have a6:∀ (R S:Int) (f:FV) w,f 1=(pB r)→f 5=(pB g)→f 6=d.v→f 7=iV R→f 8=iV S→f 9=iV h→St w0 ros (box r 26 [m.v]::row 93 rH t.v u::fam 4 rB u z::row 4 rB o.v A::box g 123 [t.v,o.v]::row 3 I1 d.v B::rs) w→sparseref16_Exact_j40 h R S=some d6→e6 .normal (fr 62 f) w:=by
     intro R S f w g4 g5 g6 g7 g8 g9 b j
     refine e7 _ _ _ (e5 _ _ (wR (Ym (iV h) (eh g9) (yY (yadd e0 rfl) (Ya (iV (wa .i64 h 1)) e0 (wN ?_))))))
     cases j
     exact d8 _ _ _ rfl ⟨_,_,_,_,rfl,rfl,g4,g5,g6,g7,g8,rfl,b⟩
    refine cB (eh g3) k (fun h0 k=>?_) fun h0 k=>?_
    ·exact wR (Ym (iV h) (eh O) (Ym (iV (y.length:Int)) (eh g2) (Ya (iV h) e0 (Ya (iV (y.length:Int)) e0 (wN (a6 _ _ _ _ a3 a4 a5 rfl rfl O b k))))))
    exact wp_skip (a6 _ _ _ _ a3 a4 a5 g0 g1 O b k)
   refine wp_exit (e2 _ _ _ rfl ?_)
   cases k
   refine d9 _ _ _ _ rfl rfl ?_
   obtain rfl:=d7 _ rfl
   refine d4 _ _ _ (d2 _ _ (sR fun _ h1=>Ym (pB g) (eh C) (Ym (iV c) (eh D) (bE p fun j2 h3 p=>?_))))
   replace b:=b.pk 5 [4,1,1,1,0] rfl
   refine yC (yCall FN_94 (a2 e0 e0)) (sparseref16_Elimination_Eliminate_ok h3 b) ?_
   rintro _ w ⟨rfl,b⟩
   refine ⟨_,rfl,?_⟩
   refine wK h1 (wR (Ym d.v (eh I) (Ym (iV c) (eh D) (yH (rLt (n:=1) (l:=[c]) b SL_22 [iV c] (bp1 e0) rfl rfl (mks1 (cs:=[iV c]) rfl mkI mks0)) fun j3 w b=>bE p fun j4 h4 p=>yH (rAp (b.pk 7 [6,0,0,0,0,0,0] rfl) SL_22 e0 e0 rO1 h4) fun h5 w b=>Ya h5.v e0 (wN (d0 _ _ _ ?_))))))
   cases p
   exact c3 _ _ _ rfl ⟨_,_,_,_,_,rfl,rfl,F,C,rfl,(b.pk 7 [6,2,2,2,2,0] rfl)⟩
  refine wp_exit (c7 _ _ _ rfl ?_)
  cases p
  refine c4 _ _ _ _ rfl rfl ?_
  obtain rfl:=c2 _ rfl
  refine b9 _ _ _ (b8 _ _ (sR fun _ h6=>Ym d.v (eh N) (Ya d.v e0 (Ya (iV 0) rfl (wK h6 (wp_ret ?_))))))
  cases j
  exact V _ _ _ (fin2r Tryz.results63 ⟨rfl,rfl⟩ ⟨rfl,rfl⟩ ⟨_,rfl,(b.pk 6 [5] rfl)⟩)
 refine condT e0 (nT (dF L)) (sR fun _ h7=>Ym (iV H) e0 (Ya hnil.v rfl (Ya (iV H) e0 (wK h7 (wp_ret (a9 _ _ _ rfl ?_))))))
 cases j
 replace b:=b.rowNh 3 I1
 exact V _ _ _ (fin2r Tryz.results63 ⟨rfl,rfl⟩ ⟨rfl,rfl⟩ ⟨_,rfl,(b.pk 2 [0] rfl)⟩)
end Go.Proofs.YthpeajepbffinaaGreat
