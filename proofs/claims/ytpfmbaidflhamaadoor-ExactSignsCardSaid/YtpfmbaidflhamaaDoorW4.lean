/- Walks: each function computes its model, printed. -/
import Derived.Test.YtpfmbaidflhamaaDoorW3
namespace Go.Proofs.YtpfmbaidflhamaaDoor
open Go Sx M
set_option maxRecDepth 100000
set_option maxHeartbeats 40000000
set_option linter.unusedVariables false
attribute [local irreducible] wpList Code.wp Calls DR QR QS LA LS St
variable {w0:World} {ros:List Fact} {rs:List Res} {w:World}
theorem sparselaw08_square_ok {J:LI} {g:Int} {o:Hdr} {out:(List (List (Bool×LI)))} (j:sparselaw08_square J g=some out) (E:imm I1 o.v J∈ros) (b:St w0 ros rs w):
  Calls Tryd.prog 15 #[o.v,iV g] w (fun e w=>∃ (K:Hdr) (L:List Hdr),e=.returned (K.v)∧St w0 ros (row 31 rH K.v L::fam 34 (rP rB (rS (rI .u32))) L out::rs) w):=by
 refine enterQ Tryd.func15 rfl Tryd.ntmps15 rfl fun Q W=>sR fun _ X=>Ya hnil.v rfl (wK X (sR fun _ Z=>Ya hnil.v rfl (wK Z (sQ fun _ a0=>sR fun _ a3=>?_))))
 refine Ya (iV 0) rfl (wK a3 (blockQ fun a4 a5=>bE j fun a6 a7 j=>?_))
 have a8:∀ (F:List (List (Bool×LI))) (u:Hdr) (G:List Hdr) (f:FV) w,f 5=u.v→St w0 ros (row 31 rH u.v G::fam 34 (rP rB (rS (rI .u32))) G F::rs) w→F=a6→a4 (.exit 0) (fr 48 f) w:=by
  intro F u G f w a9 b ho
  subst ho
  refine a5 _ _ _ (a0 _ _ (sR fun _ b0=>Ym u.v (eh a9) (Ya u.v e0 (wK b0 (wp_ret ?_)))))
  cases j
  exact W _ _ _ (fin1r Tryd.results15 ⟨rfl,rfl⟩ ⟨_,_,rfl,b⟩)
 replace b:=((b.rowNh 31 rH).fNew 34 (rP rB (rS (rI .u32)))).k10
 refine loopQ (fun s a w=>∃ (q:List (List (Bool×LI))) (d:Int) (f:FV) (h:Hdr) (k:List Hdr),(q,d)=s∧a=fr 48 f∧f 0=o.v∧f 1=iV g∧f 5=h.v∧f 6=iV d∧St w0 ros (row 31 rH h.v k::fam 34 (rP rB (rS (rI .u32))) k q::rs) w) a7 ⟨_,_,_,_,_,rfl,rfl,rfl,rfl,rfl,rfl,b⟩ ?_
 rintro _ _ w g4 ⟨q,d,f,h,k,rfl,rfl,b1,N,O,R,b⟩ m b2 g5 b3 b4
 refine seqQ fun g6 b5 b6=>sR fun _ b7=>Ym (iV d) (eh R) (Ym (iV g) (eh N) (yY (ylss e0 e0) (wK b7 ?_)))
 refine cIf e0 m (fun b8 m=>?_) fun b8 m=>?_
 ·refine wp_skip (b5 _ _ (sQ fun _ b9=>blockQ fun _ c0=>sR fun _ c1=>Ya hnil.v rfl (wK c1 (sQ fun _ c2=>sR fun _ c3=>Ya (iV 0) rfl (wN ?_)))))
  refine c3 _ _ (blockQ fun c4 c5=>bE m fun c6 c7 m=>?_)
  have c8:∀ (B:List (Bool×LI)) (p:Hdr) (f:FV) w,f 0=o.v→f 1=iV g→f 5=h.v→f 6=iV d→f 7=p.v→St w0 ros (row 31 rH h.v k::fam 34 (rP rB (rS (rI .u32))) k q::row 34 (rP rB (rS (rI .u32))) p.v B::rs) w→B=c6→c4 (.exit 2) (fr 48 f) w:=by
   intro B p f w c9 d0 d1 d2 d3 b ho
   subst ho
   refine c5 _ _ _ (c2 _ _ (wR (Ym h.v (eh d1) (Ym p.v (eh d3) (yH (rLt (n:=1) (l:=[p]) b SLH_25 [p.v] (bp1 e0) rfl rfl (mks1 rfl (mkF rfl) mks0)) fun g7 w b=>bE m fun g8 S m=>?_)))))
   replace b:=b.k10
   obtain ⟨g9,ey152,d4⟩:=app_rep S (b.famL R2) (show [p].length=[B].length from rfl)
   refine yH (rAp b SLH_25 e0 e0 rO1 d4) fun d5 w b=>?_
   replace b:=(b.k15).fPush
   rw [← ey152,← (app_some S).1] at b
   refine Ya d5.v e0 (wN (c0 _ _ _ (b9 _ _ (wR (Ym (iV d) (eh d2) (yY (yadd e0 rfl) (Ya (iV (wa .i64 d 1)) e0 (wN ?_))))))))
   cases m
   exact b3 _ _ _ rfl ⟨_,_,_,_,_,rfl,rfl,c9,d0,rfl,rfl,(b.k16)⟩
  replace b:=b.rowNh 34 (rP rB (rS (rI .u32)))
  refine loopQ (fun s a w=>∃ (x:List (Bool×LI)) (i:Int) (f:FV) (r:Hdr),(x,i)=s∧a=fr 48 f∧f 0=o.v∧f 1=iV g∧f 5=h.v∧f 6=iV d∧f 7=r.v∧f 8=iV i∧St w0 ros (row 31 rH h.v k::fam 34 (rP rB (rS (rI .u32))) k q::row 34 (rP rB (rS (rI .u32))) r.v x::rs) w) c7 ⟨_,_,_,_,rfl,rfl,b1,N,O,R,rfl,rfl,(b.k19)⟩ ?_
  rintro _ _ w d6 ⟨x,i,f,r,rfl,rfl,y,t,H,z,I,A,b⟩ c d7 h0 d8 d9
  refine seqQ fun h1 e1 e2=>sR fun _ e3=>Ym (iV i) (eh A) (Ym (iV g) (eh t) (yY (ylss e0 e0) (wK e3 ?_)))
  refine cIf e0 c (fun e4 c=>?_) fun e4 c=>?_
  ·refine wp_skip (e1 _ _ (sQ fun _ e5=>blockQ fun _ e6=>sR fun _ e7=>Ya (iV 0) rfl (wK e7 (sQ fun e8 e9=>sR fun _ f0=>Ym (iV g) (eh t) (Ym (iV d) (eh z) ?_)))))
   refine yY (ymul e0 e0) (Ym (iV i) (eh A) (yY (yadd e0 e0) (Ym o.v (eh y) (yY (yLen SL_22 e0 b (rdI E)) (yY (ylss e0 e0) (wK f0 ?_))))))
   have T:∀ (C:Int) (f:FV) w,f 0=o.v→f 1=iV g→f 5=h.v→f 6=iV d→f 7=r.v→f 8=iV i→f 9=iV C→St w0 ros (row 31 rH h.v k::fam 34 (rP rB (rS (rI .u32))) k q::row 34 (rP rB (rS (rI .u32))) r.v x::rs) w→sparselaw08_square_j13 x i C=some d6→e8 .normal (fr 48 f) w:=by
    intro C f w f1 f2 f3 f4 f5 f6 f7 b j
    refine e9 _ _ (wR (Ym r.v (eh f5) (Ym (iV C) (eh f7) (bE j fun D f8 j=>yC (yCall FN_14 (a1 e0)) (sparselaw08_num_ok f8 b) ?_))))
    rintro _ w ⟨U,rfl,b⟩
    refine ⟨_,rfl,?_⟩
    refine yH (rLt (n:=1) (l:=[(D.1,D.2)]) b.fz SL_31 [.agg #[.bool D.1,U.v]] (bp1 e0) rfl rfl (mks1 (cs:=[.bool D.1,U.v]) rfl (mkP mkB (mkS F0)) mks0)) fun h3 w b=>bE j fun h4 f9 j=>yH (rAp (b.k17) SL_31 e0 e0 rO1 f9) fun g0 w b=>Ya g0.v e0 (wN (e6 _ _ _ (e5 _ _ (wR (Ym (iV i) (eh f6) (yY (yadd e0 rfl) (Ya (iV (wa .i64 i 1)) e0 (wN ?_))))))))
    cases j
    exact d8 _ _ _ rfl ⟨_,_,_,_,rfl,rfl,f1,f2,f3,f4,rfl,rfl,((b.k18).facts (allT allI))⟩
   refine cIf e0 c (fun g1 c=>?_) fun g1 c=>?_
   ·refine wR (Ym o.v (eh y) (Ym (iV g) (eh t) (Ym (iV d) (eh z) (yY (ymul e0 e0) (Ym (iV i) (eh A) (yY (yadd e0 e0) (bE c fun h5 V c=>yY (yIa SL_22 e0 e0 b (rdI E) V) (yY (yI O_3 e0 b (rdI E) V) (bE c fun g2 g3 c=>yC (yCall FN_7 (a2 e0 rfl)) (sparsekit_Place_ok g3 b) ?_)))))))))
    rintro _ w ⟨rfl,b⟩
    refine ⟨_,rfl,?_⟩
    exact yY (ysub e0 rfl) (Ya (iV (ws .i64 g2 100)) e0 (wN (T _ _ _ y t H z I A rfl b c)))
   ·exact wp_skip (T _ _ _ y t H z I A rfl b c)
  ·refine wp_exit (e2 _ _ _ rfl ?_)
   cases c
   exact d9 _ _ _ _ rfl rfl (c8 _ _ _ _ y t H z I b (d7 _ rfl))
 ·refine wp_exit (b6 _ _ _ rfl ?_)
  cases m
  exact b4 _ _ _ _ rfl rfl (a8 _ _ _ _ _ O b (b2 _ rfl))
theorem sparselaw08_even_ok {B:LI} {j:Int} {r:Hdr} {out:(List (List (Bool×LI)))} (l:sparselaw08_even B j=some out) (N:imm I1 r.v B∈ros) (b:St w0 ros rs w):
  Calls Tryd.prog 8 #[r.v,iV j] w (fun e w=>∃ (C:Hdr) (D:List Hdr),e=.returned (C.v)∧St w0 ros (row 31 rH C.v D::fam 34 (rP rB (rS (rI .u32))) D out::rs) w):=by
 refine enterQ Tryd.func8 rfl Tryd.ntmps8 rfl fun Q O=>sR fun _ R=>Ya hnil.v rfl (wK R (sR fun _ S=>Ym r.v e0 (Ym (iV j) e0 (bE l fun d3 T l=>yC (yCall FN_15 (a2 e0 e0)) (sparselaw08_square_ok T N b) ?_))))
 rintro _ w ⟨d,h,rfl,b⟩
 refine ⟨_,rfl,?_⟩
 refine Ya d.v e0 (wK S (sQ fun _ U=>sR fun _ V=>Ya (iV 0) rfl (wK V (blockQ fun W X=>bE l fun Z a0 l=>?_))))
 have a1:∀ (t:List (List (Bool×LI))) (f:FV) w,f 5=d.v→St w0 ros (row 31 rH d.v h::fam 34 (rP rB (rS (rI .u32))) h t::rs) w→t=Z→W (.exit 0) (fr 35 f) w:=by
  intro t f w a3 b ho
  subst ho
  refine X _ _ _ (U _ _ (sR fun _ a4=>Ym d.v (eh a3) (Ya d.v e0 (wK a4 (wp_ret ?_)))))
  cases l
  exact O _ _ _ (fin1r Tryd.results8 ⟨rfl,rfl⟩ ⟨_,_,rfl,b⟩)
 refine loopQ (fun s a w=>∃ (u:List (List (Bool×LI))) (g:Int) (f:FV),(u,g)=s∧a=fr 35 f∧f 1=iV j∧f 5=d.v∧f 6=iV g∧St w0 ros (row 31 rH d.v h::fam 34 (rP rB (rS (rI .u32))) h u::rs) w) a0 ⟨_,_,_,rfl,rfl,rfl,rfl,rfl,b⟩ ?_
 rintro _ _ w d4 ⟨u,g,f,rfl,rfl,E,F,G,b⟩ k a5 d5 a6 a7
 refine seqQ fun d6 a8 a9=>sR fun _ b0=>Ym (iV g) (eh G) (Ym (iV j) (eh E) (yY (ylss e0 e0) (wK b0 ?_)))
 refine cIf e0 k (fun b1 k=>?_) fun b1 k=>?_
 ·refine wp_skip (a8 _ _ (sQ fun _ b2=>blockQ fun _ b3=>sR fun _ b4=>Ya (iV 0) rfl (wK b4 (blockQ fun b5 b6=>bE k fun b7 b8 k=>?_))))
  have b9:∀ (x:List (List (Bool×LI))) (f:FV) w,f 1=iV j→f 5=d.v→f 6=iV g→St w0 ros (row 31 rH d.v h::fam 34 (rP rB (rS (rI .u32))) h x::rs) w→x=b7→b5 (.exit 2) (fr 35 f) w:=by
   intro x f w c0 c1 c2 b ho
   subst ho
   refine b6 _ _ _ (b3 _ _ _ (b2 _ _ (wR (Ym (iV g) (eh c2) (yY (yadd e0 rfl) (Ya (iV (wa .i64 g 1)) e0 (wN ?_)))))))
   cases k
   exact a6 _ _ _ rfl ⟨_,_,_,rfl,rfl,c0,c1,rfl,b⟩
  refine loopQ (fun s a w=>∃ (y:List (List (Bool×LI))) (i:Int) (f:FV),(y,i)=s∧a=fr 35 f∧f 1=iV j∧f 5=d.v∧f 6=iV g∧f 7=iV i∧St w0 ros (row 31 rH d.v h::fam 34 (rP rB (rS (rI .u32))) h y::rs) w) b8 ⟨_,_,_,rfl,rfl,E,F,G,rfl,b⟩ ?_
  rintro _ _ w d7 ⟨y,i,f,rfl,rfl,H,o,m,p,b⟩ c c3 d8 c4 c5
  refine seqQ fun d9 c6 c7=>sR fun _ c8=>Ym (iV i) (eh p) (Ym (iV g) (eh m) (yY (ylss e0 e0) (wK c8 ?_)))
  refine cIf e0 c (fun c9 c=>?_) fun c9 c=>?_
  ·refine wp_skip (c6 _ _ (sQ fun _ d0=>blockQ fun _ d1=>bE c fun e1 z c=>bE c fun e2 A c=>bE c fun I J c=>bE c fun e3 K c=>bE c fun e4 d2 c=>dR [0,0,3,7,0,0,0,96,224,0,992,2016,4095,8191] [13] 1 folM ?_))
   replace b:=b.drew
   refine Dn [0,1,2,3,4,5,6,7,8,9,10,11,12] [] [13] (yR rfl (m_ d.v (eh o)) (yR rfl (m_ (iV g) (eh m)) ?_))
   obtain ⟨e5,n⟩:=b.famI R1 z
   refine yR rfl (yIa SLH_25 e0 e0 b rO0 n) (yR rfl (yF1 O_31 e0 b rO0 n rfl) (yR rfl (m_ (iV i) (eh p)) (yR rfl (m_ d.v (eh o)) (yR rfl (m_ (iV i) (eh p)) ?_))))
   obtain ⟨e6,q⟩:=b.famI R1 A
   refine yR rfl (yIa SLH_25 e0 e0 b rO0 q) (yR rfl (yF1 O_31 e0 b rO0 q rfl) (yR rfl (m_ (iV g) (eh m)) (yR rfl (yIa SL_31 e0 e0 b (rdF R1 q A) J) ?_)))
   obtain ⟨e7,e8,cc135,b⟩:=b.ld (rdF R1 q A) J
   replace b:=b.eltP
   obtain ⟨e9,f0,rfl,b⟩:=b
   replace b:=b.eltB
   obtain ⟨rfl,b⟩:=b
   replace b:=b.eltS
   obtain ⟨L,rfl,b⟩:=b
   refine yR rfl (yCn (cs:=[.bool I.1,L.v]) ST_34 rfl e0 cc135) (yR rfl (yIs SL_31 e0 e0 b (rdF R1 n z) K) (Rn QSn ?_))
   refine Lc1 rfl ?_
   replace b:=b.k10
   refine LT wn (r_stn (cs:=[.bool I.1,L.v]) (b.foc n z) ST_34 e0 e0 rfl (mkP mkB (mkS F0)) K) fun w b=>?_
   replace b:=b.unfoc' n d2
   refine Dz [] [] (Rn QSn (d1 _ _ _ (d0 _ _ (wR (Ym (iV i) (eh p) (yY (yadd e0 rfl) (Ya (iV (wa .i64 i 1)) e0 (wN ?_))))))))
   cases c
   exact c4 _ _ _ rfl ⟨_,_,_,rfl,rfl,H,o,m,rfl,((b.k10).facts (allT allI))⟩
  ·refine wp_exit (c7 _ _ _ rfl ?_)
   cases c
   exact c5 _ _ _ _ rfl rfl (b9 _ _ _ H o m b (c3 _ rfl))
 ·refine wp_exit (a9 _ _ _ rfl ?_)
  cases k
  exact a7 _ _ _ _ rfl rfl (a1 _ _ _ F b (a5 _ rfl))
theorem exact_Rank_ok {i:List (List (Bool×LI))} {c:Hdr} {out:Int×Int} (a:exact_Rank i=some out) (f:imm (rS (rP rB (rS (rI .u32)))) c.v i∈ros) (b:St w0 ros rs w):
  Calls Tryd.prog 22 #[c.v] w (fun e w=>e=.returned (.tuple #[iV out.1,iV out.2])∧St w0 ros rs w):=by
 refine enterQ Tryd.func22 rfl Tryd.ntmps22 rfl fun Q j=>sR fun _ k=>Ya (iV 0) rfl (Ya (iV 0) rfl (wK k (sR fun _ l=>Ym c.v e0 (bE a fun d m a=>yC (yCall FN_41 (a1 e0)) (exact_check_ok m f b) ?_))))
 rintro _ w ⟨rfl,b⟩
 refine ⟨_,rfl,?_⟩
 refine Ya (iV d) e0 (wK l (seqQ fun A n o=>sR fun _ p=>Ym (iV d) e0 (yY (yneq e0 rfl) (wK p ?_))))
 rcases iteS a with ⟨g,a⟩ | ⟨g,a⟩
 ·refine condF e0 (nF (dT g)) (wp_skip (n _ _ (sR fun _ q=>Ym c.v e0 (bE a fun B r a=>?_))))
  replace b:=b.immNh (rP rB (rS (rI .u32)))
  refine yC (yCall FN_27 (a2 e0 rfl)) (exact_twin_ok r (mtF f) F0 b) ?_
  rintro _ w ⟨s,C,rfl,b⟩
  refine ⟨_,rfl,?_⟩
  refine Ym c.v e0 (bE a fun D t a=>yC (yCall FN_42 (a1 e0)) (exact_columns_ok t (mtF f) b) ?_)
  rintro _ w ⟨rfl,b⟩
  refine ⟨_,rfl,?_⟩
  refine bE a fun h u a=>yC (yCall FN_36 (a2 e0 e0)) (exact_eliminate_ok u b) ?_
  rintro _ w ⟨E,x,y,rfl,b⟩
  refine ⟨_,rfl,?_⟩
  refine yY (yFv (cs:=[s.v,x.v,.bool h.2.2.1,y.v,iV h.2.2.2.2]) FV_62_1 e0 rfl) (yY (yLen SL_22 e0 b rO2) (Ya (iV (h.2.1.length:Int)) e0 (Ya (iV 0) rfl (wK q (wp_ret ?_)))))
  cases a
  exact j _ _ _ (fin2r Tryd.results22 ⟨rfl,rfl⟩ ⟨rfl,rfl⟩ ⟨rfl,((b.k1c).facts (allT (allT allI)))⟩)
 ·refine condT e0 (nT (dF g)) (sR fun _ z=>Ym (iV d) e0 (Ya (iV 0) rfl (Ya (iV d) e0 (wK z (wp_ret (o _ _ _ rfl ?_))))))
  cases a
  exact j _ _ _ (fin2r Tryd.results22 ⟨rfl,rfl⟩ ⟨rfl,rfl⟩ ⟨rfl,b⟩)
theorem exact_reduced_det_ok {m:List (List (Bool×LI))} {i:LI} {c:Bool} {n:LI} {d g:Int} {j h f:Hdr} {out:Bool×LI} (b:exact_reduced_det m i c n d g=some out) (J:imm (rS (rP rB (rS (rI .u32)))) j.v m∈ros) (x:imm I1 h.v i∈ros) (o:imm (rI .u32) f.v n∈ros) (a:St w0 ros rs w):
  Calls Tryd.prog 38 #[.agg #[j.v,h.v,.bool c,f.v,iV d],iV g] w (fun e w=>∃ (p:Hdr),e=.returned (.agg #[.bool out.1,p.v])∧St w0 (imm (rI .u32) p.v out.2::ros) rs w):=by
 refine enterQ Tryd.func38 rfl Tryd.ntmps38 rfl fun Q k=>sR fun _ y=>yBb (r_box (vals:=[j.v,h.v,.bool c,f.v,iV d]) a e0 rfl) fun K w a=>yBb (rAl a ZT_34) fun L w a=>wK y (seqQ fun N z q=>blockQ fun _ l=>sR fun _ A=>yY (yFb FL_62_1 e0) ?_)
 refine yY (lb_ h.v O_22 e0 a R1) (yY (yLen SL_22 e0 a (rdI x)) (Ym (iV g) e0 (yY (ylss e0 e0) (Ya (.bool (decide ((i.length:Int) < g))) e0 (wK A ?_)))))
 refine cIf e0 b (fun B b=>?_) fun B b=>?_
 ·refine sR fun _ C=>yY (ybuild (us:=[.bool false,hnil.v]) [] SO_34 bp0 rfl) (yT (r_stbn (vals':=[.bool false,hnil.v]) (us:=[.bool false,hnil.v]) a ST_34 e0 e0 rfl rfl (one_of rfl) rfl) fun w a=>wK C (wp_ret (l _ _ _ (q _ _ _ rfl ?_))))
  cases b
  replace a:=a.immNh (rI .u32)
  exact k _ _ _ (fin1r Tryd.results38 (rcs2 rfl rfl a R0 ST_34 rfl) ⟨_,rfl,(a.k14)⟩)
 ·refine sR fun _ D=>yY (yFb FL_62_3 e0) (yY (lb_ (iV d) O_3 e0 a R1) (yY (ylss e0 rfl) (Ya (.bool (decide (d < 0))) e0 (wK D ?_))))
  refine cIf e0 b (fun E b=>?_) fun E b=>?_
  ·refine sR fun _ F=>yY (yFb FL_62_2 e0) (yY (lbs_ [.bool c,f.v] ST_34 e0 a R1) (bE b fun r G b=>yC (yCall FN_11 (a1 e0)) (integer_Neg_ok G o a) ?_))
   rintro _ w ⟨s,rfl,a⟩
   refine ⟨_,rfl,?_⟩
   refine yT (r_stbn (vals':=[.bool r.1,s.v]) (us:=[.bool r.1,s.v]) a ST_34 e0 e0 rfl rfl (one_of rfl) rfl) fun w a=>wK F (wp_ret (l _ _ _ (q _ _ _ rfl ?_)))
   cases b
   exact k _ _ _ (fin1r Tryd.results38 (rcs2 rfl rfl a R0 ST_34 rfl) ⟨_,rfl,(a.k14)⟩)
  ·refine wp_skip (l _ _ _ (z _ _ (sR fun _ H=>yY (yFb FL_62_2 e0) (yY (lbs_ [.bool c,f.v] ST_34 e0 a R1) (bE b fun t I b=>yC (yCall FN_51 (a1 e0)) (integer_Norm_ok I o a) ?_)))))
   rintro _ w ⟨u,rfl,a⟩
   refine ⟨_,rfl,?_⟩
   refine yT (r_stbn (vals':=[.bool t.1,u.v]) (us:=[.bool t.1,u.v]) a ST_34 e0 e0 rfl rfl (one_of rfl) rfl) fun w a=>wK H (wp_ret ?_)
   cases b
   exact k _ _ _ (fin1r Tryd.results38 (rcs2 rfl rfl a R0 ST_34 rfl) ⟨_,rfl,(a.k14)⟩)
theorem exact_Det_ok {h:List (List (Bool×LI))} {c:Hdr} {out:Bool×LI×Int} (b:exact_Det h=some out) (d:imm (rS (rP rB (rS (rI .u32)))) c.v h∈ros) (a:St w0 ros rs w):
  Calls Tryd.prog 17 #[c.v] w (fun e w=>∃ (i:Hdr),e=.returned (.tuple #[.agg #[.bool out.1,i.v],iV out.2.2])∧St w0 (imm (rI .u32) i.v out.2.1::ros) rs w):=by
 refine enterQ Tryd.func17 rfl Tryd.ntmps17 rfl fun Q j=>sR fun _ m=>yBb (rAl a ZT_34) fun z w a=>Ya (iV 0) rfl (wK m (sR fun _ n=>Ym c.v e0 (bE b fun f o b=>yC (yCall FN_24 (a1 e0)) (exact_square_ok o d a) ?_)))
 rintro _ w ⟨rfl,a⟩
 refine ⟨_,rfl,?_⟩
 refine Ya (iV f) e0 (wK n (seqQ fun A p q=>sR fun _ r=>Ym (iV f) e0 (yY (yneq e0 rfl) (wK r ?_))))
 rcases iteS b with ⟨g,b⟩ | ⟨g,b⟩
 ·refine condF e0 (nF (dT g)) (wp_skip (p _ _ (sR fun _ s=>Ym c.v e0 (bE b fun B t b=>?_))))
  replace a:=a.immNh (rP rB (rS (rI .u32)))
  refine yC (yCall FN_27 (a2 e0 rfl)) (exact_twin_ok t (mtF d) F0 a) ?_
  rintro _ w ⟨C,D,rfl,a⟩
  refine ⟨_,rfl,?_⟩
  refine Ym c.v e0 (yY (yLen SL_25 e0 a (rdI (mtF d))) (bE b fun E u b=>yC (yCall FN_36 (a2 e0 e0)) (exact_eliminate_ok u a) ?_))
  rintro _ w ⟨F,G,H,rfl,a⟩
  refine ⟨_,rfl,?_⟩
  refine Ym c.v e0 (yY (yLen SL_25 e0 a (rdI (F_2 d))) (bE b fun k x b=>?_))
  replace a:=a.ffz.fz
  refine yC (yCall FN_38 (a2 e0 e0)) (exact_reduced_det_ok x F1 F0 F2 a) ?_
  rintro _ w ⟨l,rfl,a⟩
  refine ⟨_,rfl,?_⟩
  refine yT (r_stbn (vals':=[.bool k.1,l.v]) (us:=[.bool k.1,l.v]) a ST_34 e0 e0 rfl rfl (one_of rfl) rfl) fun w a=>Ya (iV 0) rfl (wK s (wp_ret ?_))
  cases b
  exact j _ _ _ (fin2r Tryd.results17 (rcs2 rfl rfl a R0 ST_34 rfl) ⟨rfl,rfl⟩ ⟨_,rfl,((a.k13).facts (allC F0 (allT (allT (allT (allT (allT allI)))))))⟩)
 ·refine condT e0 (nT (dF g)) (sR fun _ y=>yY (ybuild (us:=[.bool false,hnil.v]) [] SO_34 bp0 rfl) (Ym (iV f) e0 (yT (r_stbn (vals':=[.bool false,hnil.v]) (us:=[.bool false,hnil.v]) a ST_34 e0 e0 rfl rfl (one_of rfl) rfl) fun w a=>Ya (iV f) e0 (wK y (wp_ret (q _ _ _ rfl ?_))))))
  cases b
  replace a:=a.immNh (rI .u32)
  exact j _ _ _ (fin2r Tryd.results17 (rcs2 rfl rfl a R0 ST_34 rfl) ⟨rfl,rfl⟩ ⟨_,rfl,(a.k13)⟩)
theorem sparselaw08_ExactSigns_ok {y:LI} {s:Int} {q:Hdr} {out:Bool} (b:sparselaw08_ExactSigns y s=some out) (e9:out=true) (z:imm I1 q.v y∈ros) (a:St w0 ros rs w):
  Calls Tryd.prog 5 #[q.v,iV s] w (fun e w=>e=.returned (.bool out)∧St w0 ros rs w):=by
 refine enterQ Tryd.func5 rfl Tryd.ntmps5 rfl fun Q t=>sR fun _ U=>Ya (.bool false) rfl (wK U (seqQ fun f0 V W=>sR fun _ X=>Ym q.v e0 (yY (yLen SL_22 e0 a (rdI z)) (yY (ygtr e0 rfl) (wK X ?_)))))
 refine cIf e0 b (fun Z b=>?_) fun Z b=>?_
 ·refine sR fun _ a3=>bE b fun a4 a5 b=>yC (yCall FN_6 a0) (sparselaw08_awake_ok a5 a) ?_
  rintro _ w ⟨rfl,a⟩
  refine ⟨_,rfl,?_⟩
  refine Ya (.bool a4) e0 (wK a3 (wp_ret (W _ _ _ rfl ?_)))
  cases b
  exact t _ _ _ (fin1r Tryd.results5 ⟨rfl,rfl⟩ ⟨rfl,a⟩)
 ·refine wp_skip (V _ _ (sR fun _ a6=>Ym (iV s) e0 (bE b fun m a7 b=>yC (yCall FN_7 (a2 e0 rfl)) (sparsekit_Place_ok a7 a) ?_)))
  rintro _ w ⟨rfl,a⟩
  refine ⟨_,rfl,?_⟩
  refine Ya (iV m) e0 (wK a6 (sR fun _ a8=>Ym q.v e0 (Ym (iV m) e0 (bE b fun f1 a9 b=>yC (yCall FN_8 (a2 e0 e0)) (sparselaw08_even_ok a9 z a) ?_))))
  rintro _ w ⟨r,f2,rfl,a⟩
  refine ⟨_,rfl,?_⟩
  refine Ya r.v e0 (wK a8 (sR fun _ b0=>Ym r.v e0 (bE b fun c b1 b=>?_)))
  replace a:=a.ffz
  refine yC (yCall FN_9 (a1 e0)) (exact_Inertia_ok b1 F0 a) ?_
  rintro _ w ⟨rfl,a⟩
  refine ⟨_,rfl,?_⟩
  refine Ym (.tuple #[iV c.1,iV c.2.1,iV c.2.2.1,iV c.2.2.2]) e0 (yY (x_ (iV c.1) e0) (yY (x_ (iV c.2.1) e0) (yY (x_ (iV c.2.2.1) e0) (yY (x_ (iV c.2.2.2) e0) (Ya (iV c.1) e0 (Ya (iV c.2.1) e0 (Ya (iV c.2.2.1) e0 (Ya (iV c.2.2.2) e0 (wK b0 (sR fun _ b2=>Ym r.v e0 ?_))))))))))
  refine bE b fun g b3 b=>yC (yCall FN_22 (a1 e0)) (exact_Rank_ok b3 F0 a) ?_
  rintro _ w ⟨rfl,a⟩
  refine ⟨_,rfl,?_⟩
  refine Ym (.tuple #[iV g.1,iV g.2]) e0 (yY (x_ (iV g.1) e0) (yY (x_ (iV g.2) e0) (Ya (iV g.1) e0 (Ya (iV g.2) e0 (wK b2 (sR fun _ b4=>Ym r.v e0 (bE b fun d b5 b=>yC (yCall FN_17 (a1 e0)) (exact_Det_ok b5 F0 a) ?_)))))))
  rintro _ w ⟨h,rfl,a⟩
  refine ⟨_,rfl,?_⟩
  refine Ym (.tuple #[.agg #[.bool d.1,h.v],iV d.2.2]) e0 (yY (x_ (.agg #[.bool d.1,h.v]) e0) (yY (x_ (iV d.2.2) e0) (yBb (rAl a ZT_34) fun j w a=>yT (r_stbn (vals':=[.bool d.1,h.v]) (us:=[.bool d.1,h.v]) a ST_34 e0 e0 rfl rfl (one_of rfl) rfl) fun w a=>Ya (iV d.2.2) e0 (wK b4 (seqQ fun f3 b6 b7=>sR fun _ b8=>Ym (iV c.2.2.2) e0 ?_)))))
  refine yY (yneq e0 rfl) (Ym (.bool (!(decide (c.2.2.2=0)))) e0 ?_)
  refine joinW 3 (fun f w=>f 1=iV m∧f 6=iV c.1∧f 7=iV c.2.1∧f 10=iV g.1∧f 12=(pB j)∧f 13=iV d.2.2∧f 46=.bool ((!(decide (c.2.2.2=0))) || (!(decide (g.2=0))))∧St w0 (imm (rI .u32) h.v d.2.1::ros) (box j 34 [.bool d.1,h.v]::rs) w) (fun A=>?_) ?_
  ·rcases Bool.eq_false_or_eq_true (!(decide (c.2.2.2=0))) with k | k
   ·exact gN k (gN k (yY (pt_ (.bool true) e0 k rfl) (A _ _ ⟨rfl,rfl,rfl,rfl,rfl,rfl,(congrArg Value.bool (orT k)),(a.facts (allC F0 (allT (allT allI))))⟩)))
   ·exact yG k (m_ (iV g.2) e0) (yG k (yneq e0 rfl) (yY (pf_ (.bool (!(decide (g.2=0)))) e0 k e0) (A _ _ ⟨rfl,rfl,rfl,rfl,rfl,rfl,(congrArg Value.bool (orF k)),(a.facts (allC F0 (allT (allT allI))))⟩)))
  rintro f w ⟨B,C,D,E,F,b9,c0,a⟩
  refine Ym (.bool ((!(decide (c.2.2.2=0))) || (!(decide (g.2=0))))) (eh c0) ?_
  refine joinW 3 (fun f w=>f 1=iV m∧f 6=iV c.1∧f 7=iV c.2.1∧f 10=iV g.1∧f 12=(pB j)∧f 50=.bool (((!(decide (c.2.2.2=0))) || (!(decide (g.2=0)))) || (!(decide (d.2.2=0))))∧St w0 (imm (rI .u32) h.v d.2.1::ros) (box j 34 [.bool d.1,h.v]::rs) w) (fun G=>?_) ?_
  ·rcases Bool.eq_false_or_eq_true ((!(decide (c.2.2.2=0))) || (!(decide (g.2=0)))) with l | l
   ·exact gN l (gN l (yY (pt_ (.bool true) e0 l rfl) (G _ _ ⟨B,C,D,E,F,(congrArg Value.bool (orT l)),a⟩)))
   ·exact yG l (m_ (iV d.2.2) (eh b9)) (yG l (yneq e0 rfl) (yY (pf_ (.bool (!(decide (d.2.2=0)))) e0 l e0) (G _ _ ⟨B,C,D,E,F,(congrArg Value.bool (orF l)),a⟩)))
  rintro f w ⟨c1,H,u,c2,I,c3,a⟩
  refine Ym (.bool (((!(decide (c.2.2.2=0))) || (!(decide (g.2=0)))) || (!(decide (d.2.2=0))))) (eh c3) ?_
  refine joinW 6 (fun f w=>f 6=iV c.1∧f 7=iV c.2.1∧f 12=(pB j)∧f 57=.bool ((((!(decide (c.2.2.2=0))) || (!(decide (g.2=0)))) || (!(decide (d.2.2=0)))) || (!(decide (c.2.1=(ws .i64 m g.1)))))∧St w0 (imm (rI .u32) h.v d.2.1::ros) (box j 34 [.bool d.1,h.v]::rs) w) (fun J=>?_) ?_
  ·rcases Bool.eq_false_or_eq_true (((!(decide (c.2.2.2=0))) || (!(decide (g.2=0)))) || (!(decide (d.2.2=0)))) with i | i
   ·exact gN i (gN i (gN i (gN i (gN i (yY (pt_ (.bool true) e0 i rfl) (J _ _ ⟨H,u,I,(congrArg Value.bool (orT i)),a⟩))))))
   ·exact yG i (m_ (iV c.2.1) (eh u)) (yG i (m_ (iV m) (eh c1)) (yG i (m_ (iV g.1) (eh c2)) (yG i (ysub e0 e0) (yG i (yneq e0 e0) (yY (pf_ (.bool (!(decide (c.2.1=(ws .i64 m g.1))))) e0 i e0) (J _ _ ⟨H,u,I,(congrArg Value.bool (orF i)),a⟩))))))
  rintro f w ⟨c5,K,L,c6,a⟩
  refine wK b8 (cB (eh c6) b (fun c7 b=>?_) fun c7 b=>?_)
  ·refine sR fun _ c8=>Ya (.bool false) rfl (wK c8 (wp_ret (b7 _ _ _ rfl ?_)))
   cases b
   exact t _ _ _ (fin1r Tryd.results5 ⟨rfl,rfl⟩ ⟨rfl,((a.k13).facts (allT allI))⟩)
  ·refine wp_skip (b6 _ _ (sR fun _ c9=>Ya (iV 1) rfl (wK c9 (sQ fun d0 d1=>sR fun _ d2=>Ym (iV c.1) (eh c5) (yY (yremc e0 rfl (by decide)) (yY (yeql e0 rfl) (wN ?_)))))))
   refine d2 _ _ ?_
   have N:∀ (x:Int) (f:FV) w,f 7=iV c.2.1→f 12=(pB j)→f 14=iV x→St w0 (imm (rI .u32) h.v d.2.1::ros) (box j 34 [.bool d.1,h.v]::rs) w→sparselaw08_ExactSigns_j4 c d x=some out→d0 .normal (fr 70 f) w:=by
    intro x f w d3 O d4 a b
    refine d1 _ _ (sQ fun d5 d6=>sR fun _ d7=>Ym (iV c.2.1) (eh d3) (yY (ygtr e0 rfl) (wK d7 ?_)))
    have R:∀ (o:Int) (f:FV) w,f 12=(pB j)→f 14=iV o→St w0 (imm (rI .u32) h.v d.2.1::ros) (box j 34 [.bool d.1,h.v]::rs) w→sparselaw08_ExactSigns_j5 d o=some out→d5 .normal (fr 70 f) w:=by
     intro o f w d8 d9 a b
     refine d6 _ _ (sR fun _ e1=>yY (lbs_ [.bool d.1,h.v] ST_34 (eh d8) a R0) (bE b fun e2 e3 b=>yC (yCall FN_18 (a1 e0)) (integer_Sign_ok e3 F0 a) ?_))
     rintro _ w ⟨rfl,a⟩
     refine ⟨_,rfl,?_⟩
     refine Ym (iV o) (eh d9) (yY (yeql e0 e0) (Ym (.bool (decide (e2=o))) e0 (bE b fun S n b=>?_)))
     refine joinW 2 (fun f w=>f 69=.bool S∧St w0 ros rs w) (fun T=>?_) ?_
     ·rcases iteS n with ⟨p,n⟩ | ⟨p,n⟩
      ·refine bE n fun e4 e5 n=>Yc (wG (dT p)) rfl (yCall FN_6 a0) (sparselaw08_awake_ok e5 a) ?_
       rintro _ w ⟨rfl,a⟩
       refine ⟨_,rfl,?_⟩
       refine yY (pt_ (.bool e4) e0 (dT p) e0) ?_
       cases n
       exact T _ _ ⟨rfl,((a.k13).facts (allT allI))⟩
      ·refine gN (dF p) (yY (pf_ (.bool false) e0 (dF p) rfl) ?_)
       cases n
       exact T _ _ ⟨rfl,((a.k13).facts (allT allI))⟩
     rintro f w ⟨e6,a⟩
     refine Ya (.bool S) (eh e6) (wK e1 (wp_ret ?_))
     cases b
     exact t _ _ _ (fin1r Tryd.results5 ⟨rfl,rfl⟩ ⟨rfl,a⟩)
    refine cIf e0 b (fun e7 b=>?_) fun e7 b=>?_
    ·exact wR (Ya (iV 0) rfl (wN (R _ _ _ O rfl a b)))
    ·exact wp_skip (R _ _ _ O d4 a b)
   refine cIf e0 b (fun e8 b=>?_) fun e8 b=>?_
   ·exact wR (Ya (iV (-1)) rfl (wN (N _ _ _ K L rfl a b)))
   ·exact wp_skip (N _ _ _ K L rfl a b)
end Go.Proofs.YtpfmbaidflhamaaDoor
