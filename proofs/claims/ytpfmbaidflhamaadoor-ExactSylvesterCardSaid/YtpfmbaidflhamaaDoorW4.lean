/- Walks: each function computes its model, printed. -/
import Derived.Test.YtpfmbaidflhamaaDoorW3
namespace Go.Proofs.YtpfmbaidflhamaaDoor
open Go Sx M
set_option maxRecDepth 100000
set_option maxHeartbeats 40000000
set_option linter.unusedVariables false
attribute [local irreducible] wpList Code.wp Calls DR QR QS LA LS St
variable {w0:World} {ros:List Fact} {rs:List Res} {w:World}
theorem sparselaw08_square_ok {J:LI} {g:Int} {o:Hdr} {out:(List (List (Bool×LI)))} (j:sparselaw08_square J g=some out) (E:imm I1 o.v J∈ros) (b:St w0 ros rs w):
  Calls Tryd.prog 15 #[o.v,iV g] w (fun e w=>∃ (K:Hdr) (L:List Hdr),e=.returned (K.v)∧St w0 ros (row 31 rH K.v L::fam 34 (rP rB (rS (rI .u32))) L out::rs) w):=by
 refine enterQ Tryd.func15 rfl Tryd.ntmps15 rfl fun Q W=>sR fun _ X=>Ya hnil.v rfl (wK X (sR fun _ Z=>Ya hnil.v rfl (wK Z (sQ fun _ a0=>sR fun _ a3=>?_))))
 refine Ya (iV 0) rfl (wK a3 (blockQ fun a4 a5=>bE j fun a6 a7 j=>?_))
 have a8:∀ (F:List (List (Bool×LI))) (u:Hdr) (G:List Hdr) (f:FV) w,f 5=u.v→St w0 ros (row 31 rH u.v G::fam 34 (rP rB (rS (rI .u32))) G F::rs) w→F=a6→a4 (.exit 0) (fr 48 f) w:=by
  intro F u G f w a9 b ho
  subst ho
  refine a5 _ _ _ (a0 _ _ (sR fun _ b0=>Ym u.v (eh a9) (Ya u.v e0 (wK b0 (wp_ret ?_)))))
  cases j
  exact W _ _ _ (fin1r Tryd.results15 ⟨rfl,rfl⟩ ⟨_,_,rfl,b⟩)
 replace b:=((b.rowNh 31 rH).fNew 34 (rP rB (rS (rI .u32)))).k10
 refine loopQ (fun s a w=>∃ (q:List (List (Bool×LI))) (d:Int) (f:FV) (h:Hdr) (k:List Hdr),(q,d)=s∧a=fr 48 f∧f 0=o.v∧f 1=iV g∧f 5=h.v∧f 6=iV d∧St w0 ros (row 31 rH h.v k::fam 34 (rP rB (rS (rI .u32))) k q::rs) w) a7 ⟨_,_,_,_,_,rfl,rfl,rfl,rfl,rfl,rfl,b⟩ ?_
 rintro _ _ w g4 ⟨q,d,f,h,k,rfl,rfl,b1,N,O,R,b⟩ m b2 g5 b3 b4
 refine seqQ fun g6 b5 b6=>sR fun _ b7=>Ym (iV d) (eh R) (Ym (iV g) (eh N) (yY (ylss e0 e0) (wK b7 ?_)))
 refine cIf e0 m (fun b8 m=>?_) fun b8 m=>?_
 ·refine wp_skip (b5 _ _ (sQ fun _ b9=>blockQ fun _ c0=>sR fun _ c1=>Ya hnil.v rfl (wK c1 (sQ fun _ c2=>sR fun _ c3=>Ya (iV 0) rfl (wN ?_)))))
  refine c3 _ _ (blockQ fun c4 c5=>bE m fun c6 c7 m=>?_)
  have c8:∀ (B:List (Bool×LI)) (p:Hdr) (f:FV) w,f 0=o.v→f 1=iV g→f 5=h.v→f 6=iV d→f 7=p.v→St w0 ros (row 31 rH h.v k::fam 34 (rP rB (rS (rI .u32))) k q::row 34 (rP rB (rS (rI .u32))) p.v B::rs) w→B=c6→c4 (.exit 2) (fr 48 f) w:=by
   intro B p f w c9 d0 d1 d2 d3 b ho
   subst ho
   refine c5 _ _ _ (c2 _ _ (wR (Ym h.v (eh d1) (Ym p.v (eh d3) (yH (rLt (n:=1) (l:=[p]) b SLH_25 [p.v] (bp1 e0) rfl rfl (mks1 rfl (mkF rfl) mks0)) fun g7 w b=>bE m fun g8 S m=>?_)))))
   replace b:=b.k10
   obtain ⟨g9,ey152,d4⟩:=app_rep S (b.famL R2) (show [p].length=[B].length from rfl)
   refine yH (rAp b SLH_25 e0 e0 rO1 d4) fun d5 w b=>?_
   replace b:=(b.k15).fPush
   rw [← ey152,← (app_some S).1] at b
   refine Ya d5.v e0 (wN (c0 _ _ _ (b9 _ _ (wR (Ym (iV d) (eh d2) (yY (yadd e0 rfl) (Ya (iV (wa .i64 d 1)) e0 (wN ?_))))))))
   cases m
   exact b3 _ _ _ rfl ⟨_,_,_,_,_,rfl,rfl,c9,d0,rfl,rfl,(b.k16)⟩
  replace b:=b.rowNh 34 (rP rB (rS (rI .u32)))
  refine loopQ (fun s a w=>∃ (x:List (Bool×LI)) (i:Int) (f:FV) (r:Hdr),(x,i)=s∧a=fr 48 f∧f 0=o.v∧f 1=iV g∧f 5=h.v∧f 6=iV d∧f 7=r.v∧f 8=iV i∧St w0 ros (row 31 rH h.v k::fam 34 (rP rB (rS (rI .u32))) k q::row 34 (rP rB (rS (rI .u32))) r.v x::rs) w) c7 ⟨_,_,_,_,rfl,rfl,b1,N,O,R,rfl,rfl,(b.k19)⟩ ?_
  rintro _ _ w d6 ⟨x,i,f,r,rfl,rfl,y,t,H,z,I,A,b⟩ c d7 h0 d8 d9
  refine seqQ fun h1 e1 e2=>sR fun _ e3=>Ym (iV i) (eh A) (Ym (iV g) (eh t) (yY (ylss e0 e0) (wK e3 ?_)))
  refine cIf e0 c (fun e4 c=>?_) fun e4 c=>?_
  ·refine wp_skip (e1 _ _ (sQ fun _ e5=>blockQ fun _ e6=>sR fun _ e7=>Ya (iV 0) rfl (wK e7 (sQ fun e8 e9=>sR fun _ f0=>Ym (iV g) (eh t) (Ym (iV d) (eh z) ?_)))))
   refine yY (ymul e0 e0) (Ym (iV i) (eh A) (yY (yadd e0 e0) (Ym o.v (eh y) (yY (yLen SL_22 e0 b (rdI E)) (yY (ylss e0 e0) (wK f0 ?_))))))
   have T:∀ (C:Int) (f:FV) w,f 0=o.v→f 1=iV g→f 5=h.v→f 6=iV d→f 7=r.v→f 8=iV i→f 9=iV C→St w0 ros (row 31 rH h.v k::fam 34 (rP rB (rS (rI .u32))) k q::row 34 (rP rB (rS (rI .u32))) r.v x::rs) w→sparselaw08_square_j13 x i C=some d6→e8 .normal (fr 48 f) w:=by
    intro C f w f1 f2 f3 f4 f5 f6 f7 b j
    refine e9 _ _ (wR (Ym r.v (eh f5) (Ym (iV C) (eh f7) (bE j fun D f8 j=>yC (yCall FN_14 (a1 e0)) (sparselaw08_num_ok f8 b) ?_))))
    rintro _ w ⟨U,rfl,b⟩
    refine ⟨_,rfl,?_⟩
    refine yH (rLt (n:=1) (l:=[(D.1,D.2)]) b.fz SL_31 [.agg #[.bool D.1,U.v]] (bp1 e0) rfl rfl (mks1 (cs:=[.bool D.1,U.v]) rfl (mkP mkB (mkS F0)) mks0)) fun h3 w b=>bE j fun h4 f9 j=>yH (rAp (b.k17) SL_31 e0 e0 rO1 f9) fun g0 w b=>Ya g0.v e0 (wN (e6 _ _ _ (e5 _ _ (wR (Ym (iV i) (eh f6) (yY (yadd e0 rfl) (Ya (iV (wa .i64 i 1)) e0 (wN ?_))))))))
    cases j
    exact d8 _ _ _ rfl ⟨_,_,_,_,rfl,rfl,f1,f2,f3,f4,rfl,rfl,((b.k18).facts (allT allI))⟩
   refine cIf e0 c (fun g1 c=>?_) fun g1 c=>?_
   ·refine wR (Ym o.v (eh y) (Ym (iV g) (eh t) (Ym (iV d) (eh z) (yY (ymul e0 e0) (Ym (iV i) (eh A) (yY (yadd e0 e0) (bE c fun h5 V c=>yY (yIa SL_22 e0 e0 b (rdI E) V) (yY (yI O_3 e0 b (rdI E) V) (bE c fun g2 g3 c=>yC (yCall FN_7 (a2 e0 rfl)) (sparsekit_Place_ok g3 b) ?_)))))))))
    rintro _ w ⟨rfl,b⟩
    refine ⟨_,rfl,?_⟩
    exact yY (ysub e0 rfl) (Ya (iV (ws .i64 g2 100)) e0 (wN (T _ _ _ y t H z I A rfl b c)))
   ·exact wp_skip (T _ _ _ y t H z I A rfl b c)
  ·refine wp_exit (e2 _ _ _ rfl ?_)
   cases c
   exact d9 _ _ _ _ rfl rfl (c8 _ _ _ _ y t H z I b (d7 _ rfl))
 ·refine wp_exit (b6 _ _ _ rfl ?_)
  cases m
  exact b4 _ _ _ _ rfl rfl (a8 _ _ _ _ _ O b (b2 _ rfl))
theorem sparselaw08_even_ok {B:LI} {j:Int} {r:Hdr} {out:(List (List (Bool×LI)))} (l:sparselaw08_even B j=some out) (N:imm I1 r.v B∈ros) (b:St w0 ros rs w):
  Calls Tryd.prog 8 #[r.v,iV j] w (fun e w=>∃ (C:Hdr) (D:List Hdr),e=.returned (C.v)∧St w0 ros (row 31 rH C.v D::fam 34 (rP rB (rS (rI .u32))) D out::rs) w):=by
 refine enterQ Tryd.func8 rfl Tryd.ntmps8 rfl fun Q O=>sR fun _ R=>Ya hnil.v rfl (wK R (sR fun _ S=>Ym r.v e0 (Ym (iV j) e0 (bE l fun d3 T l=>yC (yCall FN_15 (a2 e0 e0)) (sparselaw08_square_ok T N b) ?_))))
 rintro _ w ⟨d,h,rfl,b⟩
 refine ⟨_,rfl,?_⟩
 refine Ya d.v e0 (wK S (sQ fun _ U=>sR fun _ V=>Ya (iV 0) rfl (wK V (blockQ fun W X=>bE l fun Z a0 l=>?_))))
 have a1:∀ (t:List (List (Bool×LI))) (f:FV) w,f 5=d.v→St w0 ros (row 31 rH d.v h::fam 34 (rP rB (rS (rI .u32))) h t::rs) w→t=Z→W (.exit 0) (fr 35 f) w:=by
  intro t f w a3 b ho
  subst ho
  refine X _ _ _ (U _ _ (sR fun _ a4=>Ym d.v (eh a3) (Ya d.v e0 (wK a4 (wp_ret ?_)))))
  cases l
  exact O _ _ _ (fin1r Tryd.results8 ⟨rfl,rfl⟩ ⟨_,_,rfl,b⟩)
 refine loopQ (fun s a w=>∃ (u:List (List (Bool×LI))) (g:Int) (f:FV),(u,g)=s∧a=fr 35 f∧f 1=iV j∧f 5=d.v∧f 6=iV g∧St w0 ros (row 31 rH d.v h::fam 34 (rP rB (rS (rI .u32))) h u::rs) w) a0 ⟨_,_,_,rfl,rfl,rfl,rfl,rfl,b⟩ ?_
 rintro _ _ w d4 ⟨u,g,f,rfl,rfl,E,F,G,b⟩ k a5 d5 a6 a7
 refine seqQ fun d6 a8 a9=>sR fun _ b0=>Ym (iV g) (eh G) (Ym (iV j) (eh E) (yY (ylss e0 e0) (wK b0 ?_)))
 refine cIf e0 k (fun b1 k=>?_) fun b1 k=>?_
 ·refine wp_skip (a8 _ _ (sQ fun _ b2=>blockQ fun _ b3=>sR fun _ b4=>Ya (iV 0) rfl (wK b4 (blockQ fun b5 b6=>bE k fun b7 b8 k=>?_))))
  have b9:∀ (x:List (List (Bool×LI))) (f:FV) w,f 1=iV j→f 5=d.v→f 6=iV g→St w0 ros (row 31 rH d.v h::fam 34 (rP rB (rS (rI .u32))) h x::rs) w→x=b7→b5 (.exit 2) (fr 35 f) w:=by
   intro x f w c0 c1 c2 b ho
   subst ho
   refine b6 _ _ _ (b3 _ _ _ (b2 _ _ (wR (Ym (iV g) (eh c2) (yY (yadd e0 rfl) (Ya (iV (wa .i64 g 1)) e0 (wN ?_)))))))
   cases k
   exact a6 _ _ _ rfl ⟨_,_,_,rfl,rfl,c0,c1,rfl,b⟩
  refine loopQ (fun s a w=>∃ (y:List (List (Bool×LI))) (i:Int) (f:FV),(y,i)=s∧a=fr 35 f∧f 1=iV j∧f 5=d.v∧f 6=iV g∧f 7=iV i∧St w0 ros (row 31 rH d.v h::fam 34 (rP rB (rS (rI .u32))) h y::rs) w) b8 ⟨_,_,_,rfl,rfl,E,F,G,rfl,b⟩ ?_
  rintro _ _ w d7 ⟨y,i,f,rfl,rfl,H,o,m,p,b⟩ c c3 d8 c4 c5
  refine seqQ fun d9 c6 c7=>sR fun _ c8=>Ym (iV i) (eh p) (Ym (iV g) (eh m) (yY (ylss e0 e0) (wK c8 ?_)))
  refine cIf e0 c (fun c9 c=>?_) fun c9 c=>?_
  ·refine wp_skip (c6 _ _ (sQ fun _ d0=>blockQ fun _ d1=>bE c fun e1 z c=>bE c fun e2 A c=>bE c fun I J c=>bE c fun e3 K c=>bE c fun e4 d2 c=>dR [0,0,3,7,0,0,0,96,224,0,992,2016,4095,8191] [13] 1 folM ?_))
   replace b:=b.drew
   refine Dn [0,1,2,3,4,5,6,7,8,9,10,11,12] [] [13] (yR rfl (m_ d.v (eh o)) (yR rfl (m_ (iV g) (eh m)) ?_))
   obtain ⟨e5,n⟩:=b.famI R1 z
   refine yR rfl (yIa SLH_25 e0 e0 b rO0 n) (yR rfl (yF1 O_31 e0 b rO0 n rfl) (yR rfl (m_ (iV i) (eh p)) (yR rfl (m_ d.v (eh o)) (yR rfl (m_ (iV i) (eh p)) ?_))))
   obtain ⟨e6,q⟩:=b.famI R1 A
   refine yR rfl (yIa SLH_25 e0 e0 b rO0 q) (yR rfl (yF1 O_31 e0 b rO0 q rfl) (yR rfl (m_ (iV g) (eh m)) (yR rfl (yIa SL_31 e0 e0 b (rdF R1 q A) J) ?_)))
   obtain ⟨e7,e8,cc135,b⟩:=b.ld (rdF R1 q A) J
   replace b:=b.eltP
   obtain ⟨e9,f0,rfl,b⟩:=b
   replace b:=b.eltB
   obtain ⟨rfl,b⟩:=b
   replace b:=b.eltS
   obtain ⟨L,rfl,b⟩:=b
   refine yR rfl (yCn (cs:=[.bool I.1,L.v]) ST_34 rfl e0 cc135) (yR rfl (yIs SL_31 e0 e0 b (rdF R1 n z) K) (Rn QSn ?_))
   refine Lc1 rfl ?_
   replace b:=b.k10
   refine LT wn (r_stn (cs:=[.bool I.1,L.v]) (b.foc n z) ST_34 e0 e0 rfl (mkP mkB (mkS F0)) K) fun w b=>?_
   replace b:=b.unfoc' n d2
   refine Dz [] [] (Rn QSn (d1 _ _ _ (d0 _ _ (wR (Ym (iV i) (eh p) (yY (yadd e0 rfl) (Ya (iV (wa .i64 i 1)) e0 (wN ?_))))))))
   cases c
   exact c4 _ _ _ rfl ⟨_,_,_,rfl,rfl,H,o,m,rfl,((b.k10).facts (allT allI))⟩
  ·refine wp_exit (c7 _ _ _ rfl ?_)
   cases c
   exact c5 _ _ _ _ rfl rfl (b9 _ _ _ H o m b (c3 _ rfl))
 ·refine wp_exit (a9 _ _ _ rfl ?_)
  cases k
  exact a7 _ _ _ _ rfl rfl (a1 _ _ _ F b (a5 _ rfl))
theorem sparsekit_Shuffle_ok {N:LI} {j:Int} {k:Hdr} {out:LI} (c:sparsekit_Shuffle N j=some out) (z:imm I1 k.v N∈ros) (b:St w0 ros rs w):
  Calls Tryd.prog 10 #[k.v,iV j] w (fun e w=>∃ (O:Hdr),e=.returned (O.v)∧St w0 ros (row 3 I1 O.v out::rs) w):=by
 refine enterQ Tryd.func10 rfl Tryd.ntmps10 rfl fun Q Z=>sR fun _ k1=>Ya hnil.v rfl (wK k1 (sR fun _ k2=>Ya hnil.v rfl (wK k2 (sQ fun _ a0=>sR fun _ a1=>?_))))
 refine Ya (iV 0) rfl (wK a1 (blockQ fun a3 a4=>bE c fun a5 a6 c=>?_))
 have a7:∀ (A:LI) (B:Hdr) (f:FV) w,f 0=k.v→f 1=iV j→f 5=B.v→St w0 ros (row 3 I1 B.v A::rs) w→A=a5→a3 (.exit 0) (fr 51 f) w:=by
  intro A B f w a8 a9 b0 b ho
  subst ho
  refine a4 _ _ _ (a0 _ _ (sR fun _ b1=>Ya hnil.v rfl (wK b1 (sQ fun _ b2=>sR fun _ b3=>Ya (iV 0) rfl (wK b3 (blockQ fun b4 b5=>?_))))))
  refine bE c fun b6 b7 c=>?_
  have b8:∀ (C:LI) (q:Hdr) (f:FV) w,f 7=q.v→St w0 ros (row 3 I1 q.v C::rs) w→C=b6→b4 (.exit 2) (fr 51 f) w:=by
   intro C q f w b9 b ho
   subst ho
   refine b5 _ _ _ (b2 _ _ (sR fun _ c0=>Ym q.v (eh b9) (Ya q.v e0 (wK c0 (wp_ret ?_)))))
   cases c
   exact Z _ _ _ (fin1r Tryd.results10 ⟨rfl,rfl⟩ ⟨_,rfl,b⟩)
  replace b:=b.rowNh 3 I1
  refine loopQ (fun s a w=>∃ (r t:LI) (g:Int) (f:FV) (i o:Hdr),(r,t,g)=s∧a=fr 51 f∧f 0=k.v∧f 1=iV j∧f 5=i.v∧f 7=o.v∧f 8=iV g∧St w0 ros (row 3 I1 i.v r::row 3 I1 o.v t::rs) w) b7 ⟨_,_,_,_,_,_,rfl,rfl,a8,a9,b0,rfl,rfl,(b.k10)⟩ ?_
  rintro _ _ w c1 ⟨r,t,g,f,i,o,rfl,rfl,x,D,E,F,u,b⟩ d c2 f9 c3 c4
  refine seqQ fun g0 c5 c6=>sR fun _ c7=>Ym (iV g) (eh u) (Ym (iV j) (eh D) (yY (ylss e0 e0) (wK c7 ?_)))
  refine cIf e0 d (fun c8 d=>?_) fun c8 d=>?_
  ·refine wp_skip (c5 _ _ (sQ fun _ c9=>blockQ fun _ d0=>sR fun _ d1=>Ya (iV 0) rfl (wK d1 (sQ fun d2 d3=>sR fun _ d4=>Ym (iV g) (eh u) (Ym k.v (eh x) ?_)))))
   refine yY (yLen SL_22 e0 b (rdI z)) (yY (ylss e0 e0) (wK d4 ?_))
   have R:∀ (p:Int) (f:FV) w,f 0=k.v→f 1=iV j→f 5=i.v→f 7=o.v→f 8=iV g→f 9=iV p→St w0 ros (row 3 I1 i.v r::row 3 I1 o.v t::rs) w→sparsekit_Shuffle_j5 r t g p=some c1→d2 .normal (fr 51 f) w:=by
    intro p f w d5 d6 G d7 d8 H b c
    refine d3 _ _ (sR fun _ d9=>Ym o.v (eh d7) (Ym i.v (eh G) (Ym (iV p) (eh H) (bE c fun I S c=>yY (yIa SL_22 e0 e0 b rO0 S) (yY (yI O_3 e0 b rO0 S) (yH (rLt (n:=1) (l:=[I]) b SL_22 [iV I] (bp1 e0) rfl rfl (mks1 (cs:=[iV I]) rfl mkI mks0)) fun g1 w b=>bE c fun g2 e1 c=>yH (rAp (b.k1f) SL_22 e0 e0 rO1 e1) fun e2 w b=>?_))))))
    refine Ya e2.v e0 (wK d9 (bE c fun g3 T c=>bE c fun g4 U c=>bE c fun g5 e3 c=>dR [0,0,3,0,0,16,56,127,255] [7,8] 2 folM ?_))
    replace b:=b.drew
    refine Dn [0,1,2,3,4,5,6] [] [7] (yR rfl (m_ i.v (eh G)) (yR rfl (m_ (iV p) (eh H)) (yR rfl (ySl (k1:=.i64) SL_22 e0 b rO2 (.inr ⟨rfl,rfl⟩) (.inl (congrArg some e0)) T) (yR rfl (m_ i.v (eh G)) (yR rfl (m_ (iV p) (eh H)) (yR rfl (yadd e0 rfl) (yR rfl (ySl (k2:=.i64) SL_22 e0 b rO2 (.inl (congrArg some e0)) (.inr ⟨rfl,rfl⟩) U) (Rn QSn ?_))))))))
    refine Lc1 rfl ?_
    replace b:=b.k1f
    refine LH wn (rAp2 b SL_22 e0 e0 T U e3) fun e4 w b=>Dn [] [] [8] (Rn QSn ?_)
    refine Lc1 rfl ?_
    refine Ly wn (a_ e4.v e0) (Dz [] [] (Rn QSn (d0 _ _ _ (c9 _ _ (wR (Ym (iV g) (eh d8) (yY (yadd e0 rfl) (Ya (iV (wa .i64 g 1)) e0 (wN ?_)))))))))
    cases c
    exact c3 _ _ _ rfl ⟨_,_,_,_,_,_,rfl,rfl,d5,d6,rfl,rfl,rfl,(b.k2e)⟩
   refine cIf e0 d (fun e5 d=>?_) fun e5 d=>?_
   ·refine wR (Ym k.v (eh x) (Ym (iV g) (eh u) (bE d fun g6 V d=>yY (yIa SL_22 e0 e0 b (rdI z) V) (yY (yI O_3 e0 b (rdI z) V) (Ym i.v (eh E) (yY (yLen SL_22 e0 b rO0) (bE d fun e6 e7 d=>yC (yCall FN_7 (a2 e0 e0)) (sparsekit_Place_ok e7 b) ?_)))))))
    rintro _ w ⟨rfl,b⟩
    refine ⟨_,rfl,?_⟩
    exact Ya (iV e6) e0 (wN (R _ _ _ x D E F u rfl b d))
   ·exact wp_skip (R _ _ _ x D E F u rfl b d)
  ·refine wp_exit (c6 _ _ _ rfl ?_)
   cases d
   exact c4 _ _ _ _ rfl rfl (b8 _ _ _ _ F (b.k12) (c2 _ rfl))
 replace b:=b.rowNh 3 I1
 refine loopQ (fun s a w=>∃ (J:LI) (h:Int) (f:FV) (y:Hdr),(J,h)=s∧a=fr 51 f∧f 0=k.v∧f 1=iV j∧f 5=y.v∧f 6=iV h∧St w0 ros (row 3 I1 y.v J::rs) w) a6 ⟨_,_,_,_,rfl,rfl,rfl,rfl,rfl,rfl,b⟩ ?_
 rintro _ _ w g7 ⟨J,h,f,y,rfl,rfl,W,K,X,L,b⟩ m e8 g8 e9 f0
 refine seqQ fun g9 f1 f2=>sR fun _ f3=>Ym (iV h) (eh L) (Ym (iV j) (eh K) (yY (ylss e0 e0) (wK f3 ?_)))
 refine cIf e0 m (fun f4 m=>?_) fun f4 m=>?_
 ·refine wp_skip (f1 _ _ (sQ fun _ f5=>blockQ fun _ f6=>wR (Ym y.v (eh X) (Ym (iV h) (eh L) (yH (rLt (n:=1) (l:=[h]) b SL_22 [iV h] (bp1 e0) rfl rfl (mks1 (cs:=[iV h]) rfl mkI mks0)) fun h0 w b=>bE m fun h1 f7 m=>yH (rAp (b.k10) SL_22 e0 e0 rO1 f7) fun f8 w b=>Ya f8.v e0 (wN ?_))))))
  refine f6 _ _ _ (f5 _ _ (wR (Ym (iV h) (eh L) (yY (yadd e0 rfl) (Ya (iV (wa .i64 h 1)) e0 (wN ?_))))))
  cases m
  exact e9 _ _ _ rfl ⟨_,_,_,_,rfl,rfl,W,K,rfl,rfl,(b.k11)⟩
 ·refine wp_exit (f2 _ _ _ rfl ?_)
  cases m
  exact f0 _ _ _ _ rfl rfl (a7 _ _ _ _ W K X b (e8 _ rfl))
theorem sparselaw08_ExactSylvester_ok {h7:LI} {d6 d7 d8 d9:Int} {h9:LI} {c1 e1:Hdr} {out:Bool} (h:sparselaw08_ExactSylvester h7 d6 d7 d8 d9 h9=some out) (O3:out=true) (i0:imm I1 c1.v h7∈ros) (u4:imm I1 e1.v h9∈ros) (b:St w0 ros rs w):
  Calls Tryd.prog 3 #[c1.v,iV d6,iV d7,iV d8,iV d9,e1.v] w (fun e w=>e=.returned (.bool out)∧St w0 ros rs w):=by
 refine enterQ Tryd.func3 rfl Tryd.ntmps3 rfl fun Q e2=>sR fun _ u5=>Ya (.bool false) rfl (wK u5 (seqQ fun O4 u6 u7=>sR fun _ u8=>Ym c1.v e0 (yY (yLen SL_22 e0 b (rdI i0)) (yY (ygtr e0 rfl) (wK u8 ?_)))))
 refine cIf e0 h (fun u9 h=>?_) fun u9 h=>?_
 ·refine sR fun _ v0=>bE h fun v1 v2 h=>yC (yCall FN_6 a0) (sparselaw08_awake_ok v2 b) ?_
  rintro _ w ⟨rfl,b⟩
  refine ⟨_,rfl,?_⟩
  refine Ya (.bool v1) e0 (wK v0 (wp_ret (u7 _ _ _ rfl ?_)))
  cases h
  exact e2 _ _ _ (fin1r Tryd.results3 ⟨rfl,rfl⟩ ⟨rfl,b⟩)
 ·refine wp_skip (u6 _ _ (sR fun _ v3=>Ym (iV d6) e0 (bE h fun i v4 h=>yC (yCall FN_7 (a2 e0 rfl)) (sparsekit_Place_ok v4 b) ?_)))
  rintro _ w ⟨rfl,b⟩
  refine ⟨_,rfl,?_⟩
  refine yY (yadd rfl e0) (Ya (iV (wa .i64 1 i)) e0 (wK v3 (sR fun _ v5=>Ym c1.v e0 (Ym (iV (wa .i64 1 i)) e0 (bE h fun e3 v6 h=>yC (yCall FN_8 (a2 e0 e0)) (sparselaw08_even_ok v6 i0 b) ?_)))))
  rintro _ w ⟨N,O5,rfl,b⟩
  refine ⟨_,rfl,?_⟩
  refine Ya N.v e0 (wK v5 (sR fun _ v7=>Ym N.v e0 (bE h fun c v8 h=>?_)))
  replace b:=b.ffz
  refine yC (yCall FN_9 (a1 e0)) (exact_Inertia_ok v8 F0 b) ?_
  rintro _ w ⟨rfl,b⟩
  refine ⟨_,rfl,?_⟩
  refine Ym (.tuple #[iV c.1,iV c.2.1,iV c.2.2.1,iV c.2.2.2]) e0 (yY (x_ (iV c.1) e0) (yY (x_ (iV c.2.1) e0) (yY (x_ (iV c.2.2.1) e0) (yY (x_ (iV c.2.2.2) e0) (Ya (iV c.1) e0 (Ya (iV c.2.1) e0 (Ya (iV c.2.2.1) e0 (Ya (iV c.2.2.2) e0 (wK v7 (sR fun _ v9=>Ym (iV d7) e0 ?_))))))))))
  refine Ym (iV (wa .i64 1 i)) e0 (bE h fun o w1 h=>yC (yCall FN_7 (a2 e0 e0)) (sparsekit_Place_ok w1 b) ?_)
  rintro _ w ⟨rfl,b⟩
  refine ⟨_,rfl,?_⟩
  refine Ym (iV d8) e0 (Ym (iV (wa .i64 1 i)) e0 (bE h fun x w2 h=>yC (yCall FN_7 (a2 e0 e0)) (sparsekit_Place_ok w2 b) ?_))
  rintro _ w ⟨rfl,b⟩
  refine ⟨_,rfl,?_⟩
  refine Ym (iV d9) e0 (bE h fun O w3 h=>yC (yCall FN_7 (a2 e0 rfl)) (sparsekit_Place_ok w3 b) ?_)
  rintro _ w ⟨rfl,b⟩
  refine ⟨_,rfl,?_⟩
  refine yY (ysub e0 rfl) (Ya (iV o) e0 (Ya (iV x) e0 (Ya (iV (ws .i64 O 5)) e0 (wK v9 (sR fun _ w4=>Ym e1.v e0 (Ym (iV (wa .i64 1 i)) e0 (bE h fun e4 w5 h=>yC (yCall FN_10 (a2 e0 e0)) (sparsekit_Shuffle_ok w5 (mtF u4) b) ?_)))))))
  rintro _ w ⟨U,rfl,b⟩
  refine ⟨_,rfl,?_⟩
  refine Ya U.v e0 (wK w4 (sR fun _ w6=>Ya hnil.v rfl (Ya hnil.v rfl (wK w6 (sQ fun _ w7=>sR fun _ w8=>Ya (iV 0) rfl (wN ?_))))))
  refine w8 _ _ (blockQ fun w9 x0=>bE h fun x2 x8 h=>?_)
  have x9:∀ (e5:List (List (Bool×LI))) (V:List (List (Bool×LI))) (j:Hdr) (y:List Hdr) (u:Hdr) (z:List Hdr) (f:FV) w,f 1=iV (wa .i64 1 i)→f 2=iV o→f 3=iV x→f 4=iV (ws .i64 O 5)→f 14=iV c.1→f 15=iV c.2.1→f 16=iV c.2.2.1→f 17=iV c.2.2.2→f 19=j.v→f 20=u.v→St w0 ros (row 31 rH j.v y::fam 34 (rP rB (rS (rI .u32))) y e5::row 31 rH u.v z::fam 34 (rP rB (rS (rI .u32))) z V::rs) w→(e5,V)=x2→w9 (.exit 0) (fr 234 f) w:=by
   intro e5 V j y u z f w i1 i2 i3 y0 i4 i5 i6 i7 i8 i9 b ho
   subst ho
   refine x0 _ _ _ (w7 _ _ (sQ fun y1 y2=>sR fun _ y3=>Ym (iV o) (eh i2) (Ym (iV x) (eh i3) (yY (yneq e0 e0) (wK y3 ?_)))))
   have j0:∀ (e6:List (List (Bool×LI))) (f:FV) w,f 1=iV (wa .i64 1 i)→f 14=iV c.1→f 15=iV c.2.1→f 16=iV c.2.2.1→f 17=iV c.2.2.2→f 19=j.v→f 20=u.v→St w0 ros (row 31 rH j.v y::fam 34 (rP rB (rS (rI .u32))) y e6::row 31 rH u.v z::fam 34 (rP rB (rS (rI .u32))) z V::rs) w→sparselaw08_ExactSylvester_j6 V c i e6=some out→y1 .normal (fr 234 f) w:=by
    intro e6 f w j1 j2 j3 j4 y4 y5 y6 b h
    refine y2 _ _ (sR fun _ y7=>Ym j.v (eh y5) (bE h fun g y8 h=>?_))
    replace b:=b.ffz
    refine yC (yCall FN_9 (a1 e0)) (exact_Inertia_ok y8 F0 b) ?_
    rintro _ w ⟨rfl,b⟩
    refine ⟨_,rfl,?_⟩
    refine Ym (.tuple #[iV g.1,iV g.2.1,iV g.2.2.1,iV g.2.2.2]) e0 (yY (x_ (iV g.1) e0) (yY (x_ (iV g.2.1) e0) (yY (x_ (iV g.2.2.1) e0) (yY (x_ (iV g.2.2.2) e0) (Ya (iV g.1) e0 (Ya (iV g.2.1) e0 (Ya (iV g.2.2.1) e0 (Ya (iV g.2.2.2) e0 (wK y7 (sR fun _ y9=>Ym u.v (eh y6) ?_))))))))))
    refine bE h fun d z0 h=>?_
    replace b:=b.ffz
    refine yC (yCall FN_9 (a1 e0)) (exact_Inertia_ok z0 F0 b) ?_
    rintro _ w ⟨rfl,b⟩
    refine ⟨_,rfl,?_⟩
    refine Ym (.tuple #[iV d.1,iV d.2.1,iV d.2.2.1,iV d.2.2.2]) e0 (yY (x_ (iV d.1) e0) (yY (x_ (iV d.2.1) e0) (yY (x_ (iV d.2.2.1) e0) (yY (x_ (iV d.2.2.2) e0) (Ya (iV d.1) e0 (Ya (iV d.2.1) e0 (Ya (iV d.2.2.1) e0 (Ya (iV d.2.2.2) e0 (wK y9 (seqQ fun O6 z1 z3=>sR fun _ z4=>?_))))))))))
    refine Ym (iV c.2.2.2) (eh y4) (yY (yneq e0 rfl) (Ym (.bool (!(decide (c.2.2.2=0)))) e0 ?_))
    refine joinW 3 (fun f w=>f 1=iV (wa .i64 1 i)∧f 14=iV c.1∧f 15=iV c.2.1∧f 16=iV c.2.2.1∧f 27=iV g.1∧f 28=iV g.2.1∧f 29=iV g.2.2.1∧f 31=iV d.1∧f 32=iV d.2.1∧f 33=iV d.2.2.1∧f 34=iV d.2.2.2∧f 189=.bool ((!(decide (c.2.2.2=0))) || (!(decide (g.2.2.2=0))))∧St w0 ros rs w) (fun j5=>?_) ?_
    ·rcases Bool.eq_false_or_eq_true (!(decide (c.2.2.2=0))) with W | W
     ·exact gN W (gN W (yY (pt_ (.bool true) e0 W rfl) (j5 _ _ ⟨j1,j2,j3,j4,rfl,rfl,rfl,rfl,rfl,rfl,rfl,(congrArg Value.bool (orT W)),(b.facts (allT (allT allI)))⟩)))
     ·exact yG W (m_ (iV g.2.2.2) e0) (yG W (yneq e0 rfl) (yY (pf_ (.bool (!(decide (g.2.2.2=0)))) e0 W e0) (j5 _ _ ⟨j1,j2,j3,j4,rfl,rfl,rfl,rfl,rfl,rfl,rfl,(congrArg Value.bool (orF W)),(b.facts (allT (allT allI)))⟩)))
    rintro f w ⟨k0,l0,l1,l2,l3,l4,l5,l6,l7,l8,z5,z6,b⟩
    refine Ym (.bool ((!(decide (c.2.2.2=0))) || (!(decide (g.2.2.2=0))))) (eh z6) ?_
    refine joinW 3 (fun f w=>f 1=iV (wa .i64 1 i)∧f 14=iV c.1∧f 15=iV c.2.1∧f 16=iV c.2.2.1∧f 27=iV g.1∧f 28=iV g.2.1∧f 29=iV g.2.2.1∧f 31=iV d.1∧f 32=iV d.2.1∧f 33=iV d.2.2.1∧f 193=.bool (((!(decide (c.2.2.2=0))) || (!(decide (g.2.2.2=0)))) || (!(decide (d.2.2.2=0))))∧St w0 ros rs w) (fun l9=>?_) ?_
    ·rcases Bool.eq_false_or_eq_true ((!(decide (c.2.2.2=0))) || (!(decide (g.2.2.2=0)))) with X | X
     ·exact gN X (gN X (yY (pt_ (.bool true) e0 X rfl) (l9 _ _ ⟨k0,l0,l1,l2,l3,l4,l5,l6,l7,l8,(congrArg Value.bool (orT X)),b⟩)))
     ·exact yG X (m_ (iV d.2.2.2) (eh z5)) (yG X (yneq e0 rfl) (yY (pf_ (.bool (!(decide (d.2.2.2=0)))) e0 X e0) (l9 _ _ ⟨k0,l0,l1,l2,l3,l4,l5,l6,l7,l8,(congrArg Value.bool (orF X)),b⟩)))
    rintro f w ⟨z7,e7,e8,e9,m0,m1,m2,m3,m4,m5,z8,b⟩
    refine Ym (.bool (((!(decide (c.2.2.2=0))) || (!(decide (g.2.2.2=0)))) || (!(decide (d.2.2.2=0))))) (eh z8) ?_
    refine joinW 8 (fun f w=>f 14=iV c.1∧f 15=iV c.2.1∧f 16=iV c.2.2.1∧f 27=iV g.1∧f 28=iV g.2.1∧f 29=iV g.2.2.1∧f 31=iV d.1∧f 32=iV d.2.1∧f 33=iV d.2.2.1∧f 202=.bool ((((!(decide (c.2.2.2=0))) || (!(decide (g.2.2.2=0)))) || (!(decide (d.2.2.2=0)))) || (!(decide ((wa .i64 (wa .i64 c.1 c.2.1) c.2.2.1)=(wa .i64 1 i)))))∧St w0 ros rs w) (fun m6=>?_) ?_
    ·rcases Bool.eq_false_or_eq_true (((!(decide (c.2.2.2=0))) || (!(decide (g.2.2.2=0)))) || (!(decide (d.2.2.2=0)))) with q | q
     ·exact gN q (gN q (gN q (gN q (gN q (gN q (gN q (yY (pt_ (.bool true) e0 q rfl) (m6 _ _ ⟨e7,e8,e9,m0,m1,m2,m3,m4,m5,(congrArg Value.bool (orT q)),b⟩))))))))
     ·exact yG q (m_ (iV c.1) (eh e7)) (yG q (m_ (iV c.2.1) (eh e8)) (yG q (yadd e0 e0) (yG q (m_ (iV c.2.2.1) (eh e9)) (yG q (yadd e0 e0) (yG q (m_ (iV (wa .i64 1 i)) (eh z7)) (yG q (yneq e0 e0) (yY (pf_ (.bool (!(decide ((wa .i64 (wa .i64 c.1 c.2.1) c.2.2.1)=(wa .i64 1 i))))) e0 q e0) (m6 _ _ ⟨e7,e8,e9,m0,m1,m2,m3,m4,m5,(congrArg Value.bool (orF q)),b⟩))))))))
    rintro f w ⟨f0,m7,m8,z9,m9,n0,n1,n2,n4,A0,b⟩
    refine Ym (.bool ((((!(decide (c.2.2.2=0))) || (!(decide (g.2.2.2=0)))) || (!(decide (d.2.2.2=0)))) || (!(decide ((wa .i64 (wa .i64 c.1 c.2.1) c.2.2.1)=(wa .i64 1 i)))))) (eh A0) ?_
    refine joinW 4 (fun f w=>f 14=iV c.1∧f 15=iV c.2.1∧f 16=iV c.2.2.1∧f 28=iV g.2.1∧f 29=iV g.2.2.1∧f 31=iV d.1∧f 32=iV d.2.1∧f 33=iV d.2.2.1∧f 207=.bool (((((!(decide (c.2.2.2=0))) || (!(decide (g.2.2.2=0)))) || (!(decide (d.2.2.2=0)))) || (!(decide ((wa .i64 (wa .i64 c.1 c.2.1) c.2.2.1)=(wa .i64 1 i))))) || (!(decide (g.1=c.1))))∧St w0 ros rs w) (fun n5=>?_) ?_
    ·rcases Bool.eq_false_or_eq_true ((((!(decide (c.2.2.2=0))) || (!(decide (g.2.2.2=0)))) || (!(decide (d.2.2.2=0)))) || (!(decide ((wa .i64 (wa .i64 c.1 c.2.1) c.2.2.1)=(wa .i64 1 i))))) with A | A
     ·exact gN A (gN A (gN A (yY (pt_ (.bool true) e0 A rfl) (n5 _ _ ⟨f0,m7,m8,m9,n0,n1,n2,n4,(congrArg Value.bool (orT A)),b⟩))))
     ·exact yG A (m_ (iV g.1) (eh z9)) (yG A (m_ (iV c.1) (eh f0)) (yG A (yneq e0 e0) (yY (pf_ (.bool (!(decide (g.1=c.1)))) e0 A e0) (n5 _ _ ⟨f0,m7,m8,m9,n0,n1,n2,n4,(congrArg Value.bool (orF A)),b⟩))))
    rintro f w ⟨n6,f1,n7,A1,n8,n9,o0,o1,A2,b⟩
    refine Ym (.bool (((((!(decide (c.2.2.2=0))) || (!(decide (g.2.2.2=0)))) || (!(decide (d.2.2.2=0)))) || (!(decide ((wa .i64 (wa .i64 c.1 c.2.1) c.2.2.1)=(wa .i64 1 i))))) || (!(decide (g.1=c.1))))) (eh A2) ?_
    refine joinW 4 (fun f w=>f 14=iV c.1∧f 15=iV c.2.1∧f 16=iV c.2.2.1∧f 29=iV g.2.2.1∧f 31=iV d.1∧f 32=iV d.2.1∧f 33=iV d.2.2.1∧f 212=.bool ((((((!(decide (c.2.2.2=0))) || (!(decide (g.2.2.2=0)))) || (!(decide (d.2.2.2=0)))) || (!(decide ((wa .i64 (wa .i64 c.1 c.2.1) c.2.2.1)=(wa .i64 1 i))))) || (!(decide (g.1=c.1)))) || (!(decide (g.2.1=c.2.1))))∧St w0 ros rs w) (fun o2=>?_) ?_
    ·rcases Bool.eq_false_or_eq_true (((((!(decide (c.2.2.2=0))) || (!(decide (g.2.2.2=0)))) || (!(decide (d.2.2.2=0)))) || (!(decide ((wa .i64 (wa .i64 c.1 c.2.1) c.2.2.1)=(wa .i64 1 i))))) || (!(decide (g.1=c.1)))) with B | B
     ·exact gN B (gN B (gN B (yY (pt_ (.bool true) e0 B rfl) (o2 _ _ ⟨n6,f1,n7,n8,n9,o0,o1,(congrArg Value.bool (orT B)),b⟩))))
     ·exact yG B (m_ (iV g.2.1) (eh A1)) (yG B (m_ (iV c.2.1) (eh f1)) (yG B (yneq e0 e0) (yY (pf_ (.bool (!(decide (g.2.1=c.2.1)))) e0 B e0) (o2 _ _ ⟨n6,f1,n7,n8,n9,o0,o1,(congrArg Value.bool (orF B)),b⟩))))
    rintro f w ⟨o4,o5,f2,A3,o6,o7,o8,A4,b⟩
    refine Ym (.bool ((((((!(decide (c.2.2.2=0))) || (!(decide (g.2.2.2=0)))) || (!(decide (d.2.2.2=0)))) || (!(decide ((wa .i64 (wa .i64 c.1 c.2.1) c.2.2.1)=(wa .i64 1 i))))) || (!(decide (g.1=c.1)))) || (!(decide (g.2.1=c.2.1))))) (eh A4) ?_
    refine joinW 4 (fun f w=>f 14=iV c.1∧f 15=iV c.2.1∧f 16=iV c.2.2.1∧f 31=iV d.1∧f 32=iV d.2.1∧f 33=iV d.2.2.1∧f 217=.bool (((((((!(decide (c.2.2.2=0))) || (!(decide (g.2.2.2=0)))) || (!(decide (d.2.2.2=0)))) || (!(decide ((wa .i64 (wa .i64 c.1 c.2.1) c.2.2.1)=(wa .i64 1 i))))) || (!(decide (g.1=c.1)))) || (!(decide (g.2.1=c.2.1)))) || (!(decide (g.2.2.1=c.2.2.1))))∧St w0 ros rs w) (fun o9=>?_) ?_
    ·rcases Bool.eq_false_or_eq_true ((((((!(decide (c.2.2.2=0))) || (!(decide (g.2.2.2=0)))) || (!(decide (d.2.2.2=0)))) || (!(decide ((wa .i64 (wa .i64 c.1 c.2.1) c.2.2.1)=(wa .i64 1 i))))) || (!(decide (g.1=c.1)))) || (!(decide (g.2.1=c.2.1)))) with C | C
     ·exact gN C (gN C (gN C (yY (pt_ (.bool true) e0 C rfl) (o9 _ _ ⟨o4,o5,f2,o6,o7,o8,(congrArg Value.bool (orT C)),b⟩))))
     ·exact yG C (m_ (iV g.2.2.1) (eh A3)) (yG C (m_ (iV c.2.2.1) (eh f2)) (yG C (yneq e0 e0) (yY (pf_ (.bool (!(decide (g.2.2.1=c.2.2.1)))) e0 C e0) (o9 _ _ ⟨o4,o5,f2,o6,o7,o8,(congrArg Value.bool (orF C)),b⟩))))
    rintro f w ⟨p0,A5,A6,A7,A8,p1,A9,b⟩
    refine wK z4 (cB (eh A9) h (fun B0 h=>?_) fun B0 h=>?_)
    ·refine sR fun _ B1=>Ya (.bool false) rfl (wK B1 (wp_ret (z3 _ _ _ rfl ?_)))
     cases h
     exact e2 _ _ _ (fin1r Tryd.results3 ⟨rfl,rfl⟩ ⟨rfl,b⟩)
    ·refine wp_skip (z1 _ _ (sR fun _ B2=>Ym (iV d.1) (eh A7) (Ym (iV c.2.2.1) (eh A6) (yY (yeql e0 e0) (Ym (.bool (decide (d.1=c.2.2.1))) e0 ?_)))))
     refine joinW 4 (fun f w=>f 14=iV c.1∧f 33=iV d.2.2.1∧f 225=.bool ((decide (d.1=c.2.2.1)) && (decide (d.2.1=c.2.1)))∧St w0 ros rs w) (fun p2=>?_) ?_
     ·rcases Bool.eq_false_or_eq_true (decide (d.1=c.2.2.1)) with D | D
      ·exact yG D (m_ (iV d.2.1) (eh A8)) (yG D (m_ (iV c.2.1) (eh A5)) (yG D (yeql e0 e0) (yY (pt_ (.bool (decide (d.2.1=c.2.1))) e0 D e0) (p2 _ _ ⟨p0,p1,(congrArg Value.bool (andT D)),b⟩))))
      ·exact gN D (gN D (gN D (yY (pf_ (.bool false) e0 D rfl) (p2 _ _ ⟨p0,p1,(congrArg Value.bool (andF D)),b⟩))))
     rintro f w ⟨B3,B4,B5,b⟩
     refine Ym (.bool ((decide (d.1=c.2.2.1)) && (decide (d.2.1=c.2.1)))) (eh B5) ?_
     refine joinW 4 (fun f w=>f 230=.bool (((decide (d.1=c.2.2.1)) && (decide (d.2.1=c.2.1))) && (decide (d.2.2.1=c.1)))∧St w0 ros rs w) (fun p3=>?_) ?_
     ·rcases Bool.eq_false_or_eq_true ((decide (d.1=c.2.2.1)) && (decide (d.2.1=c.2.1))) with E | E
      ·exact yG E (m_ (iV d.2.2.1) (eh B4)) (yG E (m_ (iV c.1) (eh B3)) (yG E (yeql e0 e0) (yY (pt_ (.bool (decide (d.2.2.1=c.1))) e0 E e0) (p3 _ _ ⟨(congrArg Value.bool (andT E)),b⟩))))
      ·exact gN E (gN E (gN E (yY (pf_ (.bool false) e0 E rfl) (p3 _ _ ⟨(congrArg Value.bool (andF E)),b⟩))))
     rintro f w ⟨B6,b⟩
     refine Ym (.bool (((decide (d.1=c.2.2.1)) && (decide (d.2.1=c.2.1))) && (decide (d.2.2.1=c.1)))) (eh B6) (bE h fun p4 a7 h=>?_)
     refine joinW 2 (fun f w=>f 233=.bool p4∧St w0 ros rs w) (fun p5=>?_) ?_
     ·rcases iteS a7 with ⟨b4,a7⟩ | ⟨b4,a7⟩
      ·refine bE a7 fun B7 B8 a7=>Yc (wG b4) rfl (yCall FN_6 a0) (sparselaw08_awake_ok B8 b) ?_
       rintro _ w ⟨rfl,b⟩
       refine ⟨_,rfl,?_⟩
       refine yY (pt_ (.bool B7) e0 b4 e0) ?_
       cases a7
       exact p5 _ _ ⟨rfl,b⟩
      ·refine gN (bfalse b4) (yY (pf_ (.bool false) e0 (bfalse b4) rfl) ?_)
       cases a7
       exact p5 _ _ ⟨rfl,b⟩
     rintro f w ⟨B9,b⟩
     refine Ya (.bool p4) (eh B9) (wK B2 (wp_ret ?_))
     cases h
     exact e2 _ _ _ (fin1r Tryd.results3 ⟨rfl,rfl⟩ ⟨rfl,b⟩)
   rcases iteS h with ⟨f3,h⟩ | ⟨f3,h⟩
   ·exact condF e0 (nF (dT f3)) (wp_skip (j0 _ _ _ i1 i4 i5 i6 i7 i8 i9 b h))
   ·refine condT e0 (nT (dF f3)) (sQ fun _ C0=>sR fun _ C1=>Ya (iV 0) rfl (wK C1 (blockQ fun C2 C3=>bE h fun C4 C5 h=>?_)))
    have C6:∀ (f4:List (List (Bool×LI))) (f:FV) w,f 1=iV (wa .i64 1 i)→f 2=iV o→f 3=iV x→f 4=iV (ws .i64 O 5)→f 14=iV c.1→f 15=iV c.2.1→f 16=iV c.2.2.1→f 17=iV c.2.2.2→f 19=j.v→f 20=u.v→St w0 ros (row 31 rH j.v y::fam 34 (rP rB (rS (rI .u32))) y f4::row 31 rH u.v z::fam 34 (rP rB (rS (rI .u32))) z V::rs) w→f4=C4→C2 (.exit 4) (fr 234 f) w:=by
     intro f4 f w C7 C8 C9 D0 D1 D2 D3 D4 D5 D6 b ho
     subst ho
     refine C3 _ _ _ (C0 _ _ (sR fun _ D7=>Ya (iV 0) rfl (wK D7 (blockQ fun D8 D9=>bE h fun E0 E1 h=>?_))))
     have E2:∀ (f5:List (List (Bool×LI))) (f:FV) w,f 1=iV (wa .i64 1 i)→f 14=iV c.1→f 15=iV c.2.1→f 16=iV c.2.2.1→f 17=iV c.2.2.2→f 19=j.v→f 20=u.v→St w0 ros (row 31 rH j.v y::fam 34 (rP rB (rS (rI .u32))) y f5::row 31 rH u.v z::fam 34 (rP rB (rS (rI .u32))) z V::rs) w→f5=E0→D8 (.exit 6) (fr 234 f) w:=by
      intro f5 f w E3 E4 E5 E6 E7 E8 E9 b ho
      subst ho
      exact D9 _ _ _ (j0 _ _ _ E3 E4 E5 E6 E7 E8 E9 b h)
     refine loopQ (fun s a w=>∃ (f6:List (List (Bool×LI))) (r:Int) (f:FV),(f6,r)=s∧a=fr 234 f∧f 1=iV (wa .i64 1 i)∧f 2=iV o∧f 3=iV x∧f 4=iV (ws .i64 O 5)∧f 14=iV c.1∧f 15=iV c.2.1∧f 16=iV c.2.2.1∧f 17=iV c.2.2.2∧f 19=j.v∧f 20=u.v∧f 26=iV r∧St w0 ros (row 31 rH j.v y::fam 34 (rP rB (rS (rI .u32))) y f6::row 31 rH u.v z::fam 34 (rP rB (rS (rI .u32))) z V::rs) w) E1 ⟨_,_,_,rfl,rfl,C7,C8,C9,D0,D1,D2,D3,D4,D5,D6,rfl,b⟩ ?_
     rintro _ _ w O7 ⟨f6,r,f,rfl,rfl,f7,a3,f8,p6,p7,p8,p9,q0,F,q3,G,b⟩ k F2 O8 F5 F6
     refine seqQ fun O9 F7 F8=>sR fun _ G0=>Ym (iV r) (eh G) (Ym (iV (wa .i64 1 i)) (eh f7) (yY (ylss e0 e0) (wK G0 ?_)))
     refine cIf e0 k (fun G1 k=>?_) fun G1 k=>?_
     ·refine wp_skip (F7 _ _ (sQ fun _ G2=>blockQ fun _ G3=>bE k fun P0 f9 k=>bE k fun P1 b5 k=>bE k fun g0 c2 k=>bE k fun P2 G4 k=>bE k fun P3 c3 k=>bE k fun q4 g1 k=>bE k fun P4 G5 k=>bE k fun G6 G7 k=>bE k fun P5 q5 k=>bE k fun P6 G8 k=>?_))
      refine dR [0,0,3,7,0,0,0,96,224,0,992,2016,0,4096,0,0,49152,114688,0,507904,1032192,2093056,4194272,8388607,16777215] [13,21,22,24] 4 folM ?_
      replace b:=b.drew
      refine Dn [0,1,2,3,4,5,6,7,8,9,10,11,12,14,15,16,17,18,19,20] [] [13] (yR rfl (m_ j.v (eh F)) (yR rfl (m_ (iV r) (eh G)) ?_))
      obtain ⟨P7,H⟩:=b.famI R1 f9
      refine yR rfl (yIa SLH_25 e0 e0 b rO0 H) (yR rfl (yF1 O_31 e0 b rO0 H rfl) (yR rfl (m_ (iV o) (eh a3)) (yR rfl (m_ j.v (eh F)) (yR rfl (m_ (iV r) (eh G)) ?_))))
      obtain ⟨P8,R⟩:=b.famI R1 b5
      refine yR rfl (yIa SLH_25 e0 e0 b rO0 R) (yR rfl (yF1 O_31 e0 b rO0 R rfl) (yR rfl (m_ (iV o) (eh a3)) (yR rfl (yIa SL_31 e0 e0 b (rdF R1 R b5) c2) ?_)))
      replace b:=(b.k10).pin0
      obtain ⟨P9,b⟩:=St.pinF R b5 b c2
      obtain ⟨Q0,Q1,rfl,b⟩:=b.eltP
      obtain ⟨rfl,b⟩:=b.eltB
      obtain ⟨g2,rfl,b⟩:=b.eltS
      refine yR rfl (yCn (cs:=[.bool g0.1,g2.v]) ST_34 rfl e0 (b.cAtP R0 mhP)) (yR rfl (m_ (iV (ws .i64 O 5)) (eh p6)) (yR rfl (m_ j.v (eh F)) (yR rfl (m_ (iV r) (eh G)) ?_)))
      obtain ⟨Q3,a8⟩:=b.famIP R0 c3
      refine yR rfl (yIa SLH_25 e0 e0 b rO1 a8) (yR rfl (yF1 O_31 e0 b rO1 a8 rfl) (yR rfl (m_ (iV x) (eh f8)) (yR rfl (yIa SL_31 e0 e0 b (rdFP R0 a8 c3) g1) ?_)))
      obtain ⟨Q4,b⟩:=St.pinF a8 c3 b g1
      obtain ⟨Q5,Q6,rfl,b⟩:=b.eltP
      obtain ⟨rfl,b⟩:=b.eltB
      obtain ⟨q6,rfl,b⟩:=b.eltS
      refine yR rfl (yCn (cs:=[.bool q4.1,q6.v]) ST_34 rfl e0 (b.cAtP R0 mhP)) (Rn QSn ?_)
      refine Lc1 rfl ?_
      refine Lk wn (yCall FN_14 (a1 e0)) (sparselaw08_num_ok G4 b) ?_
      rintro _ w ⟨Q7,rfl,b⟩
      refine ⟨_,rfl,?_⟩
      refine Dn [] [0,1,2,3,4,5,6,7,8,9,10,11,14,15,16,17,18,19,20] [21] (Rn (yS rfl (m_ j.v (eh F)) (yS rfl (m_ (iV r) (eh G)) (yS rfl (yIa SLH_25 e0 e0 b rO2 H) (yS rfl (yF1 O_31 e0 b rO2 H rfl) (yS rfl (m_ (iV o) (eh a3)) (yS rfl (m_ j.v (eh F)) (yS rfl (m_ (iV r) (eh G)) (yS rfl (yIa SLH_25 e0 e0 b rO2 R) (yS rfl (yF1 O_31 e0 b rO2 R rfl) (yS rfl (m_ (iV o) (eh a3)) (yS rfl (yIa SL_31 e0 e0 b (rdFP R1 R b5) c2) (yS rfl (yCn (cs:=[.bool g0.1,g2.v]) ST_34 rfl e0 (b.cAtP R1 (mtP mhP))) (yS rfl (m_ j.v (eh F)) (yS rfl (m_ (iV r) (eh G)) (yS rfl (yIa SLH_25 e0 e0 b rO2 a8) (yS rfl (yF1 O_31 e0 b rO2 a8 rfl) (yS rfl (m_ (iV x) (eh f8)) (yS rfl (yIa SL_31 e0 e0 b (rdFP R1 a8 c3) g1) (yS rfl (yCn (cs:=[.bool q4.1,q6.v]) ST_34 rfl e0 (b.cAtP R1 mhP)) QSn))))))))))))))))))) ?_)
      refine Lc1 rfl ?_
      replace b:=b.fz
      refine Lk wn (yCall FN_13 (a2 e0 e0)) (integer_Mul_ok G5 F0 F1 b) ?_
      rintro _ w ⟨Q8,rfl,b⟩
      refine ⟨_,rfl,?_⟩
      refine Dn [] [0,1,2,3,4,5,6,7,8,9,10,11] [22] (Rn (yS rfl (m_ j.v (eh F)) (yS rfl (m_ (iV r) (eh G)) (yS rfl (yIa SLH_25 e0 e0 b rO1 H) (yS rfl (yF1 O_31 e0 b rO1 H rfl) (yS rfl (m_ (iV o) (eh a3)) (yS rfl (m_ j.v (eh F)) (yS rfl (m_ (iV r) (eh G)) (yS rfl (yIa SLH_25 e0 e0 b rO1 R) (yS rfl (yF1 O_31 e0 b rO1 R rfl) (yS rfl (m_ (iV o) (eh a3)) (yS rfl (yIa SL_31 e0 e0 b (rdFP R0 R b5) c2) (yS rfl (yCn (cs:=[.bool g0.1,g2.v]) ST_34 rfl e0 (b.cAtP R0 (mtP mhP))) QSn)))))))))))) ?_)
      refine Lc1 rfl ?_
      refine Lk wn (yCall FN_12 (a2 e0 e0)) (integer_Add_ok G7 F3 F0 b) ?_
      rintro _ w ⟨G9,rfl,b⟩
      refine ⟨_,rfl,?_⟩
      refine Dn [23] [0,1,2,3,4] [24] (yR rfl (yIs SL_31 e0 e0 b (rdFP R0 H f9) q5) (Rn (yS rfl (m_ j.v (eh F)) (yS rfl (m_ (iV r) (eh G)) (yS rfl (yIa SLH_25 e0 e0 b rO1 H) (yS rfl (yF1 O_31 e0 b rO1 H rfl) (yS rfl (m_ (iV o) (eh a3)) QSn))))) ?_))
      refine Lc1 rfl ?_
      replace b:=b.unpin
      refine LT wn (r_stn (cs:=[.bool G6.1,G9.v]) (b.foc H f9) ST_34 e0 e0 rfl (mkP mkB (mkS F0)) q5) fun w b=>?_
      replace b:=b.unfoc' H G8
      refine Dz [] [] (Rn QSn (G3 _ _ _ (G2 _ _ (wR (Ym (iV r) (eh G) (yY (yadd e0 rfl) (Ya (iV (wa .i64 r 1)) e0 (wN ?_))))))))
      cases k
      exact F5 _ _ _ rfl ⟨_,_,_,rfl,rfl,f7,a3,f8,p6,p7,p8,p9,q0,F,q3,rfl,((b.k2f).facts (allT (allT (allT (allT (allT allI))))))⟩
     ·refine wp_exit (F8 _ _ _ rfl ?_)
      cases k
      exact F6 _ _ _ _ rfl rfl (E2 _ _ _ f7 p7 p8 p9 q0 F q3 b (F2 _ rfl))
    refine loopQ (fun s a w=>∃ (g3:List (List (Bool×LI))) (t:Int) (f:FV),(g3,t)=s∧a=fr 234 f∧f 1=iV (wa .i64 1 i)∧f 2=iV o∧f 3=iV x∧f 4=iV (ws .i64 O 5)∧f 14=iV c.1∧f 15=iV c.2.1∧f 16=iV c.2.2.1∧f 17=iV c.2.2.2∧f 19=j.v∧f 20=u.v∧f 25=iV t∧St w0 ros (row 31 rH j.v y::fam 34 (rP rB (rS (rI .u32))) y g3::row 31 rH u.v z::fam 34 (rP rB (rS (rI .u32))) z V::rs) w) C5 ⟨_,_,_,rfl,rfl,i1,i2,i3,y0,i4,i5,i6,i7,i8,i9,rfl,b⟩ ?_
    rintro _ _ w Q9 ⟨g3,t,f,rfl,rfl,g4,Z,c4,g5,q7,q8,q9,r0,I,r1,J,b⟩ m H0 R2 H1 H2
    refine seqQ fun R4 H3 H4=>sR fun _ H5=>Ym (iV t) (eh J) (Ym (iV (wa .i64 1 i)) (eh g4) (yY (ylss e0 e0) (wK H5 ?_)))
    refine cIf e0 m (fun H6 m=>?_) fun H6 m=>?_
    ·refine wp_skip (H3 _ _ (sQ fun _ H7=>blockQ fun _ H8=>bE m fun R5 g6 m=>bE m fun R7 b6 m=>bE m fun g7 c5 m=>bE m fun R8 H9 m=>bE m fun R9 c6 m=>bE m fun r2 g8 m=>bE m fun S0 I0 m=>bE m fun I2 I3 m=>bE m fun S3 r3 m=>bE m fun S4 I4 m=>?_))
     refine dR [0,0,3,7,0,0,0,96,224,0,992,2016,0,4096,0,0,49152,114688,0,507904,1032192,2093056,4194272,8388607,16777215] [13,21,22,24] 4 folM ?_
     replace b:=b.drew
     refine Dn [0,1,2,3,4,5,6,7,8,9,10,11,12,14,15,16,17,18,19,20] [] [13] (yR rfl (m_ j.v (eh I)) (yR rfl (m_ (iV o) (eh Z)) ?_))
     obtain ⟨S5,K⟩:=b.famI R1 g6
     refine yR rfl (yIa SLH_25 e0 e0 b rO0 K) (yR rfl (yF1 O_31 e0 b rO0 K rfl) (yR rfl (m_ (iV t) (eh J)) (yR rfl (m_ j.v (eh I)) (yR rfl (m_ (iV o) (eh Z)) ?_))))
     obtain ⟨S6,S⟩:=b.famI R1 b6
     refine yR rfl (yIa SLH_25 e0 e0 b rO0 S) (yR rfl (yF1 O_31 e0 b rO0 S rfl) (yR rfl (m_ (iV t) (eh J)) (yR rfl (yIa SL_31 e0 e0 b (rdF R1 S b6) c5) ?_)))
     replace b:=(b.k10).pin0
     obtain ⟨S7,b⟩:=St.pinF S b6 b c5
     obtain ⟨S8,S9,rfl,b⟩:=b.eltP
     obtain ⟨rfl,b⟩:=b.eltB
     obtain ⟨g9,rfl,b⟩:=b.eltS
     refine yR rfl (yCn (cs:=[.bool g7.1,g9.v]) ST_34 rfl e0 (b.cAtP R0 mhP)) (yR rfl (m_ (iV (ws .i64 O 5)) (eh g5)) (yR rfl (m_ j.v (eh I)) (yR rfl (m_ (iV x) (eh c4)) ?_)))
     obtain ⟨T0,a9⟩:=b.famIP R0 c6
     refine yR rfl (yIa SLH_25 e0 e0 b rO1 a9) (yR rfl (yF1 O_31 e0 b rO1 a9 rfl) (yR rfl (m_ (iV t) (eh J)) (yR rfl (yIa SL_31 e0 e0 b (rdFP R0 a9 c6) g8) ?_)))
     obtain ⟨T1,b⟩:=St.pinF a9 c6 b g8
     obtain ⟨T2,T3,rfl,b⟩:=b.eltP
     obtain ⟨rfl,b⟩:=b.eltB
     obtain ⟨r4,rfl,b⟩:=b.eltS
     refine yR rfl (yCn (cs:=[.bool r2.1,r4.v]) ST_34 rfl e0 (b.cAtP R0 mhP)) (Rn QSn ?_)
     refine Lc1 rfl ?_
     refine Lk wn (yCall FN_14 (a1 e0)) (sparselaw08_num_ok H9 b) ?_
     rintro _ w ⟨T4,rfl,b⟩
     refine ⟨_,rfl,?_⟩
     refine Dn [] [0,1,2,3,4,5,6,7,8,9,10,11,14,15,16,17,18,19,20] [21] (Rn (yS rfl (m_ j.v (eh I)) (yS rfl (m_ (iV o) (eh Z)) (yS rfl (yIa SLH_25 e0 e0 b rO2 K) (yS rfl (yF1 O_31 e0 b rO2 K rfl) (yS rfl (m_ (iV t) (eh J)) (yS rfl (m_ j.v (eh I)) (yS rfl (m_ (iV o) (eh Z)) (yS rfl (yIa SLH_25 e0 e0 b rO2 S) (yS rfl (yF1 O_31 e0 b rO2 S rfl) (yS rfl (m_ (iV t) (eh J)) (yS rfl (yIa SL_31 e0 e0 b (rdFP R1 S b6) c5) (yS rfl (yCn (cs:=[.bool g7.1,g9.v]) ST_34 rfl e0 (b.cAtP R1 (mtP mhP))) (yS rfl (m_ j.v (eh I)) (yS rfl (m_ (iV x) (eh c4)) (yS rfl (yIa SLH_25 e0 e0 b rO2 a9) (yS rfl (yF1 O_31 e0 b rO2 a9 rfl) (yS rfl (m_ (iV t) (eh J)) (yS rfl (yIa SL_31 e0 e0 b (rdFP R1 a9 c6) g8) (yS rfl (yCn (cs:=[.bool r2.1,r4.v]) ST_34 rfl e0 (b.cAtP R1 mhP)) QSn))))))))))))))))))) ?_)
     refine Lc1 rfl ?_
     replace b:=b.fz
     refine Lk wn (yCall FN_13 (a2 e0 e0)) (integer_Mul_ok I0 F0 F1 b) ?_
     rintro _ w ⟨T5,rfl,b⟩
     refine ⟨_,rfl,?_⟩
     refine Dn [] [0,1,2,3,4,5,6,7,8,9,10,11] [22] (Rn (yS rfl (m_ j.v (eh I)) (yS rfl (m_ (iV o) (eh Z)) (yS rfl (yIa SLH_25 e0 e0 b rO1 K) (yS rfl (yF1 O_31 e0 b rO1 K rfl) (yS rfl (m_ (iV t) (eh J)) (yS rfl (m_ j.v (eh I)) (yS rfl (m_ (iV o) (eh Z)) (yS rfl (yIa SLH_25 e0 e0 b rO1 S) (yS rfl (yF1 O_31 e0 b rO1 S rfl) (yS rfl (m_ (iV t) (eh J)) (yS rfl (yIa SL_31 e0 e0 b (rdFP R0 S b6) c5) (yS rfl (yCn (cs:=[.bool g7.1,g9.v]) ST_34 rfl e0 (b.cAtP R0 (mtP mhP))) QSn)))))))))))) ?_)
     refine Lc1 rfl ?_
     refine Lk wn (yCall FN_12 (a2 e0 e0)) (integer_Add_ok I3 F3 F0 b) ?_
     rintro _ w ⟨I5,rfl,b⟩
     refine ⟨_,rfl,?_⟩
     refine Dn [23] [0,1,2,3,4] [24] (yR rfl (yIs SL_31 e0 e0 b (rdFP R0 K g6) r3) (Rn (yS rfl (m_ j.v (eh I)) (yS rfl (m_ (iV o) (eh Z)) (yS rfl (yIa SLH_25 e0 e0 b rO1 K) (yS rfl (yF1 O_31 e0 b rO1 K rfl) (yS rfl (m_ (iV t) (eh J)) QSn))))) ?_))
     refine Lc1 rfl ?_
     replace b:=b.unpin
     refine LT wn (r_stn (cs:=[.bool I2.1,I5.v]) (b.foc K g6) ST_34 e0 e0 rfl (mkP mkB (mkS F0)) r3) fun w b=>?_
     replace b:=b.unfoc' K I4
     refine Dz [] [] (Rn QSn (H8 _ _ _ (H7 _ _ (wR (Ym (iV t) (eh J) (yY (yadd e0 rfl) (Ya (iV (wa .i64 t 1)) e0 (wN ?_))))))))
     cases m
     exact H1 _ _ _ rfl ⟨_,_,_,rfl,rfl,g4,Z,c4,g5,q7,q8,q9,r0,I,r1,rfl,((b.k2f).facts (allT (allT (allT (allT (allT allI))))))⟩
    ·refine wp_exit (H4 _ _ _ rfl ?_)
     cases m
     exact H2 _ _ _ _ rfl rfl (C6 _ _ _ g4 Z c4 g5 q7 q8 q9 r0 I r1 b (H0 _ rfl))
  replace b:=(((((b.rowNh 31 rH).fNew 34 (rP rB (rS (rI .u32)))).k10).rowNh 31 rH).fNew 34 (rP rB (rS (rI .u32)))).k10
  refine loopQ (fun s a w=>∃ (b7:List (List (Bool×LI))) (b8:List (List (Bool×LI))) (T:Int) (f:FV) (a4:Hdr) (b0:List Hdr) (a5:Hdr) (b1:List Hdr),(b7,b8,T)=s∧a=fr 234 f∧f 1=iV (wa .i64 1 i)∧f 2=iV o∧f 3=iV x∧f 4=iV (ws .i64 O 5)∧f 13=N.v∧f 14=iV c.1∧f 15=iV c.2.1∧f 16=iV c.2.2.1∧f 17=iV c.2.2.2∧f 18=U.v∧f 19=a4.v∧f 20=a5.v∧f 21=iV T∧St w0 (imm (rS (rP rB (rS (rI .u32)))) N.v e3::ros) (row 3 I1 U.v e4::row 31 rH a4.v b0::fam 34 (rP rB (rS (rI .u32))) b0 b7::row 31 rH a5.v b1::fam 34 (rP rB (rS (rI .u32))) b1 b8::rs) w) x8 ⟨_,_,_,_,_,_,_,_,rfl,rfl,rfl,rfl,rfl,rfl,rfl,rfl,rfl,rfl,rfl,rfl,rfl,rfl,rfl,(b.k2g)⟩ ?_
  rintro _ _ w T6 ⟨b7,b8,T,f,a4,b0,a5,b1,rfl,rfl,h0,r5,r6,r7,I6,r8,r9,s0,s1,I7,s2,s3,s4,b⟩ L I8 T7 I9 J0
  refine seqQ fun T8 J1 J2=>sR fun _ J3=>Ym (iV T) (eh s4) (Ym (iV (wa .i64 1 i)) (eh h0) (yY (ylss e0 e0) (wK J3 ?_)))
  refine cIf e0 L (fun J4 L=>?_) fun J4 L=>?_
  ·refine wp_skip (J1 _ _ (sQ fun _ J5=>blockQ fun _ J6=>sR fun _ J7=>Ya hnil.v rfl (Ya hnil.v rfl (wK J7 (sQ fun _ J8=>sR fun _ J9=>Ya (iV 0) rfl ?_)))))
   refine wK J9 (blockQ fun K0 K1=>bE L fun K2 K3 L=>?_)
   have K4:∀ (c7 c8:List (Bool×LI)) (b2 b3:Hdr) (f:FV) w,f 1=iV (wa .i64 1 i)→f 2=iV o→f 3=iV x→f 4=iV (ws .i64 O 5)→f 13=N.v→f 14=iV c.1→f 15=iV c.2.1→f 16=iV c.2.2.1→f 17=iV c.2.2.2→f 18=U.v→f 19=a4.v→f 20=a5.v→f 21=iV T→f 22=b2.v→f 23=b3.v→St w0 (imm (rS (rP rB (rS (rI .u32)))) N.v e3::ros) (row 3 I1 U.v e4::row 31 rH a4.v b0::fam 34 (rP rB (rS (rI .u32))) b0 b7::row 31 rH a5.v b1::fam 34 (rP rB (rS (rI .u32))) b1 b8::row 34 (rP rB (rS (rI .u32))) b2.v c7::row 34 (rP rB (rS (rI .u32))) b3.v c8::rs) w→(c7,c8)=K2→K0 (.exit 2) (fr 234 f) w:=by
    intro c7 c8 b2 b3 f w K5 K6 K7 K8 K9 L0 L1 L3 L4 L5 L6 L7 L8 L9 M0 b ho
    subst ho
    refine K1 _ _ _ (J8 _ _ (sR fun _ M1=>Ym a4.v (eh L6) (Ym b2.v (eh L9) (yH (rLt (n:=1) (l:=[b2]) b SLH_25 [b2.v] (bp1 e0) rfl rfl (mks1 rfl (mkF rfl) mks0)) fun T9 w b=>bE L fun U0 s5 L=>?_))))
    replace b:=b.k1f
    obtain ⟨U1,ey656,M2⟩:=app_rep s5 (b.famL R3) (show [b2].length=[c7].length from rfl)
    refine yH (rAp b SLH_25 e0 e0 rO1 M2) fun M3 w b=>?_
    replace b:=(b.k2h).fPush
    rw [← ey656,← (app_some s5).1] at b
    refine Ya M3.v e0 (wK M1 (wR (Ym a5.v (eh L7) (Ym b3.v (eh M0) (yH (rLt (n:=1) (l:=[b3]) b SLH_25 [b3.v] (bp1 e0) rfl rfl (mks1 rfl (mkF rfl) mks0)) fun U2 w b=>bE L fun U3 s6 L=>?_)))))
    replace b:=b.k22
    obtain ⟨U4,ey661,M4⟩:=app_rep s6 (b.famL R6) (show [b3].length=[c8].length from rfl)
    refine yH (rAp b SLH_25 e0 e0 rO1 M4) fun M5 w b=>?_
    replace b:=(b.k2i).fPush
    rw [← ey661,← (app_some s6).1] at b
    refine Ya M5.v e0 (wN (J6 _ _ _ (J5 _ _ (wR (Ym (iV T) (eh L8) (yY (yadd e0 rfl) (Ya (iV (wa .i64 T 1)) e0 (wN ?_))))))))
    cases L
    exact I9 _ _ _ rfl ⟨_,_,_,_,_,_,_,_,rfl,rfl,K5,K6,K7,K8,K9,L0,L1,L3,L4,L5,rfl,rfl,rfl,(b.k2j)⟩
   replace b:=(b.rowNh 34 (rP rB (rS (rI .u32)))).rowNh 34 (rP rB (rS (rI .u32)))
   refine loopQ (fun s a w=>∃ (h1 h3:List (Bool×LI)) (a6:Int) (f:FV) (b9 d0:Hdr),(h1,h3,a6)=s∧a=fr 234 f∧f 1=iV (wa .i64 1 i)∧f 2=iV o∧f 3=iV x∧f 4=iV (ws .i64 O 5)∧f 13=N.v∧f 14=iV c.1∧f 15=iV c.2.1∧f 16=iV c.2.2.1∧f 17=iV c.2.2.2∧f 18=U.v∧f 19=a4.v∧f 20=a5.v∧f 21=iV T∧f 22=b9.v∧f 23=d0.v∧f 24=iV a6∧St w0 (imm (rS (rP rB (rS (rI .u32)))) N.v e3::ros) (row 3 I1 U.v e4::row 31 rH a4.v b0::fam 34 (rP rB (rS (rI .u32))) b0 b7::row 31 rH a5.v b1::fam 34 (rP rB (rS (rI .u32))) b1 b8::row 34 (rP rB (rS (rI .u32))) b9.v h1::row 34 (rP rB (rS (rI .u32))) d0.v h3::rs) w) K3 ⟨_,_,_,_,_,_,rfl,rfl,h0,r5,r6,r7,I6,r8,r9,s0,s1,I7,s2,s3,s4,rfl,rfl,rfl,(b.k2k)⟩ ?_
   rintro _ _ w U5 ⟨h1,h3,a6,f,b9,d0,rfl,rfl,h4,s7,s8,s9,d1,t0,t1,t2,t3,d2,t4,t5,d3,h5,t6,d4,b⟩ p M6 U6 M7 M8
   refine seqQ fun U7 M9 N0=>sR fun _ N1=>Ym (iV a6) (eh d4) (Ym (iV (wa .i64 1 i)) (eh h4) (yY (ylss e0 e0) (wK N1 ?_)))
   refine cIf e0 p (fun N2 p=>?_) fun N2 p=>?_
   ·refine wp_skip (M9 _ _ (sQ fun _ N3=>blockQ fun _ N4=>sQ fun _ N5=>bE p fun U8 t7 p=>bE p fun U9 t8 p=>bE p fun V0 t9 p=>bE p fun c0 u0 p=>bE p fun V1 N6 p=>dR [0,0,0,0,12,28,62,126,0,0,768,1792,4094,8190,16382,32767,65535] [14,15,16] 3 folM ?_))
    replace b:=b.drew
    refine Dn [0,1,2,3,4,5,6,7,8,9,10,11,12,13] [] [14] (yR rfl (m_ b9.v (eh h5)) (yR rfl (m_ N.v (eh d1)) (yR rfl (m_ U.v (eh d2)) (yR rfl (m_ (iV T) (eh d3)) (yR rfl (yIa SL_22 e0 e0 b rO0 t7) (yR rfl (yI O_3 e0 b rO0 t7) (yR rfl (yIa SL_25 e0 e0 b (rdI F0) t8) ?_)))))))
    obtain ⟨V2,b⟩:=iLs b F0 t8
    refine yR rfl (yCt O_31 e0 b F1 rfl) (yR rfl (m_ U.v (eh d2)) (yR rfl (m_ (iV a6) (eh d4)) (yR rfl (yIa SL_22 e0 e0 b rO0 t9) (yR rfl (yI O_3 e0 b rO0 t9) (yR rfl (yIa SL_31 e0 e0 b (rdI F0) u0) ?_)))))
    obtain ⟨V3,V4,b⟩:=iLd b F0 u0
    obtain ⟨V5,V6,rfl,b⟩:=b.eltP
    obtain ⟨rfl,b⟩:=b.eltB
    obtain ⟨h6,rfl,b⟩:=b.eltS
    refine yR rfl (yCtn (cs:=[.bool c0.1,h6.v]) ST_34 rfl e0 b F1) (Rn QSn ?_)
    refine Lc1 rfl ?_
    refine LH wn (rLt (n:=1) (l:=[(c0.1,c0.2)]) b SL_31 [.agg #[.bool c0.1,h6.v]] (bp1 e0) rfl rfl (mks1 (cs:=[.bool c0.1,h6.v]) rfl (mkP mkB (mkS F0)) mks0)) fun V7 w b=>Dn [] [0] [15] (Rn (yS rfl (m_ b9.v (eh h5)) QSn) ?_)
    refine Lc1 rfl ?_
    replace b:=b.k25
    refine LH wn (rAp b SL_31 e0 e0 rO1 N6) fun N7 w b=>Dn [] [] [16] (Rn QSn ?_)
    refine Lc1 rfl ?_
    refine Ly wn (a_ N7.v e0) (Dz [] [] (Rn QSn (N5 _ _ (wR (Ym d0.v (eh t6) (Ym N.v (eh d1) (Ym (iV T) (eh d3) (bE p fun V8 u1 p=>yY (yIa SL_25 e0 e0 b (rdI F4) u1) ?_))))))))
    obtain ⟨V9,b⟩:=iLs b F4 u1
    refine yY (yCt O_31 e0 b F1 rfl) (Ym (iV a6) (eh d4) (bE p fun N8 u2 p=>yY (yIa SL_31 e0 e0 b (rdI F0) u2) ?_))
    obtain ⟨W0,W1,b⟩:=iLd b F0 u2
    obtain ⟨W2,W3,rfl,b⟩:=b.eltP
    obtain ⟨rfl,b⟩:=b.eltB
    obtain ⟨N9,rfl,b⟩:=b.eltS
    refine yY (yCtn (cs:=[.bool N8.1,N9.v]) ST_34 rfl e0 b F1) (bE p fun d5 O0 p=>yC (yCall FN_11 (a1 e0)) (integer_Neg_ok O0 F0 b) ?_)
    rintro _ w ⟨u3,rfl,b⟩
    refine ⟨_,rfl,?_⟩
    refine yH (rLt (n:=1) (l:=[(d5.1,d5.2)]) b SL_31 [.agg #[.bool d5.1,u3.v]] (bp1 e0) rfl rfl (mks1 (cs:=[.bool d5.1,u3.v]) rfl (mkP mkB (mkS F0)) mks0)) fun W4 w b=>bE p fun W5 O1 p=>yH (rAp (b.k2l) SL_31 e0 e0 rO1 O1) fun O2 w b=>Ya O2.v e0 (wN (N4 _ _ _ (N3 _ _ (wR (Ym (iV a6) (eh d4) (yY (yadd e0 rfl) (Ya (iV (wa .i64 a6 1)) e0 (wN ?_))))))))
    cases p
    exact M7 _ _ _ rfl ⟨_,_,_,_,_,_,rfl,rfl,h4,s7,s8,s9,d1,t0,t1,t2,t3,d2,t4,t5,d3,rfl,rfl,rfl,((b.k2m).facts (allC F9 (allT (allT (allT (allT (allT (allT (allT (allT (allT (allT allI))))))))))))⟩
   ·refine wp_exit (N0 _ _ _ rfl ?_)
    cases p
    exact M8 _ _ _ _ rfl rfl (K4 _ _ _ _ _ _ h4 s7 s8 s9 d1 t0 t1 t2 t3 d2 t4 t5 d3 h5 t6 b (M6 _ rfl))
  ·refine wp_exit (J2 _ _ _ rfl ?_)
   cases L
   exact J0 _ _ _ _ rfl rfl (x9 _ _ _ _ _ _ _ _ h0 r5 r6 r7 r8 r9 s0 s1 s2 s3 ((b.k2n).facts (allT allI)) (I8 _ rfl))
end Go.Proofs.YtpfmbaidflhamaaDoor
