/- Walks: each function computes its model, printed. -/
import Derived.Test.YthpeajepbffinaaGreatW1
namespace Go.Proofs.YthpeajepbffinaaGreat
open Go Sx M
set_option maxRecDepth 100000
set_option maxHeartbeats 40000000
set_option linter.unusedVariables false
attribute [local irreducible] wpList Code.wp Calls DR QR QS LA LS St
variable {w0:World} {ros:List Fact} {rs:List Res} {w:World}
theorem dissect_bisect_step {rec:L2→LI→L2→Option (LI×Bool)} (c2:∀ {w0:World} {ros:List Fact} {rs:List Res} {w:World} {x:L2} {y:LI} {z:L2} {h g i:Hdr} {out:LI×Bool} (c:rec x y z=some out) (r:imm S1 h.v x∈ros) (q:imm I1 g.v y∈ros) (t:imm S1 i.v z∈ros) (b:St w0 ros rs w),Calls Tryz.prog 43 #[.agg #[h.v,g.v,i.v]] w (fun e w=>∃ (D:Hdr),e=.returned (.tuple #[D.v,.bool out.2])∧St w0 ros (row 3 I1 D.v out.1::rs) w)) {w0:World} {ros:List Fact} {rs:List Res} {w:World} {x:L2} {y:LI} {z:L2} {h g i:Hdr} {out:LI×Bool} (c:dissect_bisect_body rec x y z=some out) (r:imm S1 h.v x∈ros) (q:imm I1 g.v y∈ros) (t:imm S1 i.v z∈ros) (b:St w0 ros rs w):
  Calls Tryz.prog 43 #[.agg #[h.v,g.v,i.v]] w (fun e w=>∃ (D:Hdr),e=.returned (.tuple #[D.v,.bool out.2])∧St w0 ros (row 3 I1 D.v out.1::rs) w):=by
 refine enterQ Tryz.func43 rfl Tryz.ntmps43 rfl fun Q J=>sR fun _ c3=>yBb (r_box (vals:=[h.v,g.v,i.v]) b e0 rfl) fun u w b=>Ya hnil.v rfl (Ya (.bool false) rfl (wK c3 (sR fun _ c4=>yY (lbs_ [h.v,g.v,i.v] ST_28 e0 b R0) (bE c fun c5 c6 c=>yC (yCall FN_73 (a1 e0)) (dissect_grown_ok c6 r q t b) ?_))))
 rintro _ w ⟨o,rfl,b⟩
 refine ⟨_,rfl,?_⟩
 refine Ya o.v e0 (wK c4 (seqQ fun a0 c7 a3=>sR fun _ c8=>yY (yFb FL_28_1 e0) (yY (lb_ g.v O_22 e0 b R1) (yY (yLen SL_22 e0 b (rdI q)) (yY (ygtr e0 rfl) (wK c8 ?_))))))
 have a4:∀ (K:LI) (f:FV) w,f 1=(pB u)→f 4=o.v→St w0 ros (box u 28 [h.v,g.v,i.v]::row 3 I1 o.v K::rs) w→dissect_bisect_j5 x y z K=some out→a0 .normal (fr 61 f) w:=by
  intro K f w c9 a5 b c
  refine c7 _ _ (sR fun _ d0=>yY (lbs_ [h.v,g.v,i.v] ST_28 (eh c9) b R0) (Ym o.v (eh a5) (bE c fun g7 d1 c=>?_)))
  replace b:=b.pk 2 [1,0] rfl
  refine yC (yCall FN_74 (a2 e0 e0)) (dissect_refine_ok d1 r q t b) ?_
  rintro _ w ⟨rfl,b⟩
  refine ⟨_,rfl,?_⟩
  refine wK d0 (sR fun _ d2=>Ym o.v (eh a5) (Ya o.v e0 (Ya (.bool true) rfl (wK d2 (wp_ret ?_)))))
  cases c
  exact J _ _ _ (fin2r Tryz.results43 ⟨rfl,rfl⟩ ⟨rfl,rfl⟩ ⟨_,rfl,(b.pk 2 [0] rfl)⟩)
 refine cIf e0 c (fun d3 c=>?_) fun d3 c=>?_
 ·refine sQ fun _ d4=>bE c fun g8 a6 c=>bE c fun d L c=>?_
  refine joinN (n:=61) (fun f w=>∃ (N:Nat) (G:Hdr) (O:List Hdr) (E H:Hdr) (R:List Hdr) (B:Hdr),f 1=(pB u)∧f 4=o.v∧f 5=(pB N)∧f 6=B.v∧f 7=.bool d.2.2.2.2∧St w0 (imm I1 E.v d.2.1::ros) (box u 28 [h.v,g.v,i.v]::row 3 I1 o.v c5::row 22 rH G.v O::fam 3 I1 O d.1::row 22 rH H.v R::fam 3 I1 R d.2.2.1::box N 28 [G.v,E.v,H.v]::row 3 I1 B.v d.2.2.2.1::rs) w) (fun S=>?_) ?_
  ·refine dR [0,0,2,7,15,31,31,31,0,319,895,2047] [2,3,8,9,10,11] 6 folM ?_
   replace b:=b.drew
   refine Dn [0,1] [] [2,8] (yR rfl (lbs_ [h.v,g.v,i.v] ST_28 e0 b R1) (yR rfl (lbs_ [h.v,g.v,i.v] ST_28 e0 b R1) (Rn QSn ?_)))
   refine Lc rfl ?_ (Lc1 rfl ?_)
   ·refine Lk wn (yCall FN_40 (a1 e0)) (dissect_match_ok a6 r q t b) ?_
    rintro _ w ⟨d5,rfl,b⟩
    refine ⟨_,rfl,?_⟩
    refine Dn [] [0] [3,8] (Rn (yS rfl (lbs_ [h.v,g.v,i.v] ST_28 e0 b R2) QSn) ?_)
    refine Lc rfl ?_ (Lc1 rfl ?_)
    ·replace b:=b.fz
     refine Lk wn (yCall FN_42 (a2 e0 e0)) (dissect_coarsen_ok L (mtF r) (mtF q) (mtF t) F0 b) ?_
     rintro _ w ⟨j,a7,k,l,a8,m,rfl,b⟩
     refine ⟨_,rfl,?_⟩
     refine Dn [4,5,6,7] [] [8] (yR rfl (m_ (.tuple #[.agg #[j.v,k.v,l.v],m.v,.bool d.2.2.2.2]) e0) (yR rfl (x_ (.agg #[j.v,k.v,l.v]) e0) (yR rfl (x_ m.v e0) (yR rfl (x_ (.bool d.2.2.2.2) e0) (Rn QSn ?_)))))
     refine Lc1 rfl ?_
     refine LB wn (rAl b ZT_28) fun a9 w b=>Dn [] [4,5,6,7] [9] (Rn (yS rfl (m_ (.tuple #[.agg #[j.v,k.v,l.v],m.v,.bool d.2.2.2.2]) e0) (yS rfl (x_ (.agg #[j.v,k.v,l.v]) e0) (yS rfl (x_ m.v e0) (yS rfl (x_ (.bool d.2.2.2.2) e0) QSn)))) ?_)
     refine Lc1 rfl ?_
     refine LT wn (r_stbn (vals':=[j.v,k.v,l.v]) (us:=[j.v,k.v,l.v]) b ST_28 e0 e0 rfl rfl (one_of rfl) rfl) fun w b=>Dn [] [6,7] [10] (Rn (yS rfl (x_ m.v e0) (yS rfl (x_ (.bool d.2.2.2.2) e0) QSn)) ?_)
     refine Lc1 rfl ?_
     refine Ly wn (a_ m.v e0) (Dn [] [7] [11] (Rn (yS rfl (x_ (.bool d.2.2.2.2) e0) QSn) ?_))
     refine Lc1 rfl ?_
     exact Ly wn (a_ (.bool d.2.2.2.2) e0) (Dz [] [] (Rn QSn (S _ _ ⟨_,_,_,_,_,_,_,rfl,rfl,rfl,rfl,rfl,((b.pk 8 [7,6,1,1,1,1,0,0] rfl).facts (allC F0 (allT (allT allI))))⟩)))
    refine LB wn (rAl b ZT_28) fun a9 w b=>Dn [] [0] [3] (Rn (yS rfl (lbs_ [h.v,g.v,i.v] ST_28 e0 b R3) QSn) ?_)
    refine Lc1 rfl ?_
    replace b:=(b.pk 2 [1,0] rfl).fz
    refine Lk wn (yCall FN_42 (a2 e0 e0)) (dissect_coarsen_ok L (mtF r) (mtF q) (mtF t) F0 b) ?_
    rintro _ w ⟨j,a7,k,l,a8,m,rfl,b⟩
    refine ⟨_,rfl,?_⟩
    refine Dn [4,5,6,7] [] [9] (yR rfl (m_ (.tuple #[.agg #[j.v,k.v,l.v],m.v,.bool d.2.2.2.2]) e0) (yR rfl (x_ (.agg #[j.v,k.v,l.v]) e0) (yR rfl (x_ m.v e0) (yR rfl (x_ (.bool d.2.2.2.2) e0) (Rn QSn ?_)))))
    refine Lc1 rfl ?_
    replace b:=b.pk 6 [5,0,0,0,0,0] rfl
    refine LT wn (r_stbn (vals':=[j.v,k.v,l.v]) (us:=[j.v,k.v,l.v]) b ST_28 e0 e0 rfl rfl (one_of rfl) rfl) fun w b=>Dn [] [6,7] [10] (Rn (yS rfl (x_ m.v e0) (yS rfl (x_ (.bool d.2.2.2.2) e0) QSn)) ?_)
    refine Lc1 rfl ?_
    refine Ly wn (a_ m.v e0) (Dn [] [7] [11] (Rn (yS rfl (x_ (.bool d.2.2.2.2) e0) QSn) ?_))
    refine Lc1 rfl ?_
    exact Ly wn (a_ (.bool d.2.2.2.2) e0) (Dz [] [] (Rn QSn (S _ _ ⟨_,_,_,_,_,_,_,rfl,rfl,rfl,rfl,rfl,((b.pk 8 [7,6,1,1,1,1,0,0] rfl).facts (allC F0 (allT (allT allI))))⟩)))
   refine LB wn (rAl b ZT_28) fun a9 w b=>Dn [] [0,1] [2] (Rn (yS rfl (lbs_ [h.v,g.v,i.v] ST_28 e0 b R2) (yS rfl (lbs_ [h.v,g.v,i.v] ST_28 e0 b R2) QSn)) ?_)
   refine Lc1 rfl ?_
   refine Lk wn (yCall FN_40 (a1 e0)) (dissect_match_ok a6 r q t b) ?_
   rintro _ w ⟨d5,rfl,b⟩
   refine ⟨_,rfl,?_⟩
   refine Dn [] [0] [3] (Rn (yS rfl (lbs_ [h.v,g.v,i.v] ST_28 e0 b R3) QSn) ?_)
   refine Lc1 rfl ?_
   replace b:=b.fz
   refine Lk wn (yCall FN_42 (a2 e0 e0)) (dissect_coarsen_ok L (mtF r) (mtF q) (mtF t) F0 b) ?_
   rintro _ w ⟨j,a7,k,l,a8,m,rfl,b⟩
   refine ⟨_,rfl,?_⟩
   refine Dn [4,5,6,7] [] [9] (yR rfl (m_ (.tuple #[.agg #[j.v,k.v,l.v],m.v,.bool d.2.2.2.2]) e0) (yR rfl (x_ (.agg #[j.v,k.v,l.v]) e0) (yR rfl (x_ m.v e0) (yR rfl (x_ (.bool d.2.2.2.2) e0) (Rn QSn ?_)))))
   refine Lc1 rfl ?_
   replace b:=b.pk 6 [5,0,0,0,0,0] rfl
   refine LT wn (r_stbn (vals':=[j.v,k.v,l.v]) (us:=[j.v,k.v,l.v]) b ST_28 e0 e0 rfl rfl (one_of rfl) rfl) fun w b=>Dn [] [6,7] [10] (Rn (yS rfl (x_ m.v e0) (yS rfl (x_ (.bool d.2.2.2.2) e0) QSn)) ?_)
   refine Lc1 rfl ?_
   refine Ly wn (a_ m.v e0) (Dn [] [7] [11] (Rn (yS rfl (x_ (.bool d.2.2.2.2) e0) QSn) ?_))
   refine Lc1 rfl ?_
   exact Ly wn (a_ (.bool d.2.2.2.2) e0) (Dz [] [] (Rn QSn (S _ _ ⟨_,_,_,_,_,_,_,rfl,rfl,rfl,rfl,rfl,((b.pk 8 [7,6,1,1,1,1,0,0] rfl).facts (allC F0 (allT (allT allI))))⟩)))
  rintro f w ⟨N,G,O,E,H,R,B,T,b0,b1,d6,d7,b⟩
  refine d4 _ _ (seqQ fun g9 d8 d9=>sR fun _ e1=>Ym (.bool d.2.2.2.2) (eh d7) (yY (ynot e0) (wK e1 ?_)))
  rcases iteS c with ⟨U,c⟩ | ⟨U,c⟩
  ·refine condF e0 (nF U) (wp_skip (d8 _ _ (sR fun _ e2=>yY (yFb FL_28_1 (eh b1)) (yY (lb_ E.v O_22 e0 b R6) (yY (yLen SL_22 e0 b (rdI F0)) (yY (yFb FL_28_1 (eh T)) (yY (lb_ g.v O_22 e0 b R0) (yY (yLen SL_22 e0 b (rdI (mtF q))) (yY (ylss e0 e0) (wK e2 ?_))))))))))
   have b2:∀ (V:LI) (f:FV) w,f 1=(pB u)→f 4=o.v→St w0 ros (box u 28 [h.v,g.v,i.v]::row 3 I1 o.v V::rs) w→dissect_bisect_j8 x y z V=some out→a0 .normal (fr 61 f) w:=by
    intro V f w e3 e4 b c
    exact a4 _ _ _ e3 e4 b c
   refine cIf e0 c (fun e5 c=>?_) fun e5 c=>?_
   ·refine sR fun _ e6=>yY (lbs_ [G.v,E.v,H.v] ST_28 (eh b1) b R6) (bE c fun F e7 c=>?_)
    replace b:=(((b.pk 4 [2,2,0,0] rfl).ffz).pk 4 [2,2,0,0] rfl).ffz
    refine yC (yCall FN_43 (a1 e0)) (c2 e7 F1 F2 F0 b) ?_
    rintro _ w ⟨C,rfl,b⟩
    refine ⟨_,rfl,?_⟩
    refine Ym (.tuple #[C.v,.bool F.2]) e0 (yY (x_ C.v e0) (yY (x_ (.bool F.2) e0) (Ya C.v e0 (Ya (.bool F.2) e0 (wK e6 (seqQ fun h0 e8 e9=>sR fun _ f0=>Ym (.bool F.2) e0 (yY (ynot e0) (wK f0 ?_))))))))
    rcases iteS c with ⟨W,c⟩ | ⟨W,c⟩
    ·refine condF e0 (nF W) (wp_skip (e8 _ _ (sR fun _ f1=>Ym B.v (eh d6) (yY (yLen SL_22 e0 b rO4) (Ym (iV 0) rfl (wK f1 (blockQ fun _ f2=>bE c fun h1 f3 c=>?_)))))))
     refine loopQ (fun s a w=>∃ (X:LI) (A:Int) (f:FV),(X,A)=s∧a=fr 61 f∧f 1=(pB u)∧f 4=o.v∧f 8=C.v∧f 42=B.v∧f 43=iV (d.2.2.2.1.length:Int)∧f 44=iV A∧St w0 ros (box u 28 [h.v,g.v,i.v]::row 3 I1 o.v X::row 3 I1 C.v F.1::row 3 I1 B.v d.2.2.2.1::rs) w) f3 ⟨_,_,_,rfl,rfl,T,b0,rfl,rfl,rfl,rfl,((b.pk 5 [1,1,0,1] rfl).facts (allT (allT (allT allI))))⟩ ?_
     rintro _ _ w h3 ⟨X,A,f,rfl,rfl,b3,Z,b4,b5,b6,I,b⟩ p f4 h5 f5 f6
     refine sR fun _ f7=>yY (ylss (eh I) (eh b6)) (wK f7 (seqQ fun h7 f8 f9=>?_))
     refine cIf e0 p (fun g0 p=>?_) fun g0 p=>?_
     ·refine wp_skip (f8 _ _ (sQ fun _ g1=>blockQ fun _ g2=>sR fun _ g3=>Ym (iV A) (eh I) (bE p fun b8 b9 p=>yY (yIa SL_22 (eh b5) (eh I) b rO3 b9) (yY (yI O_3 e0 b rO3 b9) (Ya (iV A) e0 (Ya (iV b8) e0 (wK g3 ?_)))))))
      refine wR (Ym o.v (eh Z) (Ym (iV A) e0 (Ym C.v (eh b4) (Ym (iV b8) e0 (bE p fun g4 c0 p=>yY (yIa SL_22 e0 e0 b rO2 c0) (yY (yI O_3 e0 b rO2 c0) (bE p fun h8 c1 p=>yY (yIs SL_22 e0 e0 b rO1 c1) (yT (r_sti (cs:=[iV g4]) (b.pk 2 [1,0] rfl) O_3 rfl e0 e0 rfl mkI c1) fun w b=>wN (g2 _ _ _ ?_)))))))))
      refine g1 _ _ (wR (yY (yadd (eh I) rfl) (Ym (iV (wa .i64 A 1)) e0 (wN ?_))))
      cases p
      exact f5 _ _ _ rfl ⟨_,_,_,rfl,rfl,b3,Z,b4,b5,b6,rfl,(b.pk 4 [1,0,0,0] rfl)⟩
     refine wp_exit (f9 _ _ _ rfl ?_)
     cases p
     refine f6 _ _ _ _ rfl rfl ?_
     obtain rfl:=f4 _ rfl
     exact f2 _ _ _ (b2 _ _ _ b3 Z (b.pk 4 [0,0] rfl) c)
    refine condT e0 (nT (bfalse W)) (sR fun _ g5=>Ya hnil.v rfl (Ya (.bool false) rfl (wK g5 (wp_ret (e9 _ _ _ rfl (a3 _ _ _ rfl ?_))))))
    cases c
    replace b:=b.rowNh 3 I1
    exact J _ _ _ (fin2r Tryz.results43 ⟨rfl,rfl⟩ ⟨rfl,rfl⟩ ⟨_,rfl,((b.pk 6 [0] rfl).facts (allT (allT (allT allI))))⟩)
   exact wp_skip (b2 _ _ _ T b0 ((b.pk 8 [0,0] rfl).facts (allT allI)) c)
  refine condT e0 (nT (bfalse U)) (sR fun _ g6=>Ya hnil.v rfl (Ya (.bool false) rfl (wK g6 (wp_ret (d9 _ _ _ rfl (a3 _ _ _ rfl ?_))))))
  cases c
  replace b:=b.rowNh 3 I1
  exact J _ _ _ (fin2r Tryz.results43 ⟨rfl,rfl⟩ ⟨rfl,rfl⟩ ⟨_,rfl,((b.pk 9 [0] rfl).facts (allT allI))⟩)
 exact wp_skip (a4 _ _ _ rfl rfl (b.pk 2 [1,0] rfl) c)
theorem dissect_bisect_ok_n (n:Nat):∀ {w0:World} {ros:List Fact} {rs:List Res} {w:World} {b:L2} {c:LI} {d:L2} {f g h:Hdr} {out:LI×Bool} (a:dissect_bisect n b c d=some out) (i:imm S1 f.v b∈ros) (j:imm I1 g.v c∈ros) (k:imm S1 h.v d∈ros) (l:St w0 ros rs w),
  Calls Tryz.prog 43 #[.agg #[f.v,g.v,h.v]] w (fun e w=>∃ (m:Hdr),e=.returned (.tuple #[m.v,.bool out.2])∧St w0 ros (row 3 I1 m.v out.1::rs) w):=by
 induction n with
 | zero=>intro _ _ _ _ _ _ _ _ _ _ out a; cases a
 | succ n ih=>exact fun a i j k l=>dissect_bisect_step (rec:=dissect_bisect n) ih a i j k l
theorem dissect_bisect_ok {a:L2} {b:LI} {c:L2} {d f g:Hdr} {out:LI×Bool} (i:dissect_bisect FUEL a b c=some out) (j:imm S1 d.v a∈ros) (k:imm I1 f.v b∈ros) (l:imm S1 g.v c∈ros) (m:St w0 ros rs w):
  Calls Tryz.prog 43 #[.agg #[d.v,f.v,g.v]] w (fun e w=>∃ (h:Hdr),e=.returned (.tuple #[h.v,.bool out.2])∧St w0 ros (row 3 I1 h.v out.1::rs) w):=dissect_bisect_ok_n FUEL i j k l m
theorem dissect_border_1_ok {d:Int} {i:LI} {b:Int} {f:Nat} {c:Hdr} {g:Nat} {out:Bool} (h:dissect_border_1 d i b=some out) (j:imm I1 c.v i∈ros) (a:St w0 ros (box f 22 [c.v]::box g 3 [iV b]::rs) w):
  Calls Tryz.prog 121 #[iV d,(pB f),(pB g)] w (fun e w=>e=.returned (.bool out)∧St w0 ros (box f 22 [c.v]::box g 3 [iV b]::rs) w):=by
 refine enterQ Tryz.func121 rfl Tryz.ntmps121 rfl fun Q l=>sR fun _ m=>Ya (.bool false) rfl (wK m (sQ fun _ n=>bE h fun o k h=>dR [0,0,3,7,0,31,63] [6] 1 folM ?_))
 replace a:=a.drew
 refine Dn [0,1,2,3,4,5] [] [6] (yR rfl (lb_ c.v O_22 e0 a R0) (yR rfl (m_ (iV d) e0) (yR rfl (yIa SL_22 e0 e0 a (rdI j) k) (yR rfl (yI O_3 e0 a (rdI j) k) (yR rfl (lb_ (iV b) O_3 e0 a R1) (yR rfl (yneq e0 e0) (Rn QSn ?_)))))))
 refine Lc1 rfl ?_
 refine Ly wn (a_ (.bool (!(decide (o=b)))) e0) (Dz [] [] (Rn QSn (n _ _ (wp_ret ?_))))
 cases h
 exact l _ _ _ (fin1r Tryz.results121 ⟨rfl,rfl⟩ ⟨rfl,a⟩)
theorem slices_IndexFunc_int_v2_ok {m p:LI} {j:Int} {i:Hdr} {g:Nat} {k:Hdr} {h:Nat} {out:Int} (l:slices_IndexFunc_int_v2 m p j=some out) (n:imm I1 i.v m∈ros) (C:imm I1 k.v p∈ros) (c:St w0 ros (box g 22 [k.v]::box h 3 [iV j]::rs) w):
  Calls Tryz.prog 80 #[i.v,.func (.func 121) #[] #[(pB g),(pB h)]] w (fun e w=>e=.returned (iV out)∧St w0 ros (box g 22 [k.v]::box h 3 [iV j]::rs) w):=by
 refine enterQ Tryz.func80 rfl Tryz.ntmps80 rfl fun Q q=>sR fun _ D=>Ya (iV 0) rfl (wK D (seqQ fun Z E F=>sR fun _ G=>Ym i.v e0 (yY (yLen SL_22 e0 c (rdI n)) (Ym (iV 0) rfl (wK G ?_)))))
 refine blockQ fun _ r=>bE l fun a0 H l=>?_
 refine loopQ (fun s a w=>∃ (d:Int) (f:FV),d=s∧a=fr 19 f∧f 0=i.v∧f 1=.func (.func 121) #[] #[(pB g),(pB h)]∧f 7=iV (m.length:Int)∧f 8=iV d∧St w0 ros (box g 22 [k.v]::box h 3 [iV j]::rs) w) H ⟨_,_,rfl,rfl,rfl,rfl,rfl,rfl,c⟩ ?_
 rintro _ _ w a2 ⟨d,f,rfl,rfl,t,u,x,o,c⟩ b y a3 I z
 refine sR fun _ J=>yY (ylss (eh o) (eh x)) (wK J (seqQ fun a4 K L=>?_))
 refine cIf e0 b (fun N b=>?_) fun N b=>?_
 ·refine wp_skip (K _ _ (seqQ fun a5 O R=>blockQ fun _ A=>sR fun _ S=>Ym (iV d) (eh o) (Ya (iV d) e0 (wK S (sR fun _ T=>Ym (.func (.func 121) #[] #[(pB g),(pB h)]) (eh u) (Ym i.v (eh t) ?_))))))
  refine Ym (iV d) e0 (bE b fun a6 B b=>yY (yIa SL_22 e0 e0 c (rdI n) B) (yY (yI O_3 e0 c (rdI n) B) (bE b fun a7 U b=>yC (yCallw FN_121 e0 (a1 e0)) (dissect_border_1_ok U C c) ?_)))
  rintro _ w ⟨rfl,c⟩
  refine ⟨_,rfl,?_⟩
  refine wK T (cB e0 b (fun V b=>?_) fun V b=>?_)
  ·refine sR fun _ W=>Ym (iV d) e0 (Ya (iV d) e0 (wK W (wp_ret (A _ _ _ (R _ _ _ rfl ?_)))))
   cases b
   refine z _ _ _ _ rfl rfl ?_
   obtain rfl:=y _ rfl
   refine r _ _ _ (F _ _ _ rfl ?_)
   cases l
   exact q _ _ _ (fin1r Tryz.results80 ⟨rfl,rfl⟩ ⟨rfl,c⟩)
  refine wp_skip (A _ _ _ (O _ _ (wR (yY (yadd (eh o) rfl) (Ym (iV (wa .i64 d 1)) e0 (wN ?_))))))
  cases b
  exact I _ _ _ rfl ⟨_,_,rfl,rfl,t,u,x,rfl,c⟩
 refine wp_exit (L _ _ _ rfl ?_)
 cases b
 refine z _ _ _ _ rfl rfl ?_
 obtain rfl:=y _ rfl
 refine r _ _ _ (E _ _ (sR fun _ X=>Ya (iV (-1)) rfl (wK X (wp_ret ?_))))
 cases l
 exact q _ _ _ (fin1r Tryz.results80 ⟨rfl,rfl⟩ ⟨rfl,c⟩)
theorem slices_ContainsFunc_int_v2_ok {i j:LI} {c:Int} {d:Hdr} {a:Nat} {f:Hdr} {b:Nat} {out:Bool} (g:slices_ContainsFunc_int_v2 i j c=some out) (k:imm I1 d.v i∈ros) (l:imm I1 f.v j∈ros) (h:St w0 ros (box a 22 [f.v]::box b 3 [iV c]::rs) w):
  Calls Tryz.prog 49 #[d.v,.func (.func 121) #[] #[(pB a),(pB b)]] w (fun e w=>e=.returned (.bool out)∧St w0 ros (box a 22 [f.v]::box b 3 [iV c]::rs) w):=by
 refine enterQ Tryz.func49 rfl Tryz.ntmps49 rfl fun Q m=>sR fun _ n=>Ya (.bool false) rfl (wK n (sR fun _ o=>Ym d.v e0 (Ym (.func (.func 121) #[] #[(pB a),(pB b)]) e0 (bE g fun p q g=>yC (yCall FN_80 (a2 e0 e0)) (slices_IndexFunc_int_v2_ok q k l h) ?_))))
 rintro _ w ⟨rfl,h⟩
 refine ⟨_,rfl,?_⟩
 refine yY (ygeq e0 rfl) (Ya (.bool (decide ((0:Int)≤p))) e0 (wK o (wp_ret ?_)))
 cases g
 exact m _ _ _ (fin1r Tryz.results49 ⟨rfl,rfl⟩ ⟨rfl,h⟩)
theorem dissect_border_ok {q:L2} {I:LI} {g:Int} {k i:Hdr} {out:LI} (r:dissect_border q I g=some out) (B:imm S1 k.v q∈ros) (t:imm I1 i.v I∈ros) (b:St w0 ros rs w):
  Calls Tryz.prog 103 #[.agg #[k.v],i.v,iV g] w (fun e w=>∃ (J:Hdr),e=.returned (J.v)∧St w0 ros (row 3 I1 J.v out::rs) w):=by
 refine enterQ Tryz.func103 rfl Tryz.ntmps103 rfl fun Q Z=>sR fun _ a1=>yBb (r_box (vals:=[k.v]) b e0 rfl) fun d9 w b=>yBb (r_box (vals:=[i.v]) b e0 rfl) fun m w b=>yBb (r_box (vals:=[iV g]) b e0 rfl) fun o w b=>Ya hnil.v rfl (wK a1 (sR fun _ a3=>?_))
 refine Ya hnil.v rfl (wK a3 (sQ fun _ a4=>sR fun _ a5=>yY (yFb FL_26_0 e0) (yY (lb_ k.v O_24 e0 b R2) (yY (yLen SL_24 e0 b (rdI B)) (Ym (iV 0) rfl (wK a5 (blockQ fun _ a6=>bE r fun e1 a7 r=>?_)))))))
 replace b:=b.rowNh 3 I1
 refine loopQ (fun s a w=>∃ (z:LI) (d:Int) (f:FV) (j:Hdr),(z,d)=s∧a=fr 35 f∧f 4=(pB m)∧f 5=(pB o)∧f 7=j.v∧f 11=k.v∧f 12=iV (q.length:Int)∧f 13=iV d∧St w0 ros (box m 22 [i.v]::box o 3 [iV g]::row 3 I1 j.v z::rs) w) a7 ⟨_,_,_,_,rfl,rfl,rfl,rfl,rfl,rfl,rfl,rfl,(b.pk 4 [2,1,0] rfl)⟩ ?_
 rintro _ _ w a8 ⟨z,d,f,j,rfl,rfl,u,x,C,D,E,y,b⟩ c a9 e2 b0 b1
 refine sR fun _ b2=>yY (ylss (eh y) (eh E)) (wK b2 (seqQ fun e3 b3 b4=>?_))
 refine cIf e0 c (fun b5 c=>?_) fun b5 c=>?_
 ·refine wp_skip (b3 _ _ (sQ fun _ b9=>blockQ fun c0 c1=>sR fun _ c2=>Ym (iV d) (eh y) (bE c fun e4 K c=>yY (yIa SL_24 (eh D) (eh y) b (rdI B) K) ?_)))
  obtain ⟨L,b⟩:=iLs b B K
  refine yY (yCt O_22 e0 b F1 rfl) (Ya (iV d) e0 (Ya L.v e0 (wK c2 (sQ fun _ c3=>bE c fun N A c=>bE c fun F p c=>?_))))
  refine joinN (n:=35) (fun f w=>f 4=(pB m)∧f 5=(pB o)∧f 7=j.v∧f 8=iV d∧f 11=k.v∧f 12=iV (q.length:Int)∧f 13=iV d∧f 28=.bool F∧St w0 ros (box m 22 [i.v]::box o 3 [iV g]::row 3 I1 j.v z::rs) w) (fun O=>?_) ?_
  ·rcases iteS p with ⟨h,p⟩ | ⟨h,p⟩
   ·refine bE p fun e5 c4 p=>?_
    have c5:=someI p
    refine dR [0,0,3,7,0,31,63,127,127,511,1023] [9] 1 folM ?_
    replace b:=b.drew
    refine Dn [0,1,2,3,4,5,6,7,8] [] [9] (yR rfl (lb_ i.v O_22 (eh u) b R0) (yR rfl (m_ (iV d) e0) (yR rfl (yIa SL_22 e0 e0 b (rdI (F_2 t)) A) (yR rfl (yI O_3 e0 b (rdI (F_2 t)) A) (yR rfl (lb_ (iV g) O_3 (eh x) b R1) (yR rfl (yeql e0 e0) (yR rfl (m_ (.bool (decide (N=g))) e0) (Ry rfl rfl (wG (dT h)) (m_ L.v e0) (Ry rfl rfl (wG (dT h)) (ymf (vf:=#[]) (vc:=#[(pB m),(pB o)]) a0 (a2 (eh u) (eh x))) (Rn QSn ?_))))))))))
    refine Lc1 rfl ?_
    refine Lk (wG (dT h)) (yCall FN_49 (a2 e0 e0)) (slices_ContainsFunc_int_v2_ok c4 F0 (F_2 t) b) ?_
    rintro _ w ⟨rfl,b⟩
    refine ⟨_,rfl,?_⟩
    exact Dz [10] [] (yR rfl (pt_ (.bool F) e0 (dT h) (eqv c5 e0)) (Rn QSn (O _ _ ⟨u,x,C,rfl,D,E,y,rfl,(b.facts (allT (allT allI)))⟩)))
   have c6:=someI p
   refine dR [0,0,3,7,0,31,63,127,127,511,1023] [9] 1 folM ?_
   replace b:=b.drew
   refine Dn [0,1,2,3,4,5,6,7,8] [] [9] (yR rfl (lb_ i.v O_22 (eh u) b R0) (yR rfl (m_ (iV d) e0) (yR rfl (yIa SL_22 e0 e0 b (rdI (F_2 t)) A) (yR rfl (yI O_3 e0 b (rdI (F_2 t)) A) (yR rfl (lb_ (iV g) O_3 (eh x) b R1) (yR rfl (yeql e0 e0) (yR rfl (m_ (.bool (decide (N=g))) e0) (Rx rfl rfl (wX (dF h)) (Rx rfl rfl (wX (dF h)) (Rn QSn ?_))))))))))
   refine Lc1 rfl ?_
   exact Lx (wX (dF h)) (Dz [10] [] (yR rfl (pf_ (.bool F) e0 (dF h) (eqv c6 rfl)) (Rn QSn (O _ _ ⟨u,x,C,rfl,D,E,y,rfl,(b.facts (allT (allT allI)))⟩))))
  rintro f w ⟨R,S,T,c7,U,V,W,c8,b⟩
  refine c3 _ _ ?_
  have X:∀ (G:LI) (H:Hdr) (f:FV) w,f 4=(pB m)→f 5=(pB o)→f 7=H.v→f 11=k.v→f 12=iV (q.length:Int)→f 13=iV d→St w0 ros (box m 22 [i.v]::box o 3 [iV g]::row 3 I1 H.v G::rs) w→dissect_border_j13 d G=some a8→c0 .normal (fr 35 f) w:=by
   intro G H f w c9 d0 d1 d2 d3 d4 b r
   refine c1 _ _ _ (b9 _ _ (wR (yY (yadd (eh d4) rfl) (Ym (iV (wa .i64 d 1)) e0 (wN ?_)))))
   cases r
   exact b0 _ _ _ rfl ⟨_,_,_,_,rfl,rfl,c9,d0,d1,d2,d3,rfl,b⟩
  refine cB (eh c8) c (fun d5 c=>?_) fun d5 c=>?_
  ·exact wR (Ym j.v (eh T) (Ym (iV d) (eh c7) (yH (rLt (n:=1) (l:=[d]) b SL_22 [iV d] (bp1 e0) rfl rfl (mks1 (cs:=[iV d]) rfl mkI mks0)) fun e6 w b=>bE c fun e7 d6 c=>yH (rAp (b.pk 4 [3,0,0,0] rfl) SL_22 e0 e0 rO1 d6) fun d7 w b=>Ya d7.v e0 (wN (X _ _ _ _ R S rfl U V W (b.pk 4 [2,2,0] rfl) c)))))
  exact wp_skip (X _ _ _ _ R S T U V W b c)
 refine wp_exit (b4 _ _ _ rfl ?_)
 cases c
 refine b1 _ _ _ _ rfl rfl ?_
 obtain rfl:=a9 _ rfl
 refine a6 _ _ _ (a4 _ _ (sR fun _ d8=>Ym j.v (eh C) (Ya j.v e0 (wK d8 (wp_ret ?_)))))
 cases r
 exact Z _ _ _ (fin1r Tryz.results103 ⟨rfl,rfl⟩ ⟨_,rfl,(b.pk 3 [2] rfl)⟩)
theorem matrix_within_ok {a c d:Int} {out:Bool} (i:matrix_within a c d=some out) (g:St w0 ros rs w):
  Calls Tryz.prog 135 #[iV a,iV c,iV d] w (fun e w=>e=.returned (.bool out)∧St w0 ros rs w):=by
 refine enterQ Tryz.func135 rfl Tryz.ntmps135 rfl fun Q j=>sR fun _ k=>Ya (.bool false) rfl (wK k (sR fun _ l=>Ym (iV a) e0 (Ym (iV c) e0 (yY (ygeq e0 e0) (Ym (.bool (decide (c≤a))) e0 ?_)))))
 refine joinW 4 (fun f w=>f 14=.bool ((decide (c≤a)) && (decide (a≤d)))∧St w0 ros rs w) (fun h=>?_) ?_
 ·rcases Bool.eq_false_or_eq_true (decide (c≤a)) with b | b
  ·exact yG b (m_ (iV a) e0) (yG b (m_ (iV d) e0) (yG b (yleq e0 e0) (yY (pt_ (.bool (decide (a≤d))) e0 b e0) (h _ _ ⟨(congrArg Value.bool (andT b)),g⟩))))
  exact gN b (gN b (gN b (yY (pf_ (.bool false) e0 b rfl) (h _ _ ⟨(congrArg Value.bool (andF b)),g⟩))))
 rintro f w ⟨m,g⟩
 refine Ya (.bool ((decide (c≤a)) && (decide (a≤d)))) (eh m) (wK l (wp_ret ?_))
 cases i
 exact j _ _ _ (fin1r Tryz.results135 ⟨rfl,rfl⟩ ⟨rfl,g⟩)
theorem slices_IsSorted_int_ok {k:LI} {g:Hdr} {out:Bool} (i:slices_IsSorted_int k=some out) (h:imm I1 g.v k∈ros) (c:St w0 ros rs w):
  Calls Tryz.prog 153 #[g.v] w (fun e w=>e=.returned (.bool out)∧St w0 ros rs w):=by
 refine enterQ Tryz.func153 rfl Tryz.ntmps153 rfl fun Q m=>sR fun _ u=>Ya (.bool false) rfl (wK u (seqQ fun O x y=>sR fun _ z=>Ym g.v e0 (yY (yLen SL_22 e0 c (rdI h)) (yY (ysub e0 rfl) (Ya (iV (ws .i64 (k.length:Int) 1)) e0 (wN ?_))))))
 refine z _ _ (blockQ fun _ n=>bE i fun R A i=>?_)
 refine loopQ (fun s a w=>∃ (d:Int) (f:FV),d=s∧a=fr 21 f∧f 0=g.v∧f 3=iV d∧St w0 ros rs w) A ⟨_,_,rfl,rfl,rfl,rfl,c⟩ ?_
 rintro _ _ w S ⟨d,f,rfl,rfl,l,j,c⟩ b o T B p
 refine seqQ fun U C D=>sR fun _ E=>Ym (iV d) (eh j) (yY (ygtr e0 rfl) (wK E ?_))
 refine cIf e0 b (fun F b=>?_) fun F b=>?_
 ·refine wp_skip (C _ _ (seqQ fun V G H=>blockQ fun _ q=>sQ fun _ I=>bE b fun W r b=>bE b fun X t b=>bE b fun Z J b=>dR [0,0,3,7,0,0,32,112,240,511] [9] 1 folM ?_))
  replace c:=c.drew
  refine Dn [0,1,2,3,4,5,6,7,8] [] [9] (yR rfl (m_ g.v (eh l)) (yR rfl (m_ (iV d) (eh j)) (yR rfl (yIa SL_22 e0 e0 c (rdI h) r) (yR rfl (yI O_3 e0 c (rdI h) r) (yR rfl (m_ g.v (eh l)) (yR rfl (m_ (iV d) (eh j)) (yR rfl (ysub e0 rfl) (yR rfl (yIa SL_22 e0 e0 c (rdI h) t) (yR rfl (yI O_3 e0 c (rdI h) t) (Rn QSn ?_))))))))))
  refine Lc1 rfl ?_
  refine Lk wn (yCall FN_101 (a2 e0 e0)) (cmp_Less_int_ok J c) ?_
  rintro _ w ⟨rfl,c⟩
  refine ⟨_,rfl,?_⟩
  refine Dz [] [] (Rn QSn (I _ _ (cB e0 b (fun K b=>?_) fun K b=>?_)))
  ·refine sR fun _ L=>Ya (.bool false) rfl (wK L (wp_ret (q _ _ _ (H _ _ _ rfl ?_))))
   cases b
   refine p _ _ _ _ rfl rfl ?_
   obtain rfl:=o _ rfl
   refine n _ _ _ (y _ _ _ rfl ?_)
   cases i
   exact m _ _ _ (fin1r Tryz.results153 ⟨rfl,rfl⟩ ⟨rfl,c⟩)
  refine wp_skip (q _ _ _ (G _ _ (wR (Ym (iV d) (eh j) (yY (ysub e0 rfl) (Ya (iV (ws .i64 d 1)) e0 (wN ?_)))))))
  cases b
  exact B _ _ _ rfl ⟨_,_,rfl,rfl,l,rfl,c⟩
 refine wp_exit (D _ _ _ rfl ?_)
 cases b
 refine p _ _ _ _ rfl rfl ?_
 obtain rfl:=o _ rfl
 refine n _ _ _ (x _ _ (sR fun _ N=>Ya (.bool true) rfl (wK N (wp_ret ?_))))
 cases i
 exact m _ _ _ (fin1r Tryz.results153 ⟨rfl,rfl⟩ ⟨rfl,c⟩)
theorem matrix_columns_ok {C h:Int} {L b4 b5:LI} {i m I:Hdr} {out:Bool} (l:matrix_columns C h L b4 b5=some out) (g:imm I1 i.v L∈ros) (T:imm I1 m.v b4∈ros) (d9:imm (rI .u64) I.v b5∈ros) (b:St w0 ros rs w):
  Calls Tryz.prog 136 #[.agg #[iV C,iV h,i.v,m.v,I.v]] w (fun e w=>e=.returned (.bool out)∧St w0 ros rs w):=by
 refine enterQ Tryz.func136 rfl Tryz.ntmps136 rfl fun Q a6=>sR fun _ e1=>yBb (r_box (vals:=[iV C,iV h,i.v,m.v,I.v]) b e0 rfl) fun J w b=>Ya (.bool false) rfl (wK e1 (seqQ fun j5 e2 e3=>sQ fun _ e4=>bE l fun x N l=>bE l fun r E l=>bE l fun p y l=>bE l fun R z l=>?_))
 refine joinN (n:=84) (fun f w=>f 1=(pB J)∧f 47=.bool R∧St w0 ros (box J 91 [iV C,iV h,i.v,m.v,I.v]::rs) w) (fun U=>?_) ?_
 ·rcases iteS N with ⟨d,N⟩ | ⟨d,N⟩
  ·refine bE N fun j6 K N=>?_
   have W:=someI N
   rcases iteS E with ⟨j,E⟩ | ⟨j,E⟩
   ·have b6:=someI E
    have t:r=true:=b6.symm
    rw [if_pos t] at y
    have b7:=someI y
    have F:p=true:=b7.symm
    rw [if_pos F] at z
    have e5:=someI z
    refine dR [0,1,3,0,8,24,63,127,255,511,1023,2047,4095,8191,16383,32767,65535,131071,262143,524287,1048575,2097151,4194303,2097151,10485759,33554431,67108863,2097151,136314879,404750335,1073741823,2147483647,4294967295,8589934591,17179869183,34359738367,8589934591,77309411327,214748364799,549755813887,1099511627775] [17] 1 folM ?_
    replace b:=b.drew
    refine Dn [0,1,2,3,4,5,6,7,8,9,10,11,12,13,14,15,16] [] [17] (yR rfl (yFb FL_91_2 e0) (yR rfl (lb_ i.v O_22 e0 b R0) (yR rfl (yLen SL_22 e0 b (rdI g)) (yR rfl (yFb FL_91_1 e0) (yR rfl (lb_ (iV h) O_3 e0 b R0) (yR rfl (yadd e0 rfl) (yR rfl (yneq e0 e0) (yR rfl (m_ (.bool (!(decide ((L.length:Int)=(wa .i64 h 1))))) e0) (Ry rfl rfl (wG (nF (dT d))) (yFb FL_91_2 e0) (Ry rfl rfl (wG (nF (dT d))) (lb_ i.v O_22 e0 b R0) (Ry rfl rfl (wG (nF (dT d))) (yIa SL_22 e0 rfl b (rdI g) K) (Ry rfl rfl (wG (nF (dT d))) (yI O_3 e0 b (rdI g) K) (Ry rfl rfl (wG (nF (dT d))) (yneq e0 rfl) ?_)))))))))))))
    refine yR rfl (pf_ (.bool x) e0 (nF (dT d)) (eqv W e0)) (yR rfl (m_ (.bool x) e0) (Rx rfl rfl (wX j) (Rx rfl rfl (wX j) (Rn QSn ?_))))
    refine Lc1 rfl ?_
    refine Lx (wX j) (Dz [18,19,20,21,22,23,24,25,26,27,28,29,30,31,32,33,34,35,36,37,38,39,40] [] (Rx rfl rfl (wX j) (yR rfl (pt_ (.bool r) e0 j (eqv b6 rfl)) (yR rfl (m_ (.bool r) e0) (Rx rfl rfl (wX t) (Rx rfl rfl (wX t) (Rx rfl rfl (wX t) (Rx rfl rfl (wX t) (Rx rfl rfl (wX t) (Rx rfl rfl (wX t) (Rx rfl rfl (wX t) (Rx rfl rfl (wX t) (Rx rfl rfl (wX t) ?_)))))))))))))
    exact Rx rfl rfl (wX t) (yR rfl (pt_ (.bool p) e0 t (eqv b7 rfl)) (yR rfl (m_ (.bool p) e0) (Rx rfl rfl (wX F) (Rx rfl rfl (wX F) (Rx rfl rfl (wX F) (Rx rfl rfl (wX F) (Rx rfl rfl (wX F) (Rx rfl rfl (wX F) (Rx rfl rfl (wX F) (yR rfl (pt_ (.bool R) e0 F (eqv e5 rfl)) (Rn QSn (U _ _ ⟨rfl,rfl,b⟩))))))))))))
   refine bE E fun j7 a7 E=>?_
   have a8:=someI E
   rcases iteS y with ⟨c,y⟩ | ⟨c,y⟩
   ·have b8:=someI y
    have G:p=true:=b8.symm
    rw [if_pos G] at z
    have e6:=someI z
    refine dR [0,1,3,0,8,24,63,127,255,511,1023,2047,4095,8191,16383,32767,65535,131071,262143,524287,1048575,2097151,4194303,2097151,10485759,33554431,67108863,2097151,136314879,404750335,1073741823,2147483647,4294967295,8589934591,17179869183,34359738367,8589934591,77309411327,214748364799,549755813887,1099511627775] [17] 1 folM ?_
    replace b:=b.drew
    refine Dn [0,1,2,3,4,5,6,7,8,9,10,11,12,13,14,15,16] [] [17] (yR rfl (yFb FL_91_2 e0) (yR rfl (lb_ i.v O_22 e0 b R0) (yR rfl (yLen SL_22 e0 b (rdI g)) (yR rfl (yFb FL_91_1 e0) (yR rfl (lb_ (iV h) O_3 e0 b R0) (yR rfl (yadd e0 rfl) (yR rfl (yneq e0 e0) (yR rfl (m_ (.bool (!(decide ((L.length:Int)=(wa .i64 h 1))))) e0) (Ry rfl rfl (wG (nF (dT d))) (yFb FL_91_2 e0) (Ry rfl rfl (wG (nF (dT d))) (lb_ i.v O_22 e0 b R0) (Ry rfl rfl (wG (nF (dT d))) (yIa SL_22 e0 rfl b (rdI g) K) (Ry rfl rfl (wG (nF (dT d))) (yI O_3 e0 b (rdI g) K) (Ry rfl rfl (wG (nF (dT d))) (yneq e0 rfl) ?_)))))))))))))
    refine yR rfl (pf_ (.bool x) e0 (nF (dT d)) (eqv W e0)) (yR rfl (m_ (.bool x) e0) (Ry rfl rfl (wG (bfalse j)) (yFb FL_91_2 e0) (Ry rfl rfl (wG (bfalse j)) (lb_ i.v O_22 e0 b R0) (Rn QSn ?_))))
    refine Lc1 rfl ?_
    refine Lk (wG (bfalse j)) (yCall FN_153 (a1 e0)) (slices_IsSorted_int_ok a7 g b) ?_
    rintro _ w ⟨rfl,b⟩
    refine ⟨_,rfl,?_⟩
    refine Dz [18,19,20,21,22,23,24,25,26,27,28,29,30,31,32,33,34,35,36,37,38,39,40] [] (Ry rfl rfl (wG (bfalse j)) (ynot e0) (yR rfl (pf_ (.bool r) e0 (bfalse j) (eqv a8 e0)) (yR rfl (m_ (.bool r) e0) (Rx rfl rfl (wX c) (Rx rfl rfl (wX c) (Rx rfl rfl (wX c) (Rx rfl rfl (wX c) (Rx rfl rfl (wX c) (Rx rfl rfl (wX c) (Rx rfl rfl (wX c) (Rx rfl rfl (wX c) (Rx rfl rfl (wX c) (Rx rfl rfl (wX c) ?_)))))))))))))
    exact yR rfl (pt_ (.bool p) e0 c (eqv b8 rfl)) (yR rfl (m_ (.bool p) e0) (Rx rfl rfl (wX G) (Rx rfl rfl (wX G) (Rx rfl rfl (wX G) (Rx rfl rfl (wX G) (Rx rfl rfl (wX G) (Rx rfl rfl (wX G) (Rx rfl rfl (wX G) (yR rfl (pt_ (.bool R) e0 G (eqv e6 rfl)) (Rn QSn (U _ _ ⟨rfl,rfl,b⟩)))))))))))
   refine bE y fun j8 X y=>?_
   have c0:=someI y
   rcases iteS z with ⟨k,z⟩ | ⟨k,z⟩
   ·have e7:=someI z
    refine dR [0,1,3,0,8,24,63,127,255,511,1023,2047,4095,8191,16383,32767,65535,131071,262143,524287,1048575,2097151,4194303,2097151,10485759,33554431,67108863,2097151,136314879,404750335,1073741823,2147483647,4294967295,8589934591,17179869183,34359738367,8589934591,77309411327,214748364799,549755813887,1099511627775] [17] 1 folM ?_
    replace b:=b.drew
    refine Dn [0,1,2,3,4,5,6,7,8,9,10,11,12,13,14,15,16] [] [17] (yR rfl (yFb FL_91_2 e0) (yR rfl (lb_ i.v O_22 e0 b R0) (yR rfl (yLen SL_22 e0 b (rdI g)) (yR rfl (yFb FL_91_1 e0) (yR rfl (lb_ (iV h) O_3 e0 b R0) (yR rfl (yadd e0 rfl) (yR rfl (yneq e0 e0) (yR rfl (m_ (.bool (!(decide ((L.length:Int)=(wa .i64 h 1))))) e0) (Ry rfl rfl (wG (nF (dT d))) (yFb FL_91_2 e0) (Ry rfl rfl (wG (nF (dT d))) (lb_ i.v O_22 e0 b R0) (Ry rfl rfl (wG (nF (dT d))) (yIa SL_22 e0 rfl b (rdI g) K) (Ry rfl rfl (wG (nF (dT d))) (yI O_3 e0 b (rdI g) K) (Ry rfl rfl (wG (nF (dT d))) (yneq e0 rfl) ?_)))))))))))))
    refine yR rfl (pf_ (.bool x) e0 (nF (dT d)) (eqv W e0)) (yR rfl (m_ (.bool x) e0) (Ry rfl rfl (wG (bfalse j)) (yFb FL_91_2 e0) (Ry rfl rfl (wG (bfalse j)) (lb_ i.v O_22 e0 b R0) (Rn QSn ?_))))
    refine Lc1 rfl ?_
    refine Lk (wG (bfalse j)) (yCall FN_153 (a1 e0)) (slices_IsSorted_int_ok a7 g b) ?_
    rintro _ w ⟨rfl,b⟩
    refine ⟨_,rfl,?_⟩
    refine Dz [18,19,20,21,22,23,24,25,26,27,28,29,30,31,32,33,34,35,36,37,38,39,40] [] (Ry rfl rfl (wG (bfalse j)) (ynot e0) (yR rfl (pf_ (.bool r) e0 (bfalse j) (eqv a8 e0)) (yR rfl (m_ (.bool r) e0) (Ry rfl rfl (wG (bfalse c)) (yFb FL_91_2 e0) (Ry rfl rfl (wG (bfalse c)) (lb_ i.v O_22 e0 b R0) (Ry rfl rfl (wG (bfalse c)) (yFb FL_91_1 e0) (Ry rfl rfl (wG (bfalse c)) (lb_ (iV h) O_3 e0 b R0) (Ry rfl rfl (wG (bfalse c)) (yIa SL_22 e0 e0 b (rdI g) X) (Ry rfl rfl (wG (bfalse c)) (yI O_3 e0 b (rdI g) X) (Ry rfl rfl (wG (bfalse c)) (yFb FL_91_3 e0) (Ry rfl rfl (wG (bfalse c)) (lb_ m.v O_22 e0 b R0) (Ry rfl rfl (wG (bfalse c)) (yLen SL_22 e0 b (rdI T)) (Ry rfl rfl (wG (bfalse c)) (yneq e0 e0) ?_)))))))))))))
    exact yR rfl (pf_ (.bool p) e0 (bfalse c) (eqv c0 e0)) (yR rfl (m_ (.bool p) e0) (Rx rfl rfl (wX k) (Rx rfl rfl (wX k) (Rx rfl rfl (wX k) (Rx rfl rfl (wX k) (Rx rfl rfl (wX k) (Rx rfl rfl (wX k) (Rx rfl rfl (wX k) (yR rfl (pt_ (.bool R) e0 k (eqv e7 rfl)) (Rn QSn (U _ _ ⟨rfl,rfl,b⟩)))))))))))
   have e8:=someI z
   refine dR [0,1,3,0,8,24,63,127,255,511,1023,2047,4095,8191,16383,32767,65535,131071,262143,524287,1048575,2097151,4194303,2097151,10485759,33554431,67108863,2097151,136314879,404750335,1073741823,2147483647,4294967295,8589934591,17179869183,34359738367,8589934591,77309411327,214748364799,549755813887,1099511627775] [17] 1 folM ?_
   replace b:=b.drew
   refine Dn [0,1,2,3,4,5,6,7,8,9,10,11,12,13,14,15,16] [] [17] (yR rfl (yFb FL_91_2 e0) (yR rfl (lb_ i.v O_22 e0 b R0) (yR rfl (yLen SL_22 e0 b (rdI g)) (yR rfl (yFb FL_91_1 e0) (yR rfl (lb_ (iV h) O_3 e0 b R0) (yR rfl (yadd e0 rfl) (yR rfl (yneq e0 e0) (yR rfl (m_ (.bool (!(decide ((L.length:Int)=(wa .i64 h 1))))) e0) (Ry rfl rfl (wG (nF (dT d))) (yFb FL_91_2 e0) (Ry rfl rfl (wG (nF (dT d))) (lb_ i.v O_22 e0 b R0) (Ry rfl rfl (wG (nF (dT d))) (yIa SL_22 e0 rfl b (rdI g) K) (Ry rfl rfl (wG (nF (dT d))) (yI O_3 e0 b (rdI g) K) (Ry rfl rfl (wG (nF (dT d))) (yneq e0 rfl) ?_)))))))))))))
   refine yR rfl (pf_ (.bool x) e0 (nF (dT d)) (eqv W e0)) (yR rfl (m_ (.bool x) e0) (Ry rfl rfl (wG (bfalse j)) (yFb FL_91_2 e0) (Ry rfl rfl (wG (bfalse j)) (lb_ i.v O_22 e0 b R0) (Rn QSn ?_))))
   refine Lc1 rfl ?_
   refine Lk (wG (bfalse j)) (yCall FN_153 (a1 e0)) (slices_IsSorted_int_ok a7 g b) ?_
   rintro _ w ⟨rfl,b⟩
   refine ⟨_,rfl,?_⟩
   refine Dz [18,19,20,21,22,23,24,25,26,27,28,29,30,31,32,33,34,35,36,37,38,39,40] [] (Ry rfl rfl (wG (bfalse j)) (ynot e0) (yR rfl (pf_ (.bool r) e0 (bfalse j) (eqv a8 e0)) (yR rfl (m_ (.bool r) e0) (Ry rfl rfl (wG (bfalse c)) (yFb FL_91_2 e0) (Ry rfl rfl (wG (bfalse c)) (lb_ i.v O_22 e0 b R0) (Ry rfl rfl (wG (bfalse c)) (yFb FL_91_1 e0) (Ry rfl rfl (wG (bfalse c)) (lb_ (iV h) O_3 e0 b R0) (Ry rfl rfl (wG (bfalse c)) (yIa SL_22 e0 e0 b (rdI g) X) (Ry rfl rfl (wG (bfalse c)) (yI O_3 e0 b (rdI g) X) (Ry rfl rfl (wG (bfalse c)) (yFb FL_91_3 e0) (Ry rfl rfl (wG (bfalse c)) (lb_ m.v O_22 e0 b R0) (Ry rfl rfl (wG (bfalse c)) (yLen SL_22 e0 b (rdI T)) (Ry rfl rfl (wG (bfalse c)) (yneq e0 e0) ?_)))))))))))))
   exact yR rfl (pf_ (.bool p) e0 (bfalse c) (eqv c0 e0)) (yR rfl (m_ (.bool p) e0) (Ry rfl rfl (wG (bfalse k)) (yFb FL_91_3 e0) (Ry rfl rfl (wG (bfalse k)) (lb_ m.v O_22 e0 b R0) (Ry rfl rfl (wG (bfalse k)) (yLen SL_22 e0 b (rdI T)) (Ry rfl rfl (wG (bfalse k)) (yFb FL_91_4 e0) (Ry rfl rfl (wG (bfalse k)) (lb_ I.v O_89 e0 b R0) (Ry rfl rfl (wG (bfalse k)) (yLen SL_89 e0 b (rdI d9)) (Ry rfl rfl (wG (bfalse k)) (yneq e0 e0) (yR rfl (pf_ (.bool R) e0 (bfalse k) (eqv e8 e0)) (Rn QSn (U _ _ ⟨rfl,rfl,b⟩)))))))))))
  have c1:=someI N
  have S:x=true:=c1.symm
  rw [if_pos S] at E
  have c2:=someI E
  have u:r=true:=c2.symm
  rw [if_pos u] at y
  have c3:=someI y
  have H:p=true:=c3.symm
  rw [if_pos H] at z
  have e9:=someI z
  refine dR [0,1,3,0,8,24,63,127,255,511,1023,2047,4095,8191,16383,32767,65535,131071,262143,524287,1048575,2097151,4194303,2097151,10485759,33554431,67108863,2097151,136314879,404750335,1073741823,2147483647,4294967295,8589934591,17179869183,34359738367,8589934591,77309411327,214748364799,549755813887,1099511627775] [17] 1 folM ?_
  replace b:=b.drew
  refine Dn [0,1,2,3,4,5,6,7,8,9,10,11,12,13,14,15,16] [] [17] (yR rfl (yFb FL_91_2 e0) (yR rfl (lb_ i.v O_22 e0 b R0) (yR rfl (yLen SL_22 e0 b (rdI g)) (yR rfl (yFb FL_91_1 e0) (yR rfl (lb_ (iV h) O_3 e0 b R0) (yR rfl (yadd e0 rfl) (yR rfl (yneq e0 e0) (yR rfl (m_ (.bool (!(decide ((L.length:Int)=(wa .i64 h 1))))) e0) (Rx rfl rfl (wX (nT (dF d))) (Rx rfl rfl (wX (nT (dF d))) (Rx rfl rfl (wX (nT (dF d))) (Rx rfl rfl (wX (nT (dF d))) (Rx rfl rfl (wX (nT (dF d))) ?_)))))))))))))
  refine yR rfl (pt_ (.bool x) e0 (nT (dF d)) (eqv c1 rfl)) (yR rfl (m_ (.bool x) e0) (Rx rfl rfl (wX S) (Rx rfl rfl (wX S) (Rn QSn ?_))))
  refine Lc1 rfl ?_
  refine Lx (wX S) (Dz [18,19,20,21,22,23,24,25,26,27,28,29,30,31,32,33,34,35,36,37,38,39,40] [] (Rx rfl rfl (wX S) (yR rfl (pt_ (.bool r) e0 S (eqv c2 rfl)) (yR rfl (m_ (.bool r) e0) (Rx rfl rfl (wX u) (Rx rfl rfl (wX u) (Rx rfl rfl (wX u) (Rx rfl rfl (wX u) (Rx rfl rfl (wX u) (Rx rfl rfl (wX u) (Rx rfl rfl (wX u) (Rx rfl rfl (wX u) (Rx rfl rfl (wX u) ?_)))))))))))))
  exact Rx rfl rfl (wX u) (yR rfl (pt_ (.bool p) e0 u (eqv c3 rfl)) (yR rfl (m_ (.bool p) e0) (Rx rfl rfl (wX H) (Rx rfl rfl (wX H) (Rx rfl rfl (wX H) (Rx rfl rfl (wX H) (Rx rfl rfl (wX H) (Rx rfl rfl (wX H) (Rx rfl rfl (wX H) (yR rfl (pt_ (.bool R) e0 H (eqv e9 rfl)) (Rn QSn (U _ _ ⟨rfl,rfl,b⟩))))))))))))
 rintro f w ⟨c4,f0,b⟩
 refine e4 _ _ (cB (eh f0) l (fun f1 l=>?_) fun f1 l=>?_)
 ·refine sR fun _ f2=>Ya (.bool false) rfl (wK f2 (wp_ret (e3 _ _ _ rfl ?_)))
  cases l
  exact a6 _ _ _ (fin1r Tryz.results136 ⟨rfl,rfl⟩ ⟨rfl,(b.pk 1 [] rfl)⟩)
 refine wp_skip (e2 _ _ (seqQ fun j9 f3 f4=>sR fun _ f5=>yY (yFb FL_91_1 (eh c4)) (yY (lb_ (iV h) O_3 e0 b R0) (Ym (iV 0) rfl (wK f5 (blockQ fun _ c5=>bE l fun k0 f6 l=>?_))))))
 refine loopQ (fun s a w=>∃ (D:Int) (f:FV),D=s∧a=fr 84 f∧f 1=(pB J)∧f 49=iV h∧f 50=iV D∧St w0 ros (box J 91 [iV C,iV h,i.v,m.v,I.v]::rs) w) f6 ⟨_,_,rfl,rfl,c4,rfl,rfl,b⟩ ?_
 rintro _ _ w k7 ⟨D,f,rfl,rfl,Z,c6,a9,b⟩ o c7 k8 f7 c8
 refine sR fun _ f8=>yY (ylss (eh a9) (eh c6)) (wK f8 (seqQ fun k9 f9 g0=>?_))
 refine cIf e0 o (fun g1 o=>?_) fun g1 o=>?_
 ·refine wp_skip (f9 _ _ (seqQ fun l0 g2 g3=>blockQ fun _ c9=>sR fun _ g4=>Ym (iV D) (eh a9) (Ya (iV D) e0 (wK g4 (sR fun _ g5=>Ya (iV (-1)) rfl (wN ?_))))))
  refine g5 _ _ (sQ fun _ g6=>bE o fun a0 d0 o=>bE o fun a2 d1 o=>bE o fun a3 d2 o=>dR [0,1,0,4,0,28,60,0,128,0,512,1920,3968,8191,16383,0] [] 0 folM ?_)
  replace b:=b.drew
  refine Dz [0,1,2,3,4,5,6,7,8,9,10,11,12,13,14,15] [] (yR rfl (yFb FL_91_3 (eh Z)) (yR rfl (lb_ m.v O_22 e0 b R0) (yR rfl (yFb FL_91_2 (eh Z)) (yR rfl (lb_ i.v O_22 e0 b R0) (yR rfl (m_ (iV D) e0) (yR rfl (yIa SL_22 e0 e0 b (rdI g) d0) (yR rfl (yI O_3 e0 b (rdI g) d0) (yR rfl (yFb FL_91_2 (eh Z)) (yR rfl (lb_ i.v O_22 e0 b R0) (yR rfl (m_ (iV D) e0) (yR rfl (yadd e0 rfl) (yR rfl (yIa SL_22 e0 e0 b (rdI g) d1) (yR rfl (yI O_3 e0 b (rdI g) d1) ?_)))))))))))))
  refine yR rfl (ySl SL_22 e0 b (rdI T) (.inl (congrArg some e0)) (.inl (congrArg some e0)) d2) ?_
  replace b:=b.sub T d2
  refine yR rfl (yLen SL_22 e0 b (rdI F0)) (yR rfl (m_ (iV 0) rfl) (Rn QSn (g6 _ _ (blockQ fun _ d3=>bE o fun l1 g7 o=>?_))))
  refine loopQ (fun s a w=>∃ (O V:Int) (f:FV),(O,V)=s∧a=fr 84 f∧f 1=(pB J)∧f 4=iV O∧f 49=iV h∧f 50=iV D∧f 66=(subH m 1 a0 a2).v∧f 67=iV (a3.length:Int)∧f 68=iV V∧St w0 (imm I1 (subH m 1 a0 a2).v a3::ros) (box J 91 [iV C,iV h,i.v,m.v,I.v]::rs) w) g7 ⟨_,_,_,rfl,rfl,Z,rfl,c6,a9,rfl,rfl,rfl,b⟩ ?_
  rintro _ _ w l2 ⟨O,V,f,rfl,rfl,a4,g8,b0,b1,b2,b3,a5,b⟩ A d4 l3 g9 d5
  refine sR fun _ h0=>yY (ylss (eh a5) (eh b3)) (wK h0 (seqQ fun l4 h1 h2=>?_))
  refine cIf e0 A (fun h3 A=>?_) fun h3 A=>?_
  ·refine wp_skip (h1 _ _ (seqQ fun l5 h5 h7=>blockQ fun _ d6=>sR fun _ h9=>bE A fun B d7 A=>yY (yIa SL_22 (eh b2) (eh a5) b (rdI F0) d7) (yY (yI O_3 e0 b (rdI F0) d7) (Ya (iV B) e0 (wK h9 (seqQ fun l6 i0 i1=>sQ fun _ i2=>?_))))))
   refine wR (Ym (iV B) e0 (Ym (iV O) (eh g8) (yY (yleq e0 e0) (Ym (.bool (decide (B≤O))) e0 ?_))))
   refine joinW 5 (fun f w=>f 1=(pB J)∧f 6=iV B∧f 49=iV h∧f 50=iV D∧f 66=(subH m 1 a0 a2).v∧f 67=iV (a3.length:Int)∧f 68=iV V∧f 80=.bool ((decide (B≤O)) || (decide (C≤B)))∧St w0 (imm I1 (subH m 1 a0 a2).v a3::ros) (box J 91 [iV C,iV h,i.v,m.v,I.v]::rs) w) (fun d8=>?_) ?_
   ·rcases Bool.eq_false_or_eq_true (decide (B≤O)) with q | q
    ·exact gN q (gN q (gN q (gN q (yY (pt_ (.bool true) e0 q rfl) (d8 _ _ ⟨a4,rfl,b0,b1,b2,b3,a5,(congrArg Value.bool (orT q)),b⟩)))))
    exact yG q (m_ (iV B) e0) (yG q (yFb FL_91_0 (eh a4)) (yG q (lb_ (iV C) O_3 e0 b R0) (yG q (ygeq e0 e0) (yY (pf_ (.bool (decide (C≤B))) e0 q e0) (d8 _ _ ⟨a4,rfl,b0,b1,b2,b3,a5,(congrArg Value.bool (orF q)),b⟩)))))
   rintro f w ⟨i3,i4,i5,i6,i7,i8,i9,j0,b⟩
   refine wK i2 (cB (eh j0) A (fun j2 A=>?_) fun j2 A=>?_)
   ·refine sR fun _ j3=>Ya (.bool false) rfl (wK j3 (wp_ret (i1 _ _ _ rfl (d6 _ _ _ (h7 _ _ _ rfl ?_)))))
    cases A
    refine d5 _ _ _ _ rfl rfl ?_
    obtain rfl:=d4 _ rfl
    refine d3 _ _ _ (c9 _ _ _ (g3 _ _ _ rfl ?_))
    cases o
    refine c8 _ _ _ _ rfl rfl ?_
    obtain rfl:=c7 _ rfl
    refine c5 _ _ _ (f4 _ _ _ rfl ?_)
    cases l
    exact a6 _ _ _ (fin1r Tryz.results136 ⟨rfl,rfl⟩ ⟨rfl,((b.pk 1 [] rfl).facts (allT allI))⟩)
   refine wp_skip (i0 _ _ (wR (Ym (iV B) (eh i4) (Ya (iV B) e0 (wN (d6 _ _ _ (h5 _ _ (wR (yY (yadd (eh i9) rfl) (Ym (iV (wa .i64 V 1)) e0 (wN ?_)))))))))))
   cases A
   exact g9 _ _ _ rfl ⟨_,_,_,rfl,rfl,i3,rfl,i5,i6,i7,i8,rfl,b⟩
  refine wp_exit (h2 _ _ _ rfl ?_)
  cases A
  refine d5 _ _ _ _ rfl rfl ?_
  obtain rfl:=d4 _ rfl
  refine d3 _ _ _ (c9 _ _ _ (g2 _ _ (wR (yY (yadd (eh b1) rfl) (Ym (iV (wa .i64 D 1)) e0 (wN ?_))))))
  cases o
  exact f7 _ _ _ rfl ⟨_,_,rfl,rfl,a4,b0,rfl,(b.facts (allT allI))⟩
 refine wp_exit (g0 _ _ _ rfl ?_)
 cases o
 refine c8 _ _ _ _ rfl rfl ?_
 obtain rfl:=c7 _ rfl
 refine c5 _ _ _ (f3 _ _ (sR fun _ j4=>Ya (.bool true) rfl (wK j4 (wp_ret ?_))))
 cases l
 exact a6 _ _ _ (fin1r Tryz.results136 ⟨rfl,rfl⟩ ⟨rfl,(b.pk 1 [] rfl)⟩)
theorem float_parts_ok {a:Int} {out:Int×Int} (b:float_parts a=some out) (c:St w0 ros rs w):
  Calls Tryz.prog 155 #[.int .u64 a] w (fun e w=>e=.returned (.tuple #[iV out.1,.int .u64 out.2])∧St w0 ros rs w):=by
 refine enterQ Tryz.func155 rfl Tryz.ntmps155 rfl fun Q d=>sR fun _ f=>Ya (iV 0) rfl (Ya (.int .u64 0) rfl (wK f (sR fun _ g=>Ym (.int .u64 a) e0 (yY (yshrc e0 rfl) (yY (yand e0 rfl) (yY (ycv (k':=.i64) (by kernel_rfl) (by kernel_rfl) e0) (Ym (.int .u64 a) e0 ?_)))))))
 refine yY (yand e0 rfl) (Ya (iV (wc .i64 (wand .u64 (wsrc .u64 a 52) 2047))) e0 (Ya (.int .u64 (wand .u64 a 4503599627370495)) e0 (wK g (wp_ret ?_))))
 cases b
 exact d _ _ _ (fin2r Tryz.results155 ⟨rfl,rfl⟩ ⟨rfl,rfl⟩ ⟨rfl,c⟩)
theorem float_IsFinite_ok {b:Int} {out:Bool} (c:float_IsFinite b=some out) (d:St w0 ros rs w):
  Calls Tryz.prog 139 #[.int .u64 b] w (fun e w=>e=.returned (.bool out)∧St w0 ros rs w):=by
 refine enterQ Tryz.func139 rfl Tryz.ntmps139 rfl fun Q f=>sR fun _ g=>Ya (.bool false) rfl (wK g (sR fun _ h=>Ym (.int .u64 b) e0 (bE c fun a i c=>yC (yCall FN_155 (a1 e0)) (float_parts_ok i d) ?_)))
 rintro _ w ⟨rfl,d⟩
 refine ⟨_,rfl,?_⟩
 refine Ym (.tuple #[iV a.1,.int .u64 a.2]) e0 (yY (x_ (iV a.1) e0) (yY (x_ (.int .u64 a.2) e0) (Ya (iV a.1) e0 (Ya (.int .u64 a.2) e0 (wK h (sR fun _ j=>Ym (iV a.1) e0 (yY (yneq e0 rfl) (Ya (.bool (!(decide (a.1=2047)))) e0 (wK j ?_)))))))))
 refine wp_ret ?_
 cases c
 exact f _ _ _ (fin1r Tryz.results139 ⟨rfl,rfl⟩ ⟨rfl,d⟩)
theorem matrix_Check_1_ok {a:Int} {out:Bool} (b:matrix_Check_1 a=some out) (c:St w0 ros rs w):
  Calls Tryz.prog 138 #[.int .u64 a] w (fun e w=>e=.returned (.bool out)∧St w0 ros rs w):=by
 refine enterQ Tryz.func138 rfl Tryz.ntmps138 rfl fun Q d=>sR fun _ f=>Ya (.bool false) rfl (wK f (sR fun _ g=>Ym (.int .u64 a) e0 (bE b fun h i b=>yC (yCall FN_139 (a1 e0)) (float_IsFinite_ok i c) ?_)))
 rintro _ w ⟨rfl,c⟩
 refine ⟨_,rfl,?_⟩
 refine yY (ynot e0) (Ya (.bool (!h)) e0 (wK g (wp_ret ?_)))
 cases b
 exact d _ _ _ (fin1r Tryz.results138 ⟨rfl,rfl⟩ ⟨rfl,c⟩)
theorem slices_IndexFunc_apiFloat_ok {i:LI} {g:Hdr} {out:Int} (h:slices_IndexFunc_apiFloat i=some out) (j:imm (rI .u64) g.v i∈ros) (c:St w0 ros rs w):
  Calls Tryz.prog 154 #[g.v,.func (.func 138) #[] #[]] w (fun e w=>e=.returned (iV out)∧St w0 ros rs w):=by
 refine enterQ Tryz.func154 rfl Tryz.ntmps154 rfl fun Q l=>sR fun _ x=>Ya (iV 0) rfl (wK x (seqQ fun S y z=>sR fun _ A=>Ym g.v e0 (yY (yLen SL_89 e0 c (rdI j)) (Ym (iV 0) rfl (wK A ?_)))))
 refine blockQ fun _ m=>bE h fun T B h=>?_
 refine loopQ (fun s a w=>∃ (d:Int) (f:FV),d=s∧a=fr 19 f∧f 0=g.v∧f 1=.func (.func 138) #[] #[]∧f 7=iV (i.length:Int)∧f 8=iV d∧St w0 ros rs w) B ⟨_,_,rfl,rfl,rfl,rfl,rfl,rfl,c⟩ ?_
 rintro _ _ w U ⟨d,f,rfl,rfl,n,o,p,k,c⟩ b q V C r
 refine sR fun _ D=>yY (ylss (eh k) (eh p)) (wK D (seqQ fun W E F=>?_))
 refine cIf e0 b (fun G b=>?_) fun G b=>?_
 ·refine wp_skip (E _ _ (seqQ fun X H I=>blockQ fun _ t=>sR fun _ J=>Ym (iV d) (eh k) (Ya (iV d) e0 (wK J (sR fun _ K=>Ym (.func (.func 138) #[] #[]) (eh o) (Ym g.v (eh n) ?_))))))
  refine Ym (iV d) e0 (bE b fun Z u b=>yY (yIa SL_89 e0 e0 c (rdI j) u) (yY (yI O_82 e0 c (rdI j) u) (bE b fun a0 L b=>yC (yCallw FN_138 e0 (a1 e0)) (matrix_Check_1_ok L c) ?_)))
  rintro _ w ⟨rfl,c⟩
  refine ⟨_,rfl,?_⟩
  refine wK K (cB e0 b (fun N b=>?_) fun N b=>?_)
  ·refine sR fun _ O=>Ym (iV d) e0 (Ya (iV d) e0 (wK O (wp_ret (t _ _ _ (I _ _ _ rfl ?_)))))
   cases b
   refine r _ _ _ _ rfl rfl ?_
   obtain rfl:=q _ rfl
   refine m _ _ _ (z _ _ _ rfl ?_)
   cases h
   exact l _ _ _ (fin1r Tryz.results154 ⟨rfl,rfl⟩ ⟨rfl,c⟩)
  refine wp_skip (t _ _ _ (H _ _ (wR (yY (yadd (eh k) rfl) (Ym (iV (wa .i64 d 1)) e0 (wN ?_))))))
  cases b
  exact C _ _ _ rfl ⟨_,_,rfl,rfl,n,o,p,rfl,c⟩
 refine wp_exit (F _ _ _ rfl ?_)
 cases b
 refine r _ _ _ _ rfl rfl ?_
 obtain rfl:=q _ rfl
 refine m _ _ _ (y _ _ (sR fun _ R=>Ya (iV (-1)) rfl (wK R (wp_ret ?_))))
 cases h
 exact l _ _ _ (fin1r Tryz.results154 ⟨rfl,rfl⟩ ⟨rfl,c⟩)
theorem slices_ContainsFunc_apiFloat_ok {d:LI} {a:Hdr} {out:Bool} (b:slices_ContainsFunc_apiFloat d=some out) (f:imm (rI .u64) a.v d∈ros) (c:St w0 ros rs w):
  Calls Tryz.prog 137 #[a.v,.func (.func 138) #[] #[]] w (fun e w=>e=.returned (.bool out)∧St w0 ros rs w):=by
 refine enterQ Tryz.func137 rfl Tryz.ntmps137 rfl fun Q g=>sR fun _ h=>Ya (.bool false) rfl (wK h (sR fun _ i=>Ym a.v e0 (Ym (.func (.func 138) #[] #[]) e0 (bE b fun j k b=>yC (yCall FN_154 (a2 e0 e0)) (slices_IndexFunc_apiFloat_ok k f c) ?_))))
 rintro _ w ⟨rfl,c⟩
 refine ⟨_,rfl,?_⟩
 refine yY (ygeq e0 rfl) (Ya (.bool (decide ((0:Int)≤j))) e0 (wK i (wp_ret ?_)))
 cases b
 exact g _ _ _ (fin1r Tryz.results137 ⟨rfl,rfl⟩ ⟨rfl,c⟩)
theorem matrix_Check_ok {g h:Int} {u m x:LI} {l i j:Hdr} {out:Int} (b:matrix_Check g h u m x=some out) (D:imm I1 l.v u∈ros) (y:imm I1 i.v m∈ros) (z:imm (rI .u64) j.v x∈ros) (a:St w0 ros rs w):
  Calls Tryz.prog 122 #[.agg #[iV g,iV h,l.v,i.v,j.v]] w (fun e w=>e=.returned (iV out)∧St w0 ros rs w):=by
 refine enterQ Tryz.func122 rfl Tryz.ntmps122 rfl fun Q o=>sR fun _ E=>yBb (r_box (vals:=[iV g,iV h,l.v,i.v,j.v]) a e0 rfl) fun p w a=>Ya (iV 0) rfl (wK E (seqQ fun a6 F r=>blockQ fun _ q=>sR fun _ G=>yY (yFb FL_91_0 e0) (yY (lb_ (iV g) O_3 e0 a R0) ?_)))
 refine bE b fun H I b=>yC (yCall FN_135 (a3 e0 rfl rfl)) (matrix_within_ok I a) ?_
 rintro _ w ⟨rfl,a⟩
 refine ⟨_,rfl,?_⟩
 refine yY (ynot e0) (Ym (.bool (!H)) e0 (bE b fun n k b=>?_))
 refine joinW 5 (fun f w=>f 1=(pB p)∧f 13=.bool n∧St w0 ros (box p 91 [iV g,iV h,l.v,i.v,j.v]::rs) w) (fun A=>?_) ?_
 ·rcases iteS k with ⟨d,k⟩ | ⟨d,k⟩
  ·refine yG (nF d) (yFb FL_91_1 e0) (yG (nF d) (lb_ (iV h) O_3 e0 a R0) (bE k fun J K k=>Yc (wG (nF d)) rfl (yCall FN_135 (a3 e0 rfl rfl)) (matrix_within_ok K a) ?_))
   rintro _ w ⟨rfl,a⟩
   refine ⟨_,rfl,?_⟩
   refine yG (nF d) (ynot e0) (yY (pf_ (.bool (!J)) e0 (nF d) e0) ?_)
   cases k
   exact A _ _ ⟨rfl,rfl,a⟩
  refine gN (nT (bfalse d)) (gN (nT (bfalse d)) (gN (nT (bfalse d)) (gN (nT (bfalse d)) (yY (pt_ (.bool true) e0 (nT (bfalse d)) rfl) ?_))))
  cases k
  exact A _ _ ⟨rfl,rfl,a⟩
 rintro f w ⟨s,L,a⟩
 refine Ym (.bool n) (eh L) ?_
 refine joinW 5 (fun f w=>f 1=(pB p)∧f 19=.bool (n || (decide ((10000:Int) < (m.length:Int))))∧St w0 ros (box p 91 [iV g,iV h,l.v,i.v,j.v]::rs) w) (fun B=>?_) ?_
 ·rcases Bool.eq_false_or_eq_true n with c | c
  ·exact gN c (gN c (gN c (gN c (yY (pt_ (.bool true) e0 c rfl) (B _ _ ⟨s,(congrArg Value.bool (orT c)),a⟩)))))
  exact yG c (yFb FL_91_3 (eh s)) (yG c (lb_ i.v O_22 e0 a R0) (yG c (yLen SL_22 e0 a (rdI y)) (yG c (ygtr e0 rfl) (yY (pf_ (.bool (decide ((10000:Int) < (m.length:Int)))) e0 c e0) (B _ _ ⟨s,(congrArg Value.bool (orF c)),a⟩)))))
 rintro f w ⟨C,N,a⟩
 refine Ya (.bool (n || (decide ((10000:Int) < (m.length:Int))))) (eh N) (wK G (cB e0 b (fun O b=>?_) fun O b=>?_))
 ·refine sR fun _ R=>Ya (iV 6) rfl (wK R (wp_ret (q _ _ _ (r _ _ _ rfl ?_))))
  cases b
  exact o _ _ _ (fin1r Tryz.results122 ⟨rfl,rfl⟩ ⟨rfl,(a.pk 1 [] rfl)⟩)
 refine sR fun _ S=>yY (lbs_ [iV g,iV h,l.v,i.v,j.v] ST_91 (eh C) a R0) (bE b fun T U b=>yC (yCall FN_136 (a1 e0)) (matrix_columns_ok U D y z a) ?_)
 rintro _ w ⟨rfl,a⟩
 refine ⟨_,rfl,?_⟩
 refine yY (ynot e0) (Ya (.bool (!T)) e0 (wK S ?_))
 rcases iteS b with ⟨t,b⟩ | ⟨t,b⟩
 ·refine condF e0 (nF t) (sR fun _ V=>yY (yFb FL_91_4 (eh C)) (yY (lb_ j.v O_89 e0 a R0) (bE b fun W X b=>yC (yCall FN_137 (a2 e0 rfl)) (slices_ContainsFunc_apiFloat_ok X z a) ?_)))
  rintro _ w ⟨rfl,a⟩
  refine ⟨_,rfl,?_⟩
  refine Ya (.bool W) e0 (wK V (cB e0 b (fun Z b=>?_) fun Z b=>?_))
  ·refine sR fun _ a0=>Ya (iV 4) rfl (wK a0 (wp_ret (q _ _ _ (r _ _ _ rfl ?_))))
   cases b
   exact o _ _ _ (fin1r Tryz.results122 ⟨rfl,rfl⟩ ⟨rfl,(a.pk 1 [] rfl)⟩)
  refine wp_skip (q _ _ _ (F _ _ (sR fun _ a4=>Ya (iV 0) rfl (wK a4 (wp_ret ?_)))))
  cases b
  exact o _ _ _ (fin1r Tryz.results122 ⟨rfl,rfl⟩ ⟨rfl,(a.pk 1 [] rfl)⟩)
 refine condT e0 (nT (bfalse t)) (sR fun _ a5=>Ya (iV 1) rfl (wK a5 (wp_ret (q _ _ _ (r _ _ _ rfl ?_)))))
 cases b
 exact o _ _ _ (fin1r Tryz.results122 ⟨rfl,rfl⟩ ⟨rfl,(a.pk 1 [] rfl)⟩)
end Go.Proofs.YthpeajepbffinaaGreat
