/- Walks: each function computes its model, printed. -/
import Derived.Test.YtpfmbaidflhamaaDoorW2
namespace Go.Proofs.YtpfmbaidflhamaaDoor
open Go Sx M
set_option maxRecDepth 100000
set_option maxHeartbeats 40000000
set_option linter.unusedVariables false
attribute [local irreducible] wpList Code.wp Calls DR QR QS LA LS St
variable {w0:World} {ros:List Fact} {rs:List Res} {w:World}
theorem exact_eliminate_ok {b7:List (List (Bool×LI))} {k:Int} {c:Hdr} {b9:List Hdr} {out:(List (List (Bool×LI)))×LI×Bool×LI×Int} (o:exact_eliminate b7 k=some out) (b:St w0 ros (row 31 rH c.v b9::fam 34 (rP rB (rS (rI .u32))) b9 b7::rs) w):
  Calls Tryd.prog 36 #[c.v,iV k] w (fun e w=>∃ (c0:List Hdr) (c1 c2:Hdr),e=.returned (.agg #[c.v,c1.v,.bool out.2.2.1,c2.v,iV out.2.2.2.2])∧St w0 (imm (rI .u32) c2.v out.2.2.2.1::ros) (row 31 rH c.v c0::fam 34 (rP rB (rS (rI .u32))) c0 out.1::row 3 I1 c1.v out.2.1::rs) w):=by
 refine enterQ Tryd.func36 rfl Tryd.ntmps36 rfl fun Q d6=>sR fun _ d7=>yBb (rAl b ZT_62) fun h w b=>wK d7 (scopeQ fun j8 qs2=>sR fun _ d8=>Ym c.v e0 (bE o fun D d9 o=>yC (yCall FN_48 (a1 rfl)) (integer_FromInt_ok d9 b) ?_))
 rintro _ w ⟨E,rfl,b⟩
 refine ⟨_,rfl,?_⟩
 refine yY (ybuild (us:=[c.v,hnil.v,.bool D.1,E.v,iV 1]) [(0,c.v),(2,.agg #[.bool D.1,E.v]),(3,iV 1)] SO_62 (bp3 e0 e0 rfl) rfl) (yBb (rAl b ZT_62) fun i w b=>yT (r_stbn (vals':=[c.v,hnil.v,.bool D.1,E.v,iV 1]) (us:=[c.v,hnil.v,.bool D.1,E.v,iV 1]) b ST_62 e0 e0 rfl rfl (one_of rfl) rfl) fun w b=>wK d8 (sQ fun _ e1=>wp_label (e1 _ _ (sQ fun _ e2=>sR fun _ e3=>Ym (iV k) e0 ?_))))
 refine Ym (iV 0) rfl (wK e3 (blockQ fun e4 e5=>bE o fun e6 e7 o=>?_))
 have e8:∀ (I:List (List (Bool×LI))) (J:LI) (r:Bool) (K:LI) (t:Int) (L:List Hdr) (u:Hdr) (x:Hdr) (f:FV) w,f 4=(pB h)→f 5=(pB i)→St w0 (imm (rI .u32) x.v K::ros) (row 31 rH c.v L::fam 34 (rP rB (rS (rI .u32))) L I::box h 62 [hnil.v,hnil.v,.bool false,hnil.v,iV 0]::row 3 I1 u.v J::box i 62 [c.v,u.v,.bool r,x.v,iV t]::rs) w→(I,J,r,K,t)=e6→e4 (.exit 0) (fr 41 f) w:=by
  intro I J r K t L u x f w c3 e9 b ho
  subst ho
  refine e5 _ _ _ (e2 _ _ (sR fun _ f0=>yY (lbs_ [c.v,u.v,.bool r,x.v,iV t] ST_62 (eh e9) b R4) (yT (r_stbn (vals':=[c.v,u.v,.bool r,x.v,iV t]) (us:=[c.v,u.v,.bool r,x.v,iV t]) (b.k1f) ST_62 (eh c3) e0 rfl rfl (one_of rfl) rfl) fun w b=>wK f0 (wp_ret (qs2 _ _ _ rfl ?_)))))
  cases o
  exact d6 _ _ _ (fin1r Tryd.results36 (rcs2 rfl c3 b R0 ST_62 rfl) ⟨_,_,_,rfl,(b.k1p)⟩)
 replace b:=b.rowNh 3 I1
 refine loopQ (fun s a w=>∃ (y:List (List (Bool×LI))) (j:LI) (z:Bool) (A:LI) (B:Int) (g:Int) (f:FV) (p:List Hdr) (l:Hdr) (q:Hdr),(y,j,z,A,B,g)=s∧a=fr 41 f∧f 0=c.v∧f 4=(pB h)∧f 5=(pB i)∧f 12=iV k∧f 13=iV g∧St w0 (imm (rI .u32) q.v A::ros) (row 31 rH c.v p::fam 34 (rP rB (rS (rI .u32))) p y::box h 62 [hnil.v,hnil.v,.bool false,hnil.v,iV 0]::row 3 I1 l.v j::box i 62 [c.v,l.v,.bool z,q.v,iV B]::rs) w) e7 ⟨_,_,_,_,_,_,_,_,_,_,rfl,rfl,rfl,rfl,rfl,rfl,rfl,(b.k1q)⟩ ?_
 rintro _ _ w f1 ⟨y,j,z,A,B,g,f,p,l,q,rfl,rfl,f2,c4,N,c5,O,b⟩ m f3 j9 f4 f5
 refine sR fun _ f6=>yY (ylss (eh O) (eh c5)) (wK f6 (seqQ fun k0 f7 f8=>?_))
 refine cIf e0 m (fun f9 m=>?_) fun f9 m=>?_
 ·refine wp_skip (f7 _ _ (sQ fun g0 g1=>?_))
  have c6:∀ (R:List (List (Bool×LI))) (S:LI) (T:Bool) (U:LI) (V:Int) (W:List Hdr) (X:Hdr) (Z:Hdr) (f:FV) w,f 0=c.v→f 4=(pB h)→f 5=(pB i)→f 12=iV k→f 13=iV g→St w0 (imm (rI .u32) Z.v U::ros) (row 31 rH c.v W::fam 34 (rP rB (rS (rI .u32))) W R::box h 62 [hnil.v,hnil.v,.bool false,hnil.v,iV 0]::row 3 I1 X.v S::box i 62 [c.v,X.v,.bool T,Z.v,iV V]::rs) w→exact_eliminate_j12 g R S T U V=some f1→g0 .normal (fr 41 f) w:=by
   intro R S T U V W X Z f w g2 g3 g4 g5 g6 b o
   refine g1 _ _ (wR (yY (yadd (eh g6) rfl) (Ym (iV (wa .i64 g 1)) e0 (wN ?_))))
   cases o
   exact f4 _ _ _ rfl ⟨_,_,_,_,_,_,_,_,_,_,rfl,rfl,g2,g3,g4,g5,rfl,b⟩
  refine blockQ fun _ c7=>sR fun _ g7=>Ym (iV g) (eh O) (Ya (iV g) e0 (wK g7 (sR fun _ g8=>yY (yFb FL_62_1 (eh N)) (yY (lb_ l.v O_22 e0 b R4) (yY (yLen SL_22 e0 b rO3) (Ya (iV (j.length:Int)) e0 (wN ?_)))))))
  refine g8 _ _ (sR fun _ g9=>Ym (iV (j.length:Int)) e0 (Ya (iV (j.length:Int)) e0 (wK g9 (blockQ fun c8 c9=>bE m fun d0 h0 m=>?_))))
  have h1:∀ (a0:List (List (Bool×LI))) (a2:LI) (a3:Bool) (a5:LI) (a6:Int) (a7:List Hdr) (a8:Hdr) (a9:Hdr) (f:FV) w,f 0=c.v→f 4=(pB h)→f 5=(pB i)→f 12=iV k→f 13=iV g→St w0 (imm (rI .u32) a9.v a5::ros) (row 31 rH c.v a7::fam 34 (rP rB (rS (rI .u32))) a7 a0::box h 62 [hnil.v,hnil.v,.bool false,hnil.v,iV 0]::row 3 I1 a8.v a2::box i 62 [c.v,a8.v,.bool a3,a9.v,iV a6]::rs) w→.inl (a0,a2,a3,a5,a6)=d0→c8 (.exit 1) (fr 41 f) w:=by
   intro a0 a2 a3 a5 a6 a7 a8 a9 f w h3 h4 h5 h6 h8 b ho
   subst ho
   exact c9 _ _ _ (c7 _ _ _ (c6 _ _ _ _ _ _ _ _ _ _ h3 h4 h5 h6 h8 b m))
  have h9:∀ (f:FV) w,f 0=c.v→f 4=(pB h)→f 5=(pB i)→f 12=iV k→f 13=iV g→St w0 (imm (rI .u32) q.v A::ros) (row 31 rH c.v p::fam 34 (rP rB (rS (rI .u32))) p y::box h 62 [hnil.v,hnil.v,.bool false,hnil.v,iV 0]::row 3 I1 l.v j::box i 62 [c.v,l.v,.bool z,q.v,iV B]::rs) w→.inr ()=d0→c8 (.exit 2) (fr 41 f) w:=by
   intro f w i0 i1 i2 i3 i4 b ho
   subst ho
   exact c9 _ _ _ (c7 _ _ _ (c6 _ _ _ _ _ _ _ _ _ _ i0 i1 i2 i3 i4 b m))
  refine loopQ (fun s a w=>∃ (n:Int) (f:FV),n=s∧a=fr 41 f∧f 0=c.v∧f 4=(pB h)∧f 5=(pB i)∧f 6=iV g∧f 7=iV (j.length:Int)∧f 8=iV n∧f 12=iV k∧f 13=iV g∧St w0 (imm (rI .u32) q.v A::ros) (row 31 rH c.v p::fam 34 (rP rB (rS (rI .u32))) p y::box h 62 [hnil.v,hnil.v,.bool false,hnil.v,iV 0]::row 3 I1 l.v j::box i 62 [c.v,l.v,.bool z,q.v,iV B]::rs) w) h0 ⟨_,_,rfl,rfl,f2,c4,N,rfl,rfl,rfl,c5,O,b⟩ ?_
  rintro _ _ w k2 ⟨n,f,rfl,rfl,C,b0,F,b1,d1,G,b2,b3,b⟩ d d2 k7 i5 d3
  refine seqQ fun k8 i6 i7=>sR fun _ i8=>Ym (iV n) (eh G) (Ym c.v (eh C) (yY (yLenF SLH_25 e0 b rO0 R1) (yY (ylss e0 e0) (wK i8 ?_))))
  refine cIf e0 d (fun i9 d=>?_) fun i9 d=>?_
  ·refine wp_skip (i6 _ _ (seqQ fun k9 j0 j1=>blockQ fun _ d4=>sR fun _ j2=>Ym c.v (eh C) (Ym (iV n) (eh G) (bE d fun l0 b4 d=>?_))))
   obtain ⟨l1,H⟩:=b.famI R1 b4
   refine yY (yIa SLH_25 e0 e0 b rO0 H) (yY (yF1 O_31 e0 b rO0 H rfl) (Ym (iV g) (eh b1) (bE d fun j3 d5 d=>yY (yIa SL_31 e0 e0 b (rdF R1 H b4) d5) ?_)))
   obtain ⟨l2,l3,cc521,b⟩:=b.ld (rdF R1 H b4) d5
   replace b:=b.eltP
   obtain ⟨l4,l5,rfl,b⟩:=b
   replace b:=b.eltB
   obtain ⟨rfl,b⟩:=b
   replace b:=b.eltS
   obtain ⟨j4,rfl,b⟩:=b
   refine yY (yCn (cs:=[.bool j3.1,j4.v]) ST_34 rfl e0 cc521) (bE d fun l6 j5 d=>yC (yCall FN_18 (a1 e0)) (integer_Sign_ok j5 F0 b) ?_)
   rintro _ w ⟨rfl,b⟩
   refine ⟨_,rfl,?_⟩
   refine yY (yneq e0 rfl) (wK j2 ?_)
   rcases iteS d with ⟨b6,d⟩ | ⟨b6,d⟩
   ·refine condF e0 (nF (dT b6)) (wp_skip (d4 _ _ _ (j0 _ _ (wR (Ym (iV n) (eh G) (yY (yadd e0 rfl) (Ya (iV (wa .i64 n 1)) e0 (wN ?_))))))))
    cases d
    exact i5 _ _ _ rfl ⟨_,_,rfl,rfl,C,b0,F,b1,d1,rfl,b2,b3,(b.facts (allC F1 (allT (allT allI))))⟩
   ·refine condT e0 (nT (dF b6)) (sR fun _ j6=>Ym (iV g) (eh b1) (Ym (iV (j.length:Int)) (eh d1) (Ym (iV n) (eh G) (bE d fun l7 j7 d=>?_))))
    replace b:=b.k1r
    refine yC (yCall FN_55 (a4 (eh F) e0 e0 e0)) (exact_reduced_step_ok j7 F1 b) ?_
    rintro _ w ⟨l8,l9,m0,rfl,b⟩
    refine ⟨_,rfl,?_⟩
    refine wK j6 (wp_exit (d4 _ _ _ (j1 _ _ _ rfl ?_)))
    cases d
    exact d3 _ _ _ _ rfl rfl (h1 _ _ _ _ _ _ _ _ _ _ C b0 F b2 b3 ((b.k1s).facts (allC F0 (allT (allT (allT allI))))) (d2 _ rfl))
  ·refine wp_exit (i7 _ _ _ rfl ?_)
   cases d
   exact d3 _ _ _ _ rfl rfl (h9 _ _ C b0 F b2 b3 b (d2 _ rfl))
 ·refine wp_exit (f8 _ _ _ rfl ?_)
  cases m
  exact f5 _ _ _ _ rfl rfl (e8 _ _ _ _ _ _ _ _ _ _ c4 N b (f3 _ rfl))
theorem integer_Neg_ok {b:Bool} {f:LI} {d:Hdr} {out:Bool×LI} (c:integer_Neg b f=some out) (j:imm (rI .u32) d.v f∈ros) (a:St w0 ros rs w):
  Calls Tryd.prog 11 #[.agg #[.bool b,d.v]] w (fun e w=>∃ (g:Hdr),e=.returned (.agg #[.bool out.1,g.v])∧St w0 (imm (rI .u32) g.v out.2::ros) rs w):=by
 refine enterQ Tryd.func11 rfl Tryd.ntmps11 rfl fun Q k=>sR fun _ l=>yBb (r_box (vals:=[.bool b,d.v]) a e0 rfl) fun p w a=>yBb (rAl a ZT_34) fun q w a=>wK l (sQ fun _ m=>bE c fun r n c=>bE c fun h o c=>dR [0,1,3,0,8,24,63,127] [5,6,7] 3 folM ?_)
 replace a:=a.drew
 refine Dn [0,1,2,3,4] [] [5] (yR rfl (yFb FL_34_0 e0) (yR rfl (lb_ (.bool b) O_4 e0 a R1) (yR rfl (ynot e0) (yR rfl (yFb FL_34_1 e0) (yR rfl (lb_ d.v O_32 e0 a R1) (Rn QSn ?_))))))
 refine Lc1 rfl ?_
 refine Lk wn (yCall FN_29 (a1 e0)) (slices_Clone_uint32_ok n j a) ?_
 rintro _ w ⟨s,rfl,a⟩
 refine ⟨_,rfl,?_⟩
 refine Dn [] [0,1,2] [6] (Rn (yS rfl (yFb FL_34_0 e0) (yS rfl (lb_ (.bool b) O_4 e0 a R2) (yS rfl (ynot e0) QSn))) ?_)
 refine Lc1 rfl ?_
 replace a:=a.fz
 refine Lk wn (yCall FN_28 (a2 e0 e0)) (integer_big_ok o F0 a) ?_
 rintro _ w ⟨i,rfl,a⟩
 refine ⟨_,rfl,?_⟩
 refine Dn [] [] [7] (Rn QSn ?_)
 refine Lc1 rfl ?_
 refine LT wn (r_stbn (vals':=[.bool h.1,i.v]) (us:=[.bool h.1,i.v]) a ST_34 e0 e0 rfl rfl (one_of rfl) rfl) fun w a=>Dz [] [] (Rn QSn (m _ _ (wp_ret ?_)))
 cases c
 exact k _ _ _ (fin1r Tryd.results11 (rcs2 rfl rfl a R0 ST_34 rfl) ⟨_,rfl,((a.k14).facts (allC F0 (allT (allT allI))))⟩)
theorem exact_reduced_turned_ok {k:List (List (Bool×LI))} {l:LI} {f:Bool} {m:LI} {h:Int} {c:Bool} {n:LI} {i j g d:Hdr} {out:Bool×LI} (b:exact_reduced_turned k l f m h c n=some out) (I:imm (rS (rP rB (rS (rI .u32)))) i.v k∈ros) (J:imm I1 j.v l∈ros) (x:imm (rI .u32) g.v m∈ros) (o:imm (rI .u32) d.v n∈ros) (a:St w0 ros rs w):
  Calls Tryd.prog 37 #[.agg #[i.v,j.v,.bool f,g.v,iV h],.agg #[.bool c,d.v]] w (fun e w=>∃ (p:Hdr),e=.returned (.agg #[.bool out.1,p.v])∧St w0 (imm (rI .u32) p.v out.2::ros) rs w):=by
 refine enterQ Tryd.func37 rfl Tryd.ntmps37 rfl fun Q q=>sR fun _ y=>yBb (r_box (vals:=[i.v,j.v,.bool f,g.v,iV h]) a e0 rfl) fun K w a=>yBb (r_box (vals:=[.bool c,d.v]) a e0 rfl) fun L w a=>yBb (rAl a ZT_34) fun N w a=>wK y (seqQ fun O z A=>sR fun _ B=>?_)
 refine yY (yFb FL_62_2 e0) (yY (lbs_ [.bool f,g.v] ST_34 e0 a R2) (bE b fun R C b=>yC (yCall FN_18 (a1 e0)) (integer_Sign_ok C x a) ?_))
 rintro _ w ⟨rfl,a⟩
 refine ⟨_,rfl,?_⟩
 refine yY (ylss e0 rfl) (wK B ?_)
 refine cIf e0 b (fun D b=>?_) fun D b=>?_
 ·refine sR fun _ E=>yY (lbs_ [.bool c,d.v] ST_34 e0 a R1) (bE b fun r F b=>yC (yCall FN_11 (a1 e0)) (integer_Neg_ok F o a) ?_)
  rintro _ w ⟨s,rfl,a⟩
  refine ⟨_,rfl,?_⟩
  refine yT (r_stbn (vals':=[.bool r.1,s.v]) (us:=[.bool r.1,s.v]) a ST_34 e0 e0 rfl rfl (one_of rfl) rfl) fun w a=>wK E (wp_ret (A _ _ _ rfl ?_))
  cases b
  exact q _ _ _ (fin1r Tryd.results37 (rcs2 rfl rfl a R0 ST_34 rfl) ⟨_,rfl,(a.k1c)⟩)
 ·refine wp_skip (z _ _ (sR fun _ G=>yY (lbs_ [.bool c,d.v] ST_34 e0 a R1) (bE b fun t H b=>yC (yCall FN_51 (a1 e0)) (integer_Norm_ok H o a) ?_)))
  rintro _ w ⟨u,rfl,a⟩
  refine ⟨_,rfl,?_⟩
  refine yT (r_stbn (vals':=[.bool t.1,u.v]) (us:=[.bool t.1,u.v]) a ST_34 e0 e0 rfl rfl (one_of rfl) rfl) fun w a=>wK G (wp_ret ?_)
  cases b
  exact q _ _ _ (fin1r Tryd.results37 (rcs2 rfl rfl a R0 ST_34 rfl) ⟨_,rfl,(a.k1c)⟩)
theorem integer_Abs_ok {d:Bool} {f:LI} {c:Hdr} {out:Bool×LI} (b:integer_Abs d f=some out) (j:imm (rI .u32) c.v f∈ros) (a:St w0 ros rs w):
  Calls Tryd.prog 20 #[.agg #[.bool d,c.v]] w (fun e w=>∃ (g:Hdr),e=.returned (.agg #[.bool out.1,g.v])∧St w0 (imm (rI .u32) g.v out.2::ros) rs w):=by
 refine enterQ Tryd.func20 rfl Tryd.ntmps20 rfl fun Q k=>sR fun _ l=>yBb (r_box (vals:=[.bool d,c.v]) a e0 rfl) fun p w a=>yBb (rAl a ZT_34) fun q w a=>wK l (sR fun _ m=>yY (yFb FL_34_1 e0) (yY (lb_ c.v O_32 e0 a R1) (bE b fun r n b=>?_)))
 refine yC (yCall FN_29 (a1 e0)) (slices_Clone_uint32_ok n j a) ?_
 rintro _ w ⟨s,rfl,a⟩
 refine ⟨_,rfl,?_⟩
 refine bE b fun h o b=>?_
 replace a:=a.fz
 refine yC (yCall FN_28 (a2 rfl e0)) (integer_big_ok o F0 a) ?_
 rintro _ w ⟨i,rfl,a⟩
 refine ⟨_,rfl,?_⟩
 refine yT (r_stbn (vals':=[.bool h.1,i.v]) (us:=[.bool h.1,i.v]) a ST_34 e0 e0 rfl rfl (one_of rfl) rfl) fun w a=>wK m (wp_ret ?_)
 cases b
 exact k _ _ _ (fin1r Tryd.results20 (rcs2 rfl rfl a R0 ST_34 rfl) ⟨_,rfl,((a.k14).facts (allC F0 (allT (allT allI))))⟩)
theorem exact_Solve_ok {B:List (List (Bool×LI))} {C:List (Bool×LI)} {h r:Hdr} {out:(List (Bool×LI))×Bool×LI×Int} (c:exact_Solve B C=some out) (m:imm (rS (rP rB (rS (rI .u32)))) h.v B∈ros) (K:imm (rP rB (rS (rI .u32))) r.v C∈ros) (b:St w0 ros rs w):
  Calls Tryd.prog 16 #[h.v,r.v] w (fun e w=>∃ (L N:Hdr),e=.returned (.tuple #[L.v,.agg #[.bool out.2.1,N.v],iV out.2.2.2])∧St w0 (imm (rI .u32) N.v out.2.2.1::ros) (row 34 (rP rB (rS (rI .u32))) L.v out.1::rs) w):=by
 refine enterQ Tryd.func16 rfl Tryd.ntmps16 rfl fun Q t=>sR fun _ a5=>Ya hnil.v rfl (yBb (rAl b ZT_34) fun u w b=>Ya (iV 0) rfl (wK a5 (sR fun _ a6=>Ym h.v e0 (bE c fun p a7 c=>yC (yCall FN_24 (a1 e0)) (exact_square_ok a7 m b) ?_))))
 rintro _ w ⟨rfl,b⟩
 refine ⟨_,rfl,?_⟩
 refine Ya (iV p) e0 (wK a6 (seqQ fun f1 a8 O=>blockQ fun _ D=>sR fun _ a9=>Ym (iV p) e0 (yY (yneq e0 rfl) (Ya (.bool (!(decide (p=0)))) e0 (wK a9 ?_)))))
 rcases iteS c with ⟨E,c⟩ | ⟨E,c⟩
 ·refine condF e0 (nF (dT E)) (sR fun _ b0=>Ym r.v e0 (yY (yLen SL_31 e0 b (rdI K)) (Ym h.v e0 (yY (yLen SL_25 e0 b (rdI m)) (yY (yneq e0 e0) (Ya (.bool (!(decide ((C.length:Int)=(B.length:Int))))) e0 (wK b0 ?_)))))))
  rcases iteS c with ⟨F,c⟩ | ⟨F,c⟩
  ·refine condF e0 (nF (dT F)) (wp_skip (D _ _ _ (a8 _ _ (sR fun _ b1=>Ym h.v e0 (Ym r.v e0 (bE c fun f2 b2 c=>yC (yCall FN_27 (a2 e0 e0)) (exact_twin_ok b2 m K b) ?_))))))
   rintro _ w ⟨i,f3,rfl,b⟩
   refine ⟨_,rfl,?_⟩
   refine Ym h.v e0 (yY (yLen SL_25 e0 b (rdI m)) (bE c fun d b3 c=>yC (yCall FN_36 (a2 e0 e0)) (exact_eliminate_ok b3 b) ?_))
   rintro _ w ⟨f4,j,k,rfl,b⟩
   refine ⟨_,rfl,?_⟩
   refine yBb (rAl b ZT_62) fun x w b=>yT (r_stbn (vals':=[i.v,j.v,.bool d.2.2.1,k.v,iV d.2.2.2.2]) (us:=[i.v,j.v,.bool d.2.2.1,k.v,iV d.2.2.2.2]) b ST_62 e0 e0 rfl rfl (one_of rfl) rfl) fun w b=>wK b1 (seqQ fun f5 b4 b6=>sR fun _ b7=>yY (yFb FL_62_1 e0) (yY (lb_ j.v O_22 e0 b R0) (yY (yLen SL_22 e0 b rO3) (Ym h.v e0 (yY (yLen SL_25 e0 b (rdI (mtF m))) ?_)))))
   refine yY (ylss e0 e0) (wK b7 ?_)
   refine cIf e0 c (fun b8 c=>?_) fun b8 c=>?_
   ·refine sR fun _ b9=>yY (ybuild (us:=[.bool false,hnil.v]) [] SO_34 bp0 rfl) (Ya hnil.v rfl (yT (r_stbn (vals':=[.bool false,hnil.v]) (us:=[.bool false,hnil.v]) (b.k1a) ST_34 e0 e0 rfl rfl (one_of rfl) rfl) fun w b=>Ya (iV 9) rfl (wK b9 (wp_ret (b6 _ _ _ rfl ?_)))))
    cases c
    replace b:=(b.rowNh 34 (rP rB (rS (rI .u32)))).immNh (rI .u32)
    exact t _ _ _ (fin3r Tryd.results16 ⟨rfl,rfl⟩ (rcs2 rfl rfl b R1 ST_34 rfl) ⟨rfl,rfl⟩ ⟨_,_,rfl,((b.k1t).facts (allC F0 (allT (allT allI))))⟩)
   ·refine wp_skip (b4 _ _ (sQ fun _ c0=>sR fun _ c1=>yY (yFb FL_62_0 e0) (yY (lb_ i.v O_25 e0 b R0) (yY (yLenF SLH_25 e0 b rO1 R2) (Ym (iV 0) rfl (wK c1 (blockQ fun c2 c3=>bE c fun c4 c5 c=>?_)))))))
    have c6:∀ (G:List (Bool×LI)) (q:Hdr) (f:FV) w,f 4=q.v→f 5=(pB u)→f 7=(pB x)→St w0 (imm (rS (rP rB (rS (rI .u32)))) i.v d.1::imm I1 j.v d.2.1::imm (rI .u32) k.v d.2.2.2.1::ros) (row 34 (rP rB (rS (rI .u32))) q.v G::box u 34 [.bool false,hnil.v]::box x 62 [i.v,j.v,.bool d.2.2.1,k.v,iV d.2.2.2.2]::rs) w→G=c4→c2 (.exit 1) (fr 59 f) w:=by
     intro G q f w c9 R d0 b ho
     subst ho
     refine c3 _ _ _ (c0 _ _ (sR fun _ d1=>Ym q.v (eh c9) (yY (yFb FL_62_2 (eh d0)) (yY (lbs_ [.bool d.2.2.1,k.v] ST_34 e0 b R2) (bE c fun S d2 c=>yC (yCall FN_20 (a1 e0)) (integer_Abs_ok d2 F2 b) ?_)))))
     rintro _ w ⟨T,rfl,b⟩
     refine ⟨_,rfl,?_⟩
     refine Ya q.v e0 (yT (r_stbn (vals':=[.bool S.1,T.v]) (us:=[.bool S.1,T.v]) (b.k10) ST_34 (eh R) e0 rfl rfl (one_of rfl) rfl) fun w b=>Ya (iV 0) rfl (wK d1 (wp_ret ?_)))
     cases c
     exact t _ _ _ (fin3r Tryd.results16 ⟨rfl,rfl⟩ (rcs2 rfl R b R0 ST_34 rfl) ⟨rfl,rfl⟩ ⟨_,_,rfl,((b.k1u).facts (allC F0 (allT (allT (allT (allT allI))))))⟩)
    replace b:=((((b.rowNh 34 (rP rB (rS (rI .u32)))).k1v).ffz).k1f).fz
    refine loopQ (fun s a w=>∃ (H:List (Bool×LI)) (y:Int) (f:FV) (o:Hdr),(H,y)=s∧a=fr 59 f∧f 0=h.v∧f 4=o.v∧f 5=(pB u)∧f 7=(pB x)∧f 38=i.v∧f 39=iV (d.1.length:Int)∧f 40=iV y∧St w0 (imm (rS (rP rB (rS (rI .u32)))) i.v d.1::imm I1 j.v d.2.1::imm (rI .u32) k.v d.2.2.2.1::ros) (row 34 (rP rB (rS (rI .u32))) o.v H::box u 34 [.bool false,hnil.v]::box x 62 [i.v,j.v,.bool d.2.2.1,k.v,iV d.2.2.2.2]::rs) w) c5 ⟨_,_,_,_,rfl,rfl,rfl,rfl,rfl,rfl,rfl,rfl,rfl,((b.k1w).facts (allC F1 (allC F0 (allC F2 (allT (allT (allT allI)))))))⟩ ?_
    rintro _ _ w f6 ⟨H,y,f,o,rfl,rfl,U,z,V,I,W,X,J,b⟩ g d3 f7 d4 d5
    refine sR fun _ d6=>yY (ylss (eh J) (eh X)) (wK d6 (seqQ fun f8 d7 d8=>?_))
    refine cIf e0 g (fun d9 g=>?_) fun d9 g=>?_
    ·refine wp_skip (d7 _ _ (sQ fun _ e1=>blockQ fun _ e2=>sR fun _ e3=>bE g fun f9 Z g=>yY (yIa SL_25 (eh W) (eh J) b (rdI F0) Z) ?_))
     obtain ⟨a0,b⟩:=iLs b F0 Z
     refine yY (yCt O_31 e0 b F1 rfl) (Ya a0.v e0 (wK e3 (bE g fun e4 a3 g=>bE g fun A e5 g=>bE g fun g0 e6 g=>dR [0,0,0,0,8,28,60,126,254,511,1023] [7,8,9,10] 4 folM ?_)))
     replace b:=b.drew
     refine Dn [0,1,2,3,4,5,6] [] [7] (yR rfl (m_ o.v (eh z)) (yR rfl (lbs_ [i.v,j.v,.bool d.2.2.1,k.v,iV d.2.2.2.2] ST_62 (eh I) b R2) (yR rfl (m_ a0.v e0) (yR rfl (m_ h.v (eh U)) (yR rfl (yLen SL_25 e0 b (rdI (F_5 m))) (yR rfl (yIa SL_31 e0 e0 b (rdI F0) a3) ?_))))))
     obtain ⟨g1,g2,b⟩:=iLd b F0 a3
     obtain ⟨g3,g4,rfl,b⟩:=b.eltP
     obtain ⟨rfl,b⟩:=b.eltB
     obtain ⟨e7,rfl,b⟩:=b.eltS
     refine yR rfl (yCtn (cs:=[.bool e4.1,e7.v]) ST_34 rfl e0 b F1) (Rn QSn ?_)
     refine Lc1 rfl ?_
     refine Lk wn (yCall FN_37 (a2 e0 e0)) (exact_reduced_turned_ok e5 F4 F5 F6 F0 b) ?_
     rintro _ w ⟨a4,rfl,b⟩
     refine ⟨_,rfl,?_⟩
     refine Dn [] [0] [8] (Rn (yS rfl (m_ o.v (eh z)) QSn) ?_)
     refine Lc1 rfl ?_
     refine LH wn (rLt (n:=1) (l:=[(A.1,A.2)]) b SL_31 [.agg #[.bool A.1,a4.v]] (bp1 e0) rfl rfl (mks1 (cs:=[.bool A.1,a4.v]) rfl (mkP mkB (mkS F0)) mks0)) fun g5 w b=>Dn [] [0] [9] (Rn (yS rfl (m_ o.v (eh z)) QSn) ?_)
     refine Lc1 rfl ?_
     replace b:=b.k10
     refine LH wn (rAp b SL_31 e0 e0 rO1 e6) fun e8 w b=>Dn [] [] [10] (Rn QSn ?_)
     refine Lc1 rfl ?_
     refine Ly wn (a_ e8.v e0) (Dz [] [] (Rn QSn (e2 _ _ _ (e1 _ _ (wR (yY (yadd (eh J) rfl) (Ym (iV (wa .i64 y 1)) e0 (wN ?_))))))))
     cases g
     exact d4 _ _ _ rfl ⟨_,_,_,_,rfl,rfl,U,rfl,V,I,W,X,rfl,((b.k1x).facts (allC F5 (allC F6 (allC F7 (allT (allT (allT (allT (allT (allT (allT (allT allI))))))))))))⟩
    ·refine wp_exit (d8 _ _ _ rfl ?_)
     cases g
     exact d5 _ _ _ _ rfl rfl (c6 _ _ _ _ z V I b (d3 _ rfl))
  ·refine condT e0 (nT (dF F)) (sR fun _ e9=>yY (ybuild (us:=[.bool false,hnil.v]) [] SO_34 bp0 rfl) (Ya hnil.v rfl (yT (r_stbn (vals':=[.bool false,hnil.v]) (us:=[.bool false,hnil.v]) b ST_34 e0 e0 rfl rfl (one_of rfl) rfl) fun w b=>Ya (iV 2) rfl (wK e9 (wp_ret (D _ _ _ (O _ _ _ rfl ?_)))))))
   cases c
   replace b:=(b.rowNh 34 (rP rB (rS (rI .u32)))).immNh (rI .u32)
   exact t _ _ _ (fin3r Tryd.results16 ⟨rfl,rfl⟩ (rcs2 rfl rfl b R1 ST_34 rfl) ⟨rfl,rfl⟩ ⟨_,_,rfl,(b.k11)⟩)
 ·refine condT e0 (nT (dF E)) (sR fun _ f0=>yY (ybuild (us:=[.bool false,hnil.v]) [] SO_34 bp0 rfl) (Ym (iV p) e0 (Ya hnil.v rfl (yT (r_stbn (vals':=[.bool false,hnil.v]) (us:=[.bool false,hnil.v]) b ST_34 e0 e0 rfl rfl (one_of rfl) rfl) fun w b=>Ya (iV p) e0 (wK f0 (wp_ret (D _ _ _ (O _ _ _ rfl ?_))))))))
  cases c
  replace b:=(b.rowNh 34 (rP rB (rS (rI .u32)))).immNh (rI .u32)
  exact t _ _ _ (fin3r Tryd.results16 ⟨rfl,rfl⟩ (rcs2 rfl rfl b R1 ST_34 rfl) ⟨rfl,rfl⟩ ⟨_,_,rfl,(b.k11)⟩)
theorem integer_Cmp_ok {i:Bool} {l:LI} {f:Bool} {m:LI} {g d:Hdr} {out:Int} (b:integer_Cmp i l f m=some out) (n:imm (rI .u32) g.v l∈ros) (o:imm (rI .u32) d.v m∈ros) (a:St w0 ros rs w):
  Calls Tryd.prog 25 #[.agg #[.bool i,g.v],.agg #[.bool f,d.v]] w (fun e w=>e=.returned (iV out)∧St w0 ros rs w):=by
 refine enterQ Tryd.func25 rfl Tryd.ntmps25 rfl fun Q j=>sR fun _ q=>yBb (r_box (vals:=[.bool i,g.v]) a e0 rfl) fun I w a=>yBb (r_box (vals:=[.bool f,d.v]) a e0 rfl) fun J w a=>Ya (iV 0) rfl (wK q (sQ fun _ r=>bE b fun c s b=>bE b fun h t b=>dR [0,1,0,7,15,31] [1,3,4,5] 4 folM ?_))
 replace a:=a.drew
 refine Dn [0,2] [] [1] (yR rfl (lbs_ [.bool i,g.v] ST_34 e0 a R1) (yR rfl (lbs_ [.bool f,d.v] ST_34 e0 a R0) (Rn QSn ?_)))
 refine Lc1 rfl ?_
 refine Lk wn (yCall FN_18 (a1 e0)) (integer_Sign_ok s n a) ?_
 rintro _ w ⟨rfl,a⟩
 refine ⟨_,rfl,?_⟩
 refine Dn [] [2] [3] (Rn (yS rfl (lbs_ [.bool f,d.v] ST_34 e0 a R0) QSn) ?_)
 refine Lc1 rfl ?_
 refine Lk wn (yCall FN_18 (a1 e0)) (integer_Sign_ok t o a) ?_
 rintro _ w ⟨rfl,a⟩
 refine ⟨_,rfl,?_⟩
 refine Dn [] [] [4] (Rn QSn ?_)
 refine Lc1 rfl ?_
 refine Ly wn (a_ (iV c) e0) (Dn [] [] [5] (Rn QSn ?_))
 refine Lc1 rfl ?_
 refine Ly wn (a_ (iV h) e0) (Dz [] [] (Rn QSn (r _ _ (seqQ fun K u p=>blockQ fun _ k=>sR fun _ x=>Ym (iV c) e0 (Ym (iV h) e0 (yY (ylss e0 e0) (Ya (.bool (decide (c < h))) e0 (wK x ?_))))))))
 refine cIf e0 b (fun y b=>?_) fun y b=>?_
 ·refine sR fun _ z=>Ya (iV (-1)) rfl (wK z (wp_ret (k _ _ _ (p _ _ _ rfl ?_))))
  cases b
  exact j _ _ _ (fin1r Tryd.results25 ⟨rfl,rfl⟩ ⟨rfl,(a.k14)⟩)
 ·refine sR fun _ A=>Ym (iV c) e0 (Ym (iV h) e0 (yY (ygtr e0 e0) (Ya (.bool (decide (h < c))) e0 (wK A ?_))))
  refine cIf e0 b (fun B b=>?_) fun B b=>?_
  ·refine sR fun _ C=>Ya (iV 1) rfl (wK C (wp_ret (k _ _ _ (p _ _ _ rfl ?_))))
   cases b
   exact j _ _ _ (fin1r Tryd.results25 ⟨rfl,rfl⟩ ⟨rfl,(a.k14)⟩)
  ·refine wp_skip (k _ _ _ (u _ _ (sQ fun _ D=>bE b fun L E b=>bE b fun N F b=>bE b fun G H b=>dR [0,0,2,6,0,16,62,126,255,511] [3,6,7,9] 4 folM ?_)))
   replace a:=a.drew
   refine Dn [0,1,2,4,5] [] [3] (yR rfl (m_ (iV c) e0) (yR rfl (yFb FL_34_1 e0) (yR rfl (lb_ g.v O_32 e0 a R1) (yR rfl (yFb FL_34_1 e0) (yR rfl (lb_ d.v O_32 e0 a R0) (Rn QSn ?_))))))
   refine Lc1 rfl ?_
   refine Lk wn (yCall FN_30 (a1 e0)) (integer_trim_ok E n a) ?_
   rintro _ w ⟨O,rfl,a⟩
   refine ⟨_,rfl,?_⟩
   refine Dn [] [0,4,5] [6] (Rn (yS rfl (m_ (iV c) e0) (yS rfl (yFb FL_34_1 e0) (yS rfl (lb_ d.v O_32 e0 a R0) QSn))) ?_)
   refine Lc1 rfl ?_
   refine Lk wn (yCall FN_30 (a1 e0)) (integer_trim_ok F (mtF o) a) ?_
   rintro _ w ⟨R,rfl,a⟩
   refine ⟨_,rfl,?_⟩
   refine Dn [] [0] [7] (Rn (yS rfl (m_ (iV c) e0) QSn) ?_)
   refine Lc1 rfl ?_
   refine Lk wn (yCall FN_32 (a2 e0 e0)) (integer_compare_ok H F1 F0 a) ?_
   rintro _ w ⟨rfl,a⟩
   refine ⟨_,rfl,?_⟩
   refine Dn [8] [0] [9] (yR rfl (ymul e0 e0) (Rn (yS rfl (m_ (iV c) e0) QSn) ?_))
   refine Lc1 rfl ?_
   refine Ly wn (a_ (iV (wm .i64 c G)) e0) (Dz [] [] (Rn QSn (D _ _ (wp_ret ?_))))
   cases b
   exact j _ _ _ (fin1r Tryd.results25 ⟨rfl,rfl⟩ ⟨rfl,((a.k14).facts (allT (allT allI)))⟩)
theorem exact_product_v2_ok {u o:List (List (Bool×LI))} {q d:Hdr} {c:List Hdr} {out:(List (List (Bool×LI)))} (S:exact_product_v2 u o=some out) (T:imm (rS (rP rB (rS (rI .u32)))) q.v u∈ros) (b:St w0 ros (row 31 rH d.v c::fam 34 (rP rB (rS (rI .u32))) c o::rs) w):
  Calls Tryd.prog 49 #[q.v,d.v] w (fun e w=>∃ (a3:Hdr) (a4:List Hdr),e=.returned (a3.v)∧St w0 ros (row 31 rH d.v c::fam 34 (rP rB (rS (rI .u32))) c o::row 31 rH a3.v a4::fam 34 (rP rB (rS (rI .u32))) a4 out::rs) w):=by
 refine enterQ Tryd.func49 rfl Tryd.ntmps49 rfl fun Q d3=>sR fun _ d4=>Ya hnil.v rfl (wK d4 (sR fun _ d5=>Ya hnil.v rfl (wK d5 (sQ fun _ d6=>sR fun _ d7=>?_))))
 refine Ym q.v e0 (yY (yLen SL_25 e0 b (rdI T)) (Ym (iV 0) rfl (wK d7 (blockQ fun d8 d9=>bE S fun e1 e2 S=>?_))))
 have e3:∀ (U:List (List (Bool×LI))) (D:Hdr) (V:List Hdr) (f:FV) w,f 5=D.v→St w0 ros (row 31 rH d.v c::fam 34 (rP rB (rS (rI .u32))) c o::row 31 rH D.v V::fam 34 (rP rB (rS (rI .u32))) V U::rs) w→U=e1→d8 (.exit 0) (fr 54 f) w:=by
  intro U D V f w e4 b ho
  subst ho
  refine d9 _ _ _ (d6 _ _ (sR fun _ e5=>Ym D.v (eh e4) (Ya D.v e0 (wK e5 (wp_ret ?_)))))
  cases S
  exact d3 _ _ _ (fin1r Tryd.results49 ⟨rfl,rfl⟩ ⟨_,_,rfl,b⟩)
 replace b:=((b.rowNh 31 rH).fNew 34 (rP rB (rS (rI .u32)))).k10
 refine loopQ (fun s a w=>∃ (x:List (List (Bool×LI))) (r:Int) (f:FV) (h:Hdr) (i:List Hdr),(x,r)=s∧a=fr 54 f∧f 1=d.v∧f 5=h.v∧f 13=q.v∧f 14=iV (u.length:Int)∧f 15=iV r∧St w0 ros (row 31 rH d.v c::fam 34 (rP rB (rS (rI .u32))) c o::row 31 rH h.v i::fam 34 (rP rB (rS (rI .u32))) i x::rs) w) e2 ⟨_,_,_,_,_,rfl,rfl,rfl,rfl,rfl,rfl,rfl,(b.k1v)⟩ ?_
 rintro _ _ w m3 ⟨x,r,f,h,i,rfl,rfl,e6,a5,a6,a7,W,b⟩ j e7 m4 e8 e9
 refine sR fun _ f0=>yY (ylss (eh W) (eh a7)) (wK f0 (seqQ fun m5 f1 f2=>?_))
 refine cIf e0 j (fun f3 j=>?_) fun f3 j=>?_
 ·refine wp_skip (f1 _ _ (sQ fun _ f4=>blockQ fun _ f5=>sR fun _ f6=>bE j fun y a8 j=>yY (yIa SL_25 (eh a6) (eh W) b (rdI T) a8) ?_))
  obtain ⟨k,b⟩:=iLs b T a8
  refine yY (yCt O_31 e0 b F1 rfl) (Ya k.v e0 (wK f6 (sR fun _ f7=>Ya hnil.v rfl (wK f7 (sQ fun _ f8=>sR fun _ f9=>Ym k.v e0 (yY (yLen SL_31 e0 b (rdI F0)) ?_))))))
  refine Ym (iV 0) rfl (wK f9 (blockQ fun g0 g1=>bE j fun g2 g3 j=>?_))
  have g4:∀ (I:List (Bool×LI)) (z:Hdr) (f:FV) w,f 1=d.v→f 5=h.v→f 8=z.v→f 13=q.v→f 14=iV (u.length:Int)→f 15=iV r→St w0 ros (row 31 rH d.v c::fam 34 (rP rB (rS (rI .u32))) c o::row 31 rH h.v i::fam 34 (rP rB (rS (rI .u32))) i x::row 34 (rP rB (rS (rI .u32))) z.v I::rs) w→I=g2→g0 (.exit 2) (fr 54 f) w:=by
   intro I z f w g5 g6 g7 g8 g9 h0 b ho
   subst ho
   refine g1 _ _ _ (f8 _ _ (wR (Ym h.v (eh g6) (Ym z.v (eh g7) (yH (rLt (n:=1) (l:=[z]) b SLH_25 [z.v] (bp1 e0) rfl rfl (mks1 rfl (mkF rfl) mks0)) fun m6 w b=>bE j fun m7 a9 j=>?_)))))
   replace b:=b.k17
   obtain ⟨m8,ey624,h1⟩:=app_rep a9 (b.famL R4) (show [z].length=[I].length from rfl)
   refine yH (rAp b SLH_25 e0 e0 rO1 h1) fun h3 w b=>?_
   replace b:=(b.k20).fPush
   rw [← ey624,← (app_some a9).1] at b
   refine Ya h3.v e0 (wN (f5 _ _ _ (f4 _ _ (wR (yY (yadd (eh h0) rfl) (Ym (iV (wa .i64 r 1)) e0 (wN ?_)))))))
   cases j
   exact e8 _ _ _ rfl ⟨_,_,_,_,_,rfl,rfl,g5,rfl,g8,g9,rfl,(b.k21)⟩
  replace b:=b.rowNh 34 (rP rB (rS (rI .u32)))
  refine loopQ (fun s a w=>∃ (E:List (Bool×LI)) (m:Int) (f:FV) (t:Hdr),(E,m)=s∧a=fr 54 f∧f 1=d.v∧f 5=h.v∧f 7=k.v∧f 8=t.v∧f 13=q.v∧f 14=iV (u.length:Int)∧f 15=iV r∧f 20=iV (y.length:Int)∧f 21=iV m∧St w0 (imm (rP rB (rS (rI .u32))) k.v y::ros) (row 31 rH d.v c::fam 34 (rP rB (rS (rI .u32))) c o::row 31 rH h.v i::fam 34 (rP rB (rS (rI .u32))) i x::row 34 (rP rB (rS (rI .u32))) t.v E::rs) w) g3 ⟨_,_,_,_,rfl,rfl,e6,a5,rfl,rfl,a6,a7,W,rfl,rfl,((b.k1l).facts (allC F0 (allT (allT allI))))⟩ ?_
  rintro _ _ w m9 ⟨E,m,f,t,rfl,rfl,b0,b1,b2,b3,b4,b5,b6,b7,X,b⟩ p h5 n0 h6 h7
  refine sR fun _ h8=>yY (ylss (eh X) (eh b7)) (wK h8 (seqQ fun n1 h9 i0=>?_))
  refine cIf e0 p (fun i1 p=>?_) fun i1 p=>?_
  ·refine wp_skip (h9 _ _ (sQ fun _ i2=>blockQ fun _ i3=>sR fun _ i4=>Ym (iV m) (eh X) (Ya (iV m) e0 (wK i4 (sR fun _ i5=>yBb (rAl b ZT_34) fun J w b=>?_)))))
   refine wK i5 (sQ fun _ i6=>sR fun _ i7=>Ym k.v (eh b2) (yY (yLen SL_31 e0 b (rdI F0)) (Ym (iV 0) rfl (wK i7 (blockQ fun i8 i9=>bE p fun j0 j1 p=>?_)))))
   have j2:∀ (A:Bool) (K:LI) (C:Hdr) (f:FV) w,f 1=d.v→f 5=h.v→f 7=k.v→f 8=t.v→f 10=(pB J)→f 13=q.v→f 14=iV (u.length:Int)→f 15=iV r→f 20=iV (y.length:Int)→f 21=iV m→St w0 (imm (rP rB (rS (rI .u32))) k.v y::imm (rI .u32) C.v K::ros) (row 31 rH d.v c::fam 34 (rP rB (rS (rI .u32))) c o::row 31 rH h.v i::fam 34 (rP rB (rS (rI .u32))) i x::row 34 (rP rB (rS (rI .u32))) t.v E::box J 34 [.bool A,C.v]::rs) w→(A,K)=j0→i8 (.exit 4) (fr 54 f) w:=by
    intro A K C f w j3 j4 j5 j6 j7 j8 j9 k0 k5 k6 b ho
    subst ho
    refine i9 _ _ _ (i6 _ _ (wR (Ym t.v (eh j6) (yY (lbs_ [.bool A,C.v] ST_34 (eh j7) b R5) (yH (rLt (n:=1) (l:=[(A,K)]) b SL_31 [.agg #[.bool A,C.v]] (bp1 e0) rfl rfl (mks1 (cs:=[.bool A,C.v]) rfl (mkP mkB (mkS F1)) mks0)) fun n2 w b=>bE p fun n3 k7 p=>yH (rAp (b.k22) SL_31 e0 e0 rO1 k7) fun k8 w b=>Ya k8.v e0 (wN (i3 _ _ _ (i2 _ _ ?_))))))))
    refine wR (yY (yadd (eh k6) rfl) (Ym (iV (wa .i64 m 1)) e0 (wN ?_)))
    cases p
    exact h6 _ _ _ rfl ⟨_,_,_,_,rfl,rfl,j3,j4,j5,rfl,j8,j9,k0,k5,rfl,((b.k23).facts (allC F0 (allT (allT allI))))⟩
   replace b:=b.immNh (rI .u32)
   refine loopQ (fun s a w=>∃ (F:Bool) (Z:LI) (B:Int) (f:FV) (G:Hdr),(F,Z,B)=s∧a=fr 54 f∧f 1=d.v∧f 5=h.v∧f 7=k.v∧f 8=t.v∧f 9=iV m∧f 10=(pB J)∧f 13=q.v∧f 14=iV (u.length:Int)∧f 15=iV r∧f 20=iV (y.length:Int)∧f 21=iV m∧f 24=k.v∧f 25=iV (y.length:Int)∧f 26=iV B∧St w0 (imm (rP rB (rS (rI .u32))) k.v y::imm (rI .u32) G.v Z::ros) (row 31 rH d.v c::fam 34 (rP rB (rS (rI .u32))) c o::row 31 rH h.v i::fam 34 (rP rB (rS (rI .u32))) i x::row 34 (rP rB (rS (rI .u32))) t.v E::box J 34 [.bool F,G.v]::rs) w) j1 ⟨_,_,_,_,_,rfl,rfl,b0,b1,b2,b3,rfl,rfl,b4,b5,b6,b7,X,rfl,rfl,rfl,((b.k24).facts (allC F1 (allC F0 (allT (allT allI)))))⟩ ?_
   rintro _ _ w n4 ⟨F,Z,B,f,G,rfl,rfl,a0,b8,b9,c0,c1,H,c2,c3,c4,c5,c6,c7,c8,L,b⟩ g k9 n5 l0 l1
   refine sR fun _ l2=>yY (ylss (eh L) (eh c8)) (wK l2 (seqQ fun n6 l3 l4=>?_))
   refine cIf e0 g (fun l5 g=>?_) fun l5 g=>?_
   ·refine wp_skip (l3 _ _ (sQ fun _ l6=>blockQ fun _ l7=>sR fun _ l8=>Ym (iV B) (eh L) (bE g fun N c9 g=>yY (yIa SL_31 (eh c7) (eh L) b (rdI F0) c9) ?_)))
    obtain ⟨n7,n8,b⟩:=iLd b F0 c9
    obtain ⟨o0,o1,rfl,b⟩:=b.eltP
    obtain ⟨rfl,b⟩:=b.eltB
    obtain ⟨O,rfl,b⟩:=b.eltS
    refine yY (yCtn (cs:=[.bool N.1,O.v]) ST_34 rfl e0 b F1) (yBb (rAl b ZT_34) fun o2 w b=>Ya (iV B) e0 (yT (r_stbn (vals':=[.bool N.1,O.v]) (us:=[.bool N.1,O.v]) b ST_34 e0 e0 rfl rfl (one_of rfl) rfl) fun w b=>wK l8 (bE g fun o3 a1 g=>bE g fun l9 d0 g=>bE g fun o4 m0 g=>bE g fun d1 m1 g=>dR [0,0,0,0,12,28,0,124,252,510,1023,2047] [9,10,11] 3 folM ?_)))
    replace b:=b.drew
    refine Dn [0,1,2,3,4,5,6,7,8] [] [9] (yR rfl (lbs_ [.bool F,G.v] ST_34 (eh H) b R6) (yR rfl (lbs_ [.bool N.1,O.v] ST_34 e0 b R0) (yR rfl (m_ d.v (eh a0)) (yR rfl (m_ (iV B) e0) ?_))))
    obtain ⟨o5,R⟩:=b.famI R2 a1
    refine yR rfl (yIa SLH_25 e0 e0 b rO1 R) (yR rfl (yF1 O_31 e0 b rO1 R rfl) (yR rfl (m_ (iV m) (eh c1)) (yR rfl (yIa SL_31 e0 e0 b (rdF R2 R a1) d0) ?_)))
    obtain ⟨o6,o7,cc692,b⟩:=b.ld (rdF R2 R a1) d0
    replace b:=b.eltP
    obtain ⟨o8,p0,rfl,b⟩:=b
    replace b:=b.eltB
    obtain ⟨rfl,b⟩:=b
    replace b:=b.eltS
    obtain ⟨m2,rfl,b⟩:=b
    refine yR rfl (yCn (cs:=[.bool l9.1,m2.v]) ST_34 rfl e0 cc692) (Rn QSn ?_)
    refine Lc1 rfl ?_
    refine Lk wn (yCall FN_13 (a2 e0 e0)) (integer_Mul_ok m0 F1 F0 b) ?_
    rintro _ w ⟨p1,rfl,b⟩
    refine ⟨_,rfl,?_⟩
    refine Dn [] [0] [10] (Rn (yS rfl (lbs_ [.bool F,G.v] ST_34 (eh H) b R6) QSn) ?_)
    refine Lc1 rfl ?_
    refine Lk wn (yCall FN_12 (a2 e0 e0)) (integer_Add_ok m1 F5 F0 b) ?_
    rintro _ w ⟨d2,rfl,b⟩
    refine ⟨_,rfl,?_⟩
    refine Dn [] [] [11] (Rn QSn ?_)
    refine Lc1 rfl ?_
    replace b:=b.k25
    refine LT wn (r_stbn (vals':=[.bool d1.1,d2.v]) (us:=[.bool d1.1,d2.v]) b ST_34 (eh H) e0 rfl rfl (one_of rfl) rfl) fun w b=>Dz [] [] (Rn QSn (l7 _ _ _ (l6 _ _ (wR (yY (yadd (eh L) rfl) (Ym (iV (wa .i64 B 1)) e0 (wN ?_)))))))
    cases g
    exact l0 _ _ _ rfl ⟨_,_,_,_,_,rfl,rfl,a0,b8,b9,c0,c1,H,c2,c3,c4,c5,c6,c7,c8,rfl,((b.k26).facts (allC F5 (allC F0 (allT (allT (allT (allT (allT (allT (allT allI))))))))))⟩
   ·refine wp_exit (l4 _ _ _ rfl ?_)
    cases g
    exact l1 _ _ _ _ rfl rfl (j2 _ _ _ _ _ a0 b8 b9 c0 H c2 c3 c4 c5 c6 b (k9 _ rfl))
  ·refine wp_exit (i0 _ _ _ rfl ?_)
   cases p
   exact h7 _ _ _ _ rfl rfl (g4 _ _ _ _ b0 b1 b3 b4 b5 b6 (b.facts (allT allI)) (h5 _ rfl))
 ·refine wp_exit (f2 _ _ _ rfl ?_)
  cases j
  exact e9 _ _ _ _ rfl rfl (e3 _ _ _ _ _ a5 b (e7 _ rfl))
theorem exact_characteristic_ok {i:List (List (Bool×LI))} {m:Hdr} {out:(List (Bool×LI))} (l:exact_characteristic i=some out) (c7:imm (rS (rP rB (rS (rI .u32)))) m.v i∈ros) (b:St w0 ros rs w):
  Calls Tryd.prog 26 #[m.v] w (fun e w=>∃ (c8:Hdr),e=.returned (c8.v)∧St w0 ros (row 34 (rP rB (rS (rI .u32))) c8.v out::rs) w):=by
 refine enterQ Tryd.func26 rfl Tryd.ntmps26 rfl fun Q g1=>sR fun _ g2=>Ya hnil.v rfl (wK g2 (sR fun _ g3=>Ym m.v e0 (yY (yLen SL_25 e0 b (rdI c7)) (Ya (iV (i.length:Int)) e0 (wK g3 (sQ fun _ g4=>?_))))))
 refine wR (Ym (iV (i.length:Int)) e0 (yY (yadd e0 rfl) (bE l fun t5 g5 l=>yH (rMk b SL_31 e0 g5) fun d w b=>Ya d.v e0 (wK g4 (sR fun _ g6=>Ym d.v e0 (Ym (iV (i.length:Int)) e0 (bE l fun g7 g8 l=>?_)))))))
 refine yC (yCall FN_48 (a1 rfl)) (integer_FromInt_ok g8 b) ?_
 rintro _ w ⟨g9,rfl,b⟩
 refine ⟨_,rfl,?_⟩
 refine bE l fun c9 d0 l=>yY (yIs SL_31 e0 e0 b rO0 d0) (yT (r_stn (cs:=[.bool g7.1,g9.v]) b ST_34 e0 e0 rfl (mkP mkB (mkS F0)) d0) fun w b=>wK g6 (sR fun _ h0=>Ym (iV (i.length:Int)) e0 (bE l fun h1 h4 l=>?_)))
 obtain ⟨h5,em10,h6⟩:=mkL_rep h4 hnil
 refine yH (rMk b SLH_25 e0 h6) fun B w b=>?_
 replace b:=(b.fReps 34 (rP rB (rS (rI .u32))) h5).k10
 rw [← em10] at b
 refine Ya B.v e0 (wK h0 (sQ fun _ h8=>sR fun _ i0=>Ym B.v e0 (yY (yLenF SLH_25 e0 b rO0 R1) (Ym (iV 0) rfl (wK i0 (blockQ fun i1 i2=>bE l fun i3 i4 l=>?_))))))
 have i5:∀ (V:List (List (Bool×LI))) (W:List Hdr) (f:FV) w,f 0=m.v→f 3=iV (i.length:Int)→f 4=d.v→f 5=B.v→St w0 ros (row 34 (rP rB (rS (rI .u32))) d.v c9::row 31 rH B.v W::fam 34 (rP rB (rS (rI .u32))) W V::rs) w→V=i3→i1 (.exit 0) (fr 102 f) w:=by
  intro V W f w i6 i7 i8 i9 b ho
  subst ho
  refine i2 _ _ _ (h8 _ _ (sQ fun _ j0=>sR fun _ j1=>Ya (iV 1) rfl (wK j1 (blockQ fun j2 j3=>bE l fun j4 j5 l=>?_))))
  have j6:∀ (X:List (Bool×LI)) (f:FV) w,f 4=d.v→St w0 ros (row 34 (rP rB (rS (rI .u32))) d.v X::rs) w→X=j4→j2 (.exit 2) (fr 102 f) w:=by
   intro X f w j7 b ho
   subst ho
   refine j3 _ _ _ (j0 _ _ (sR fun _ j8=>Ym d.v (eh j7) (Ya d.v e0 (wK j8 (wp_ret ?_)))))
   cases l
   exact g1 _ _ _ (fin1r Tryd.results26 ⟨rfl,rfl⟩ ⟨_,rfl,b⟩)
  refine loopQ (fun s a w=>∃ (x:List (Bool×LI)) (J:List (List (Bool×LI))) (k:Int) (f:FV) (o:Hdr) (C:List Hdr),(x,J,k)=s∧a=fr 102 f∧f 0=m.v∧f 3=iV (i.length:Int)∧f 4=d.v∧f 5=o.v∧f 7=iV k∧St w0 ros (row 34 (rP rB (rS (rI .u32))) d.v x::row 31 rH o.v C::fam 34 (rP rB (rS (rI .u32))) C J::rs) w) j5 ⟨_,_,_,_,_,_,rfl,rfl,i6,i7,i8,i9,rfl,b⟩ ?_
  rintro _ _ w t6 ⟨x,J,k,f,o,C,rfl,rfl,j9,d1,d2,d3,d4,b⟩ g k0 t7 k8 k9
  refine seqQ fun t8 l0 l1=>sR fun _ l2=>Ym (iV k) (eh d4) (Ym (iV (i.length:Int)) (eh d1) (yY (yleq e0 e0) (wK l2 ?_)))
  refine cIf e0 g (fun l3 g=>?_) fun l3 g=>?_
  ·refine wp_skip (l0 _ _ (sQ fun _ l4=>blockQ fun _ l5=>sQ fun _ l6=>sR fun _ l7=>Ym o.v (eh d3) (yY (yLenF SLH_25 e0 b rO1 R2) (Ym (iV 0) rfl (wK l7 (blockQ fun l8 l9=>bE g fun m0 m1 g=>?_))))))
   have m2:∀ (Z:List (List (Bool×LI))) (f:FV) w,f 0=m.v→f 3=iV (i.length:Int)→f 4=d.v→f 5=o.v→f 7=iV k→St w0 ros (row 34 (rP rB (rS (rI .u32))) d.v x::row 31 rH o.v C::fam 34 (rP rB (rS (rI .u32))) C Z::rs) w→Z=m0→l8 (.exit 4) (fr 102 f) w:=by
    intro Z f w d5 m3 m4 m5 m6 b ho
    subst ho
    refine l9 _ _ _ (l6 _ _ (sR fun _ m7=>Ym m.v (eh d5) (Ym o.v (eh m5) (bE g fun K m8 g=>?_))))
    replace b:=b.k19
    refine yC (yCall FN_49 (a2 e0 e0)) (exact_product_v2_ok m8 c7 b) ?_
    rintro _ w ⟨q,F,rfl,b⟩
    refine ⟨_,rfl,?_⟩
    refine Ya q.v e0 (wK m7 (sR fun _ m9=>yBb (rAl b ZT_34) fun L w b=>wK m9 (sQ fun _ n0=>sR fun _ n2=>Ym q.v e0 (yY (yLenF SLH_25 e0 b rO3 R4) ?_))))
    refine Ym (iV 0) rfl (wK n2 (blockQ fun n3 n4=>bE g fun n5 n6 g=>?_))
    have n7:∀ (y:Bool) (a0:LI) (z:Hdr) (f:FV) w,f 0=m.v→f 3=iV (i.length:Int)→f 4=d.v→f 7=iV k→f 9=q.v→f 10=(pB L)→St w0 (imm (rI .u32) z.v a0::ros) (row 34 (rP rB (rS (rI .u32))) d.v x::row 31 rH q.v F::fam 34 (rP rB (rS (rI .u32))) F K::box L 34 [.bool y,z.v]::rs) w→(y,a0)=n5→n3 (.exit 6) (fr 102 f) w:=by
     intro y a0 z f w a3 a4 a5 G a6 H b ho
     subst ho
     refine n4 _ _ _ (n0 _ _ (sQ fun _ o0=>bE g fun t9 d6 g=>bE g fun c a7 g=>?_))
     refine joinN (n:=102) (fun f w=>∃ (a8:Nat) (N:Hdr),f 0=m.v∧f 3=iV (i.length:Int)∧f 4=d.v∧f 7=iV k∧f 9=q.v∧f 12=(pB a8)∧St w0 (imm (rI .u32) N.v c.2.1::ros) (row 34 (rP rB (rS (rI .u32))) d.v x::row 31 rH q.v F::fam 34 (rP rB (rS (rI .u32))) F K::box a8 34 [.bool c.1,N.v]::rs) w) (fun a9=>?_) ?_
     ·refine dR [0,0,2,7,15,31,31,0,191,511] [2,3,7,8,9] 5 folM ?_
      replace b:=b.drew
      refine Dn [0,1] [] [2,7] (yR rfl (lbs_ [.bool y,z.v] ST_34 (eh H) b R3) (yR rfl (m_ (iV k) (eh G)) (Rn QSn ?_)))
      refine Lc rfl ?_ (Lc1 rfl ?_)
      ·refine Lk wn (yCall FN_48 (a1 e0)) (integer_FromInt_ok d6 b) ?_
       rintro _ w ⟨o2,rfl,b⟩
       refine ⟨_,rfl,?_⟩
       refine Dn [] [0] [3,7] (Rn (yS rfl (lbs_ [.bool y,z.v] ST_34 (eh H) b R3) QSn) ?_)
       refine Lc rfl ?_ (Lc1 rfl ?_)
       ·refine Lk wn (yCall FN_50 (a2 e0 e0)) (integer_Quo_ok a7 F1 F0 b) ?_
        rintro _ w ⟨j,rfl,b⟩
        refine ⟨_,rfl,?_⟩
        refine Dn [4,5,6] [] [7] (yR rfl (m_ (.tuple #[.agg #[.bool c.1,j.v],iV c.2.2]) e0) (yR rfl (x_ (.agg #[.bool c.1,j.v]) e0) (yR rfl (x_ (iV c.2.2) e0) (Rn QSn ?_))))
        refine Lc1 rfl ?_
        refine LB wn (rAl b ZT_34) fun d7 w b=>Dn [] [4,5,6] [8] (Rn (yS rfl (m_ (.tuple #[.agg #[.bool c.1,j.v],iV c.2.2]) e0) (yS rfl (x_ (.agg #[.bool c.1,j.v]) e0) (yS rfl (x_ (iV c.2.2) e0) QSn))) ?_)
        refine Lc1 rfl ?_
        refine LT wn (r_stbn (vals':=[.bool c.1,j.v]) (us:=[.bool c.1,j.v]) b ST_34 e0 e0 rfl rfl (one_of rfl) rfl) fun w b=>Dn [] [6] [9] (Rn (yS rfl (x_ (iV c.2.2) e0) QSn) ?_)
        refine Lc1 rfl ?_
        exact Ly wn (a_ (iV c.2.2) e0) (Dz [] [] (Rn QSn (a9 _ _ ⟨_,_,a3,a4,a5,G,a6,rfl,((b.k27).facts (allC F0 (allT (allT (allT allI)))))⟩)))
       ·refine LB wn (rAl b ZT_34) fun d7 w b=>Dn [] [0] [3] (Rn (yS rfl (lbs_ [.bool y,z.v] ST_34 (eh H) b R4) QSn) ?_)
        refine Lc1 rfl ?_
        refine Lk wn (yCall FN_50 (a2 e0 e0)) (integer_Quo_ok a7 F1 F0 b) ?_
        rintro _ w ⟨j,rfl,b⟩
        refine ⟨_,rfl,?_⟩
        refine Dn [4,5,6] [] [8] (yR rfl (m_ (.tuple #[.agg #[.bool c.1,j.v],iV c.2.2]) e0) (yR rfl (x_ (.agg #[.bool c.1,j.v]) e0) (yR rfl (x_ (iV c.2.2) e0) (Rn QSn ?_))))
        refine Lc1 rfl ?_
        refine LT wn (r_stbn (vals':=[.bool c.1,j.v]) (us:=[.bool c.1,j.v]) b ST_34 e0 e0 rfl rfl (one_of rfl) rfl) fun w b=>Dn [] [6] [9] (Rn (yS rfl (x_ (iV c.2.2) e0) QSn) ?_)
        refine Lc1 rfl ?_
        exact Ly wn (a_ (iV c.2.2) e0) (Dz [] [] (Rn QSn (a9 _ _ ⟨_,_,a3,a4,a5,G,a6,rfl,((b.k27).facts (allC F0 (allT (allT (allT allI)))))⟩)))
      ·refine LB wn (rAl b ZT_34) fun d7 w b=>Dn [] [0,1] [2] (Rn (yS rfl (lbs_ [.bool y,z.v] ST_34 (eh H) b R4) (yS rfl (m_ (iV k) (eh G)) QSn)) ?_)
       refine Lc1 rfl ?_
       refine Lk wn (yCall FN_48 (a1 e0)) (integer_FromInt_ok d6 b) ?_
       rintro _ w ⟨o2,rfl,b⟩
       refine ⟨_,rfl,?_⟩
       refine Dn [] [0] [3] (Rn (yS rfl (lbs_ [.bool y,z.v] ST_34 (eh H) b R4) QSn) ?_)
       refine Lc1 rfl ?_
       refine Lk wn (yCall FN_50 (a2 e0 e0)) (integer_Quo_ok a7 F1 F0 b) ?_
       rintro _ w ⟨j,rfl,b⟩
       refine ⟨_,rfl,?_⟩
       refine Dn [4,5,6] [] [8] (yR rfl (m_ (.tuple #[.agg #[.bool c.1,j.v],iV c.2.2]) e0) (yR rfl (x_ (.agg #[.bool c.1,j.v]) e0) (yR rfl (x_ (iV c.2.2) e0) (Rn QSn ?_))))
       refine Lc1 rfl ?_
       refine LT wn (r_stbn (vals':=[.bool c.1,j.v]) (us:=[.bool c.1,j.v]) b ST_34 e0 e0 rfl rfl (one_of rfl) rfl) fun w b=>Dn [] [6] [9] (Rn (yS rfl (x_ (iV c.2.2) e0) QSn) ?_)
       refine Lc1 rfl ?_
       exact Ly wn (a_ (iV c.2.2) e0) (Dz [] [] (Rn QSn (a9 _ _ ⟨_,_,a3,a4,a5,G,a6,rfl,((b.k27).facts (allC F0 (allT (allT (allT allI)))))⟩)))
     rintro f w ⟨a8,N,o3,d8,d9,e1,o4,o5,b⟩
     refine o0 _ _ (wR (Ym d.v (eh d9) (Ym (iV (i.length:Int)) (eh d8) (Ym (iV k) (eh e1) (yY (ysub e0 e0) (yY (lbs_ [.bool c.1,N.v] ST_34 (eh o5) b R3) (bE g fun o6 o7 g=>yC (yCall FN_11 (a1 e0)) (integer_Neg_ok o7 F0 b) ?_)))))))
     rintro _ w ⟨p0,rfl,b⟩
     refine ⟨_,rfl,?_⟩
     refine Ym q.v (eh o4) (bE g fun u0 e2 g=>yY (yIs SL_31 e0 e0 b rO0 e2) (yT (r_stn (cs:=[.bool o6.1,p0.v]) b ST_34 e0 e0 rfl (mkP mkB (mkS F0)) e2) fun w b=>Ya q.v e0 (wN (l5 _ _ _ (l4 _ _ (wR (Ym (iV k) (eh e1) (yY (yadd e0 rfl) (Ya (iV (wa .i64 k 1)) e0 (wN ?_))))))))))
     cases g
     exact k8 _ _ _ rfl ⟨_,_,_,_,_,_,rfl,rfl,o3,d8,d9,rfl,rfl,((b.k28).facts (allT (allT allI)))⟩
    replace b:=b.immNh (rI .u32)
    refine loopQ (fun s a w=>∃ (O:Bool) (b0:LI) (A:Int) (f:FV) (R:Hdr),(O,b0,A)=s∧a=fr 102 f∧f 0=m.v∧f 3=iV (i.length:Int)∧f 4=d.v∧f 7=iV k∧f 9=q.v∧f 10=(pB L)∧f 72=iV (K.length:Int)∧f 73=iV A∧St w0 (imm (rI .u32) R.v b0::ros) (row 34 (rP rB (rS (rI .u32))) d.v x::row 31 rH q.v F::fam 34 (rP rB (rS (rI .u32))) F K::box L 34 [.bool O,R.v]::rs) w) n6 ⟨_,_,_,_,_,rfl,rfl,d5,m3,m4,m6,rfl,rfl,rfl,rfl,(b.k29)⟩ ?_
    rintro _ _ w u1 ⟨O,b0,A,f,R,rfl,rfl,e3,e4,e5,e6,b1,S,e7,b2,b⟩ r p1 u2 p2 p3
    refine sR fun _ p4=>yY (ylss (eh b2) (eh e7)) (wK p4 (seqQ fun u3 p5 p6=>?_))
    refine cIf e0 r (fun p7 r=>?_) fun p7 r=>?_
    ·refine wp_skip (p5 _ _ (sQ fun _ p8=>blockQ fun _ p9=>sR fun _ q0=>Ym (iV A) (eh b2) (Ya (iV A) e0 (wK q0 (bE r fun u4 b3 r=>bE r fun q2 e8 r=>bE r fun e9 q3 r=>dR [0,0,0,6,14,0,62,126,255,511] [8,9] 2 folM ?_)))))
     replace b:=b.drew
     refine Dn [0,1,2,3,4,5,6,7] [] [8] (yR rfl (lbs_ [.bool O,R.v] ST_34 (eh S) b R3) (yR rfl (m_ q.v (eh b1)) (yR rfl (m_ (iV A) e0) ?_)))
     obtain ⟨u5,T⟩:=b.famI R2 b3
     refine yR rfl (yIa SLH_25 e0 e0 b rO1 T) (yR rfl (yF1 O_31 e0 b rO1 T rfl) (yR rfl (m_ (iV A) e0) (yR rfl (yIa SL_31 e0 e0 b (rdF R2 T b3) e8) ?_)))
     obtain ⟨u6,u7,cc378,b⟩:=b.ld (rdF R2 T b3) e8
     replace b:=b.eltP
     obtain ⟨u8,u9,rfl,b⟩:=b
     replace b:=b.eltB
     obtain ⟨rfl,b⟩:=b
     replace b:=b.eltS
     obtain ⟨q4,rfl,b⟩:=b
     refine yR rfl (yCn (cs:=[.bool q2.1,q4.v]) ST_34 rfl e0 cc378) (Rn QSn ?_)
     refine Lc1 rfl ?_
     refine Lk wn (yCall FN_12 (a2 e0 e0)) (integer_Add_ok q3 F1 F0 b) ?_
     rintro _ w ⟨f0,rfl,b⟩
     refine ⟨_,rfl,?_⟩
     refine Dn [] [] [9] (Rn QSn ?_)
     refine Lc1 rfl ?_
     replace b:=b.k17
     refine LT wn (r_stbn (vals':=[.bool e9.1,f0.v]) (us:=[.bool e9.1,f0.v]) b ST_34 (eh S) e0 rfl rfl (one_of rfl) rfl) fun w b=>Dz [] [] (Rn QSn (p9 _ _ _ (p8 _ _ (wR (yY (yadd (eh b2) rfl) (Ym (iV (wa .i64 A 1)) e0 (wN ?_)))))))
     cases r
     exact p2 _ _ _ rfl ⟨_,_,_,_,_,rfl,rfl,e3,e4,e5,e6,b1,S,e7,rfl,((b.k1o).facts (allC F0 (allT (allT (allT allI)))))⟩
    ·refine wp_exit (p6 _ _ _ rfl ?_)
     cases r
     exact p3 _ _ _ _ rfl rfl (n7 _ _ _ _ _ e3 e4 e5 e6 b1 S b (p1 _ rfl))
   refine loopQ (fun s a w=>∃ (b4:List (List (Bool×LI))) (p:Int) (f:FV),(b4,p)=s∧a=fr 102 f∧f 0=m.v∧f 3=iV (i.length:Int)∧f 4=d.v∧f 5=o.v∧f 7=iV k∧f 42=iV (J.length:Int)∧f 43=iV p∧St w0 ros (row 34 (rP rB (rS (rI .u32))) d.v x::row 31 rH o.v C::fam 34 (rP rB (rS (rI .u32))) C b4::rs) w) m1 ⟨_,_,_,rfl,rfl,j9,d1,d2,d3,d4,rfl,rfl,b⟩ ?_
   rintro _ _ w v0 ⟨b4,p,f,rfl,rfl,f1,b5,b6,I,b7,f2,b8,b⟩ h q5 v1 q6 q7
   refine sR fun _ q8=>yY (ylss (eh b8) (eh f2)) (wK q8 (seqQ fun v2 q9 r0=>?_))
   refine cIf e0 h (fun r1 h=>?_) fun r1 h=>?_
   ·refine wp_skip (q9 _ _ (sQ fun _ r2=>blockQ fun _ r3=>sR fun _ r4=>Ym (iV p) (eh b8) (Ya (iV p) e0 (wK r4 (bE h fun v3 b9 h=>bE h fun v4 c0 h=>bE h fun r5 f3 h=>bE h fun r7 f4 h=>?_)))))
    refine bE h fun r8 r9 h=>bE h fun v5 f5 h=>bE h fun v6 s0 h=>dR [0,0,3,7,0,0,0,96,224,0,992,2016,0,0,0,24576,57344,126976,258048,524256,1048575,2097151] [19,21] 2 folM ?_
    replace b:=b.drew
    refine Dn [0,1,2,3,4,5,6,7,8,9,10,11,12,13,14,15,16,17,18] [] [19] (yR rfl (m_ o.v (eh I)) (yR rfl (m_ (iV p) e0) ?_))
    obtain ⟨v7,D⟩:=b.famI R2 b9
    refine yR rfl (yIa SLH_25 e0 e0 b rO1 D) (yR rfl (yF1 O_31 e0 b rO1 D rfl) (yR rfl (m_ (iV p) e0) (yR rfl (m_ o.v (eh I)) (yR rfl (m_ (iV p) e0) ?_))))
    obtain ⟨v8,U⟩:=b.famI R2 c0
    refine yR rfl (yIa SLH_25 e0 e0 b rO1 U) (yR rfl (yF1 O_31 e0 b rO1 U rfl) (yR rfl (m_ (iV p) e0) (yR rfl (yIa SL_31 e0 e0 b (rdF R2 U c0) f3) ?_)))
    obtain ⟨v9,w1,cc394,b⟩:=b.ld (rdF R2 U c0) f3
    replace b:=b.eltP
    obtain ⟨w2,w3,rfl,b⟩:=b
    replace b:=b.eltB
    obtain ⟨rfl,b⟩:=b
    replace b:=b.eltS
    obtain ⟨s1,rfl,b⟩:=b
    refine yR rfl (yCn (cs:=[.bool r5.1,s1.v]) ST_34 rfl e0 cc394) (yR rfl (m_ d.v (eh b6)) (yR rfl (m_ (iV (i.length:Int)) (eh b5)) (yR rfl (m_ (iV k) (eh b7)) (yR rfl (ysub e0 e0) (yR rfl (yadd e0 rfl) (yR rfl (yIa SL_31 e0 e0 b rO0 f4) ?_))))))
    obtain ⟨w4,w5,cc397,b⟩:=b.ld rO0 f4
    replace b:=b.eltP
    obtain ⟨w6,w7,rfl,b⟩:=b
    replace b:=b.eltB
    obtain ⟨rfl,b⟩:=b
    replace b:=b.eltS
    obtain ⟨s2,rfl,b⟩:=b
    refine yR rfl (yCn (cs:=[.bool r7.1,s2.v]) ST_34 rfl e0 cc397) (Rn QSn ?_)
    refine Lc1 rfl ?_
    refine Lk wn (yCall FN_12 (a2 e0 e0)) (integer_Add_ok r9 F1 F0 b) ?_
    rintro _ w ⟨s3,rfl,b⟩
    refine ⟨_,rfl,?_⟩
    refine Dn [20] [0,1,2,3,4] [21] (yR rfl (yIs SL_31 e0 e0 b (rdF R2 D b9) f5) (Rn (yS rfl (m_ o.v (eh I)) (yS rfl (m_ (iV p) e0) (yS rfl (yIa SLH_25 e0 e0 b rO1 D) (yS rfl (yF1 O_31 e0 b rO1 D rfl) (yS rfl (m_ (iV p) e0) QSn))))) ?_))
    refine Lc1 rfl ?_
    replace b:=b.k1f
    refine LT wn (r_stn (cs:=[.bool r8.1,s3.v]) (b.foc D b9) ST_34 e0 e0 rfl (mkP mkB (mkS F0)) f5) fun w b=>?_
    replace b:=b.unfoc' D s0
    refine Dz [] [] (Rn QSn (r3 _ _ _ (r2 _ _ (wR (yY (yadd (eh b8) rfl) (Ym (iV (wa .i64 p 1)) e0 (wN ?_)))))))
    cases h
    exact q6 _ _ _ rfl ⟨_,_,_,rfl,rfl,f1,b5,b6,I,b7,f2,rfl,((b.k19).facts (allT (allT (allT allI))))⟩
   ·refine wp_exit (r0 _ _ _ rfl ?_)
    cases h
    exact q7 _ _ _ _ rfl rfl (m2 _ _ _ f1 b5 b6 I b7 b (q5 _ rfl))
  ·refine wp_exit (l1 _ _ _ rfl ?_)
   cases g
   exact k9 _ _ _ _ rfl rfl (j6 _ _ _ d2 (b.k2a) (k0 _ rfl))
 refine loopQ (fun s a w=>∃ (c1:List (List (Bool×LI))) (E:Int) (f:FV) (c2:List Hdr),(c1,E)=s∧a=fr 102 f∧f 0=m.v∧f 3=iV (i.length:Int)∧f 4=d.v∧f 5=B.v∧f 26=iV (h1.length:Int)∧f 27=iV E∧St w0 ros (row 34 (rP rB (rS (rI .u32))) d.v c9::row 31 rH B.v c2::fam 34 (rP rB (rS (rI .u32))) c2 c1::rs) w) i4 ⟨_,_,_,_,rfl,rfl,rfl,rfl,rfl,rfl,rfl,rfl,((b.k1f).facts (allT allI))⟩ ?_
 rintro _ _ w w8 ⟨c1,E,f,c2,rfl,rfl,f6,c3,f7,c4,f8,c5,b⟩ t s4 w9 s5 s6
 refine sR fun _ s7=>yY (ylss (eh c5) (eh f8)) (wK s7 (seqQ fun x0 s8 s9=>?_))
 refine cIf e0 t (fun t0 t=>?_) fun t0 t=>?_
 ·refine wp_skip (s8 _ _ (sQ fun _ t1=>blockQ fun _ t2=>sR fun _ t3=>Ym (iV E) (eh c5) (Ya (iV E) e0 (wK t3 (wR (Ym B.v (eh c4) (Ym (iV E) e0 (Ym (iV (i.length:Int)) (eh c3) ?_))))))))
  refine bE t fun x2 t4 t=>yH (rMk b SL_31 e0 t4) fun f9 w b=>bE t fun x3 g0 t=>?_
  obtain ⟨x4,c6⟩:=setI_len (u:=f9) g0 (b.famL (mtR (mtR (mtR mhR))))
  refine yY (yIs SLH_25 e0 e0 b rO2 c6) (yT (r_sti (cs:=[f9.v]) (b.k1f) O_31 rfl e0 e0 rfl (mkF rfl) c6) fun w b=>?_)
  replace b:=(b.k2b).fput c6 g0
  refine wN (t2 _ _ _ (t1 _ _ (wR (yY (yadd (eh c5) rfl) (Ym (iV (wa .i64 E 1)) e0 (wN ?_))))))
  cases t
  exact s5 _ _ _ rfl ⟨_,_,_,_,rfl,rfl,f6,c3,f7,c4,f8,rfl,(b.k2c)⟩
 ·refine wp_exit (s9 _ _ _ rfl ?_)
  cases t
  exact s6 _ _ _ _ rfl rfl (i5 _ _ _ _ f6 c3 f7 c4 b (s4 _ rfl))
theorem exact_Inertia_ok {t:List (List (Bool×LI))} {d:Hdr} {out:Int×Int×Int×Int} (c:exact_Inertia t=some out) (n:imm (rS (rP rB (rS (rI .u32)))) d.v t∈ros) (b:St w0 ros rs w):
  Calls Tryd.prog 9 #[d.v] w (fun e w=>e=.returned (.tuple #[iV out.1,iV out.2.1,iV out.2.2.1,iV out.2.2.2])∧St w0 ros rs w):=by
 refine enterQ Tryd.func9 rfl Tryd.ntmps9 rfl fun Q O=>sR fun _ g0=>Ya (iV 0) rfl (Ya (iV 0) rfl (Ya (iV 0) rfl (Ya (iV 0) rfl (wK g0 (sR fun _ g1=>Ym d.v e0 (bE c fun D g2 c=>yC (yCall FN_24 (a1 e0)) (exact_square_ok g2 n b) ?_))))))
 rintro _ w ⟨rfl,b⟩
 refine ⟨_,rfl,?_⟩
 refine Ya (iV D) e0 (wK g1 (seqQ fun t0 g3 g4=>sR fun _ g5=>Ym (iV D) e0 (yY (yneq e0 rfl) (wK g5 ?_))))
 rcases iteS c with ⟨R,c⟩ | ⟨R,c⟩
 ·refine condF e0 (nF (dT R)) (wp_skip (g3 _ _ (seqQ fun t1 g6 g7=>sR fun _ g8=>Ym d.v e0 (yY (yLen SL_25 e0 b (rdI n)) (Ym (iV 0) rfl (wK g8 (blockQ fun a7 a8=>bE c fun a9 g9 c=>?_)))))))
  have h0:∀ (f:FV) w,f 0=d.v→f 3=iV 0→f 4=iV 0→St w0 ros rs w→.inl ()=a9→a7 (.exit 0) (fr 89 f) w:=by
   intro f w b0 h1 h3 b ho
   subst ho
   refine a8 _ _ _ (g6 _ _ (sR fun _ h4=>Ym d.v (eh b0) (bE c fun t2 h5 c=>?_)))
   replace b:=b.immNh (rP rB (rS (rI .u32)))
   refine yC (yCall FN_27 (a2 e0 rfl)) (exact_twin_ok h5 (mtF n) F0 b) ?_
   rintro _ w ⟨t3,t4,rfl,b⟩
   refine ⟨_,rfl,?_⟩
   refine bE c fun o h6 c=>?_
   replace b:=b.ffz
   refine yC (yCall FN_26 (a1 e0)) (exact_characteristic_ok h6 F0 b) ?_
   rintro _ w ⟨h,rfl,b⟩
   refine ⟨_,rfl,?_⟩
   refine Ya h.v e0 (wK h4 (sQ fun _ h7=>blockQ fun h8 h9=>bE c fun i0 i1 c=>?_))
   have i2:∀ (k:Int) (f:FV) w,f 0=d.v→f 3=iV k→f 4=iV 0→f 10=h.v→St w0 ros (row 34 (rP rB (rS (rI .u32))) h.v o::rs) w→k=i0→h8 (.exit 4) (fr 89 f) w:=by
    intro k f w i3 i4 i5 i6 b ho
    subst ho
    refine h9 _ _ _ (h7 _ _ (sR fun _ i7=>Ya (iV 0) rfl (wK i7 (sQ fun _ i8=>sR fun _ i9=>Ym h.v (eh i6) (yY (yLen SL_31 e0 b rO0) (Ym (iV 0) rfl (wN ?_)))))))
    refine i9 _ _ (blockQ fun j0 j1=>bE c fun j2 j3 c=>?_)
    have j4:∀ (u:Int) (f:FV) w,f 0=d.v→f 3=iV k→f 4=iV u→St w0 ros rs w→u=j2→j0 (.exit 6) (fr 89 f) w:=by
     intro u f w j5 b1 b2 b ho
     subst ho
     refine j1 _ _ _ (i8 _ _ (sR fun _ j6=>Ym d.v (eh j5) (yY (yLen SL_25 e0 b (rdI n)) (Ym (iV k) (eh b1) (yY (ysub e0 e0) (Ym (iV u) (eh b2) (yY (ysub e0 e0) (Ym (iV k) (eh b1) (Ym (iV u) (eh b2) (Ya (iV (ws .i64 (ws .i64 (t.length:Int) k) u)) e0 (Ya (iV k) e0 ?_)))))))))))
     refine Ya (iV u) e0 (Ya (iV 0) rfl (wK j6 (wp_ret ?_)))
     cases c
     exact O _ _ _ (fin4r Tryd.results9 ⟨rfl,rfl⟩ ⟨rfl,rfl⟩ ⟨rfl,rfl⟩ ⟨rfl,rfl⟩ ⟨rfl,b⟩)
    refine loopQ (fun s a w=>∃ (B A r:Int) (f:FV),(B,A,r)=s∧a=fr 89 f∧f 0=d.v∧f 3=iV k∧f 4=iV B∧f 11=iV A∧f 63=h.v∧f 64=iV (o.length:Int)∧f 65=iV r∧St w0 ros (row 34 (rP rB (rS (rI .u32))) h.v o::rs) w) j3 ⟨_,_,_,_,rfl,rfl,i3,i4,i5,rfl,rfl,rfl,rfl,b⟩ ?_
    rintro _ _ w b3 ⟨B,A,r,f,rfl,rfl,S,T,U,V,W,X,E,b⟩ j j7 t5 j8 j9
    refine sR fun _ k0=>yY (ylss (eh E) (eh X)) (wK k0 (seqQ fun t6 k7 k8=>?_))
    refine cIf e0 j (fun k9 j=>?_) fun k9 j=>?_
    ·refine wp_skip (k7 _ _ (sQ fun _ l0=>blockQ fun l1 l2=>sR fun _ l3=>bE j fun F b4 j=>yY (yIa SL_31 (eh W) (eh E) b rO0 b4) ?_))
     obtain ⟨t7,t8,cc187,b⟩:=b.ld rO0 b4
     replace b:=b.eltP
     obtain ⟨t9,u0,rfl,b⟩:=b
     replace b:=b.eltB
     obtain ⟨rfl,b⟩:=b
     replace b:=b.eltS
     obtain ⟨G,rfl,b⟩:=b
     refine yY (yCn (cs:=[.bool F.1,G.v]) ST_34 rfl e0 cc187) (yBb (rAl b ZT_34) fun u1 w b=>yT (r_stbn (vals':=[.bool F.1,G.v]) (us:=[.bool F.1,G.v]) b ST_34 e0 e0 rfl rfl (one_of rfl) rfl) fun w b=>wK l3 (sR fun _ l4=>yY (lbs_ [.bool F.1,G.v] ST_34 e0 b R0) (bE j fun x l5 j=>yC (yCall FN_18 (a1 e0)) (integer_Sign_ok l5 F0 b) ?_)))
     rintro _ w ⟨rfl,b⟩
     refine ⟨_,rfl,?_⟩
     refine Ya (iV x) e0 (wK l4 (sQ fun l6 l7=>sR fun _ l8=>Ym (iV x) e0 (Ym (iV A) (eh V) (yY (ymul e0 e0) (yY (ylss e0 rfl) (wK l8 ?_))))))
     have b5:∀ (C:Int) (f:FV) w,f 0=d.v→f 3=iV k→f 4=iV C→f 11=iV A→f 14=iV x→f 63=h.v→f 64=iV (o.length:Int)→f 65=iV r→St w0 ros (row 34 (rP rB (rS (rI .u32))) h.v o::rs) w→exact_Inertia_j12 x r A C=some b3→l6 .normal (fr 89 f) w:=by
      intro C f w b6 b7 b8 l9 b9 c0 c1 c2 b c
      refine l7 _ _ (sR fun _ m0=>Ym (iV x) (eh b9) (yY (yneq e0 rfl) (wK m0 ?_)))
      have c3:∀ (Z:Int) (f:FV) w,f 0=d.v→f 3=iV k→f 4=iV C→f 11=iV Z→f 63=h.v→f 64=iV (o.length:Int)→f 65=iV r→St w0 ros (row 34 (rP rB (rS (rI .u32))) h.v o::rs) w→exact_Inertia_j13 C r Z=some b3→l1 .normal (fr 89 f) w:=by
       intro Z f w m1 m2 m3 m4 m5 m6 m7 b c
       refine l2 _ _ _ (l0 _ _ (wR (yY (yadd (eh m7) rfl) (Ym (iV (wa .i64 r 1)) e0 (wN ?_)))))
       cases c
       exact j8 _ _ _ rfl ⟨_,_,_,_,rfl,rfl,m1,m2,m3,m4,m5,m6,rfl,b⟩
      rcases iteS c with ⟨a0,c⟩ | ⟨a0,c⟩
      ·exact condF e0 (nF (dT a0)) (wp_skip (c3 _ _ _ b6 b7 b8 l9 c0 c1 c2 b c))
      ·exact condT e0 (nT (dF a0)) (wR (Ym (iV x) (eh b9) (Ya (iV x) e0 (wN (c3 _ _ _ b6 b7 b8 rfl c0 c1 c2 b c)))))
     refine cIf e0 j (fun m8 j=>?_) fun m8 j=>?_
     ·exact wR (Ym (iV B) (eh U) (yY (yadd e0 rfl) (Ya (iV (wa .i64 B 1)) e0 (wN (b5 _ _ _ S T rfl V rfl W X E ((b.k12).facts (allT allI)) j)))))
     ·exact wp_skip (b5 _ _ _ S T U V rfl W X E ((b.k12).facts (allT allI)) j)
    ·refine wp_exit (k8 _ _ _ rfl ?_)
     cases j
     exact j9 _ _ _ _ rfl rfl (j4 _ _ _ S T U (b.k13) (j7 _ rfl))
   refine loopQ (fun s a w=>∃ (p:Int) (f:FV),p=s∧a=fr 89 f∧f 0=d.v∧f 3=iV p∧f 4=iV 0∧f 10=h.v∧St w0 ros (row 34 (rP rB (rS (rI .u32))) h.v o::rs) w) i1 ⟨_,_,rfl,rfl,b0,h1,h3,rfl,(b.facts (allT (allT allI)))⟩ ?_
   rintro _ _ w u2 ⟨p,f,rfl,rfl,a3,H,c5,a4,b⟩ y m9 u3 n0 n1
   refine seqQ fun u4 n2 n4=>sR fun _ n5=>Ym (iV p) (eh H) (Ym d.v (eh a3) (yY (yLen SL_25 e0 b (rdI n)) (yY (ylss e0 e0) (Ym (.bool (decide (p < (t.length:Int)))) e0 (bE y fun n7 q y=>?_)))))
   refine joinW 7 (fun f w=>f 0=d.v∧f 3=iV p∧f 4=iV 0∧f 10=h.v∧f 60=.bool n7∧St w0 ros (row 34 (rP rB (rS (rI .u32))) h.v o::rs) w) (fun c6=>?_) ?_
   ·rcases iteS q with ⟨i,q⟩ | ⟨i,q⟩
    ·refine yG (dT i) (m_ h.v (eh a4)) (yG (dT i) (m_ (iV p) (eh H)) (bE q fun n8 c7 q=>yG (dT i) (yIa SL_31 e0 e0 b rO0 c7) ?_))
     obtain ⟨u5,u6,cc207,b⟩:=b.ld rO0 c7
     replace b:=b.eltP
     obtain ⟨u7,u8,rfl,b⟩:=b
     replace b:=b.eltB
     obtain ⟨rfl,b⟩:=b
     replace b:=b.eltS
     obtain ⟨n9,rfl,b⟩:=b
     refine yG (dT i) (yCn (cs:=[.bool n8.1,n9.v]) ST_34 rfl e0 cc207) (bE q fun o0 o1 q=>Yc (wG (dT i)) rfl (yCall FN_18 (a1 e0)) (integer_Sign_ok o1 F0 b) ?_)
     rintro _ w ⟨rfl,b⟩
     refine ⟨_,rfl,?_⟩
     refine yG (dT i) (yeql e0 rfl) (yY (pt_ (.bool (decide (o0=0))) e0 (dT i) e0) ?_)
     cases q
     exact c6 _ _ ⟨a3,H,c5,a4,rfl,(b.facts (allT allI))⟩
    ·refine gN (dF i) (gN (dF i) (gN (dF i) (gN (dF i) (gN (dF i) (gN (dF i) (yY (pf_ (.bool false) e0 (dF i) rfl) ?_))))))
     cases q
     exact c6 _ _ ⟨a3,H,c5,a4,rfl,b⟩
   rintro f w ⟨c8,c9,d0,d1,o2,b⟩
   refine wK n5 (cB (eh o2) y (fun o4 y=>?_) fun o4 y=>?_)
   ·refine wp_skip (n2 _ _ (blockQ fun _ o5=>wR (Ym (iV p) (eh c9) (yY (yadd e0 rfl) (Ya (iV (wa .i64 p 1)) e0 (wN (o5 _ _ _ ?_)))))))
    cases y
    exact n0 _ _ _ rfl ⟨_,_,rfl,rfl,c8,rfl,d0,d1,b⟩
   ·refine wp_exit (n4 _ _ _ rfl ?_)
    cases y
    exact n1 _ _ _ _ rfl rfl (i2 _ _ _ c8 c9 d0 d1 b (m9 _ rfl))
  have o7:∀ (f:FV) w,f 2=iV 0→f 3=iV 0→f 4=iV 0→f 5=iV 80→St w0 ros rs w→.inr ()=a9→a7 .ret (fr 89 f) w:=by
   intro f w o8 o9 p0 p1 b ho
   subst ho
   refine a8 _ _ _ (g7 _ _ _ rfl ?_)
   cases c
   exact O _ _ _ (fin4r Tryd.results9 ⟨rfl,o8⟩ ⟨rfl,o9⟩ ⟨rfl,p0⟩ ⟨rfl,p1⟩ ⟨rfl,b⟩)
  refine loopQ (fun s a w=>∃ (l:Int) (f:FV),l=s∧a=fr 89 f∧f 0=d.v∧f 3=iV 0∧f 4=iV 0∧f 20=d.v∧f 21=iV (t.length:Int)∧f 22=iV l∧St w0 ros rs w) g9 ⟨_,_,rfl,rfl,rfl,rfl,rfl,rfl,rfl,rfl,b⟩ ?_
  rintro _ _ w u9 ⟨l,f,rfl,rfl,d2,d3,d4,d5,d6,I,b⟩ m d7 v0 p2 d8
  refine sR fun _ p3=>yY (ylss (eh I) (eh d6)) (wK p3 (seqQ fun v1 p4 p5=>?_))
  refine cIf e0 m (fun p6 m=>?_) fun p6 m=>?_
  ·refine wp_skip (p4 _ _ (seqQ fun v2 p7 p8=>blockQ fun _ d9=>sR fun _ p9=>Ym (iV l) (eh I) (bE m fun e1 e2 m=>yY (yIa SL_25 (eh d5) (eh I) b (rdI n) e2) ?_)))
   obtain ⟨J,b⟩:=iLs b n e2
   refine yY (yCt O_31 e0 b F1 rfl) (Ya (iV l) e0 (Ya J.v e0 (wK p9 (sR fun _ q0=>Ym J.v e0 (yY (yLen SL_31 e0 b (rdI F0)) (Ym (iV 0) rfl (wK q0 (blockQ fun e3 e4=>bE m fun e5 q2 m=>?_))))))))
   have q3:∀ (f:FV) w,f 0=d.v→f 3=iV 0→f 4=iV 0→f 20=d.v→f 21=iV (t.length:Int)→f 22=iV l→St w0 ros rs w→.inl ()=e5→e3 (.exit 2) (fr 89 f) w:=by
    intro f w q4 q5 q6 q7 q8 q9 b ho
    subst ho
    refine e4 _ _ _ (d9 _ _ _ (p7 _ _ (wR (yY (yadd (eh q9) rfl) (Ym (iV (wa .i64 l 1)) e0 (wN ?_))))))
    cases m
    exact p2 _ _ _ rfl ⟨_,_,rfl,rfl,q4,q5,q6,q7,q8,rfl,b⟩
   have r0:∀ (f:FV) w,f 2=iV 0→f 3=iV 0→f 4=iV 0→f 5=iV 80→St w0 ros rs w→.inr ()=e5→e3 .ret (fr 89 f) w:=by
    intro f w r1 r2 r4 r5 b ho
    subst ho
    refine e4 _ _ _ (d9 _ _ _ (p8 _ _ _ rfl ?_))
    cases m
    exact d8 _ _ _ _ rfl rfl (o7 _ _ r1 r2 r4 r5 b (d7 _ rfl))
   refine loopQ (fun s a w=>∃ (z:Int) (f:FV),z=s∧a=fr 89 f∧f 0=d.v∧f 3=iV 0∧f 4=iV 0∧f 6=iV l∧f 20=d.v∧f 21=iV (t.length:Int)∧f 22=iV l∧f 27=J.v∧f 28=iV (e1.length:Int)∧f 29=iV z∧St w0 (imm (rP rB (rS (rI .u32))) J.v e1::ros) rs w) q2 ⟨_,_,rfl,rfl,d2,d3,d4,rfl,d5,d6,I,rfl,rfl,rfl,(b.facts (allC F0 (allT (allT allI))))⟩ ?_
   rintro _ _ w v3 ⟨z,f,rfl,rfl,a5,e6,e7,e8,e9,f0,f1,f2,f3,K,b⟩ g f4 v4 r6 f5
   refine sR fun _ r7=>yY (ylss (eh K) (eh f3)) (wK r7 (seqQ fun v5 r8 r9=>?_))
   refine cIf e0 g (fun s0 g=>?_) fun s0 g=>?_
   ·refine wp_skip (r8 _ _ (seqQ fun v6 s1 s2=>blockQ fun _ f6=>sR fun _ s3=>Ym (iV z) (eh K) (bE g fun L f7 g=>yY (yIa SL_31 (eh f2) (eh K) b (rdI F0) f7) ?_)))
    obtain ⟨v7,v8,b⟩:=iLd b F0 f7
    obtain ⟨v9,w1,rfl,b⟩:=b.eltP
    obtain ⟨rfl,b⟩:=b.eltB
    obtain ⟨N,rfl,b⟩:=b.eltS
    refine yY (yCtn (cs:=[.bool L.1,N.v]) ST_34 rfl e0 b F1) (yBb (rAl b ZT_34) fun w2 w b=>Ya (iV z) e0 (yT (r_stbn (vals':=[.bool L.1,N.v]) (us:=[.bool L.1,N.v]) b ST_34 e0 e0 rfl rfl (one_of rfl) rfl) fun w b=>wK s3 (sQ fun _ s4=>bE g fun w3 f8 g=>bE g fun s5 f9 g=>bE g fun w4 s6 g=>dR [0,0,0,6,14,0,62,126,255,511] [8] 1 folM ?_)))
    replace b:=b.drew
    refine Dn [0,1,2,3,4,5,6,7] [] [8] (yR rfl (lbs_ [.bool L.1,N.v] ST_34 e0 b R0) (yR rfl (m_ d.v (eh a5)) (yR rfl (m_ (iV z) e0) (yR rfl (yIa SL_25 e0 e0 b (rdI (F_3 n)) f8) ?_))))
    obtain ⟨w5,b⟩:=iLs b (F_3 n) f8
    refine yR rfl (yCt O_31 e0 b F1 rfl) (yR rfl (m_ (iV l) (eh e8)) (yR rfl (yIa SL_31 e0 e0 b (rdI F0) f9) ?_))
    obtain ⟨w6,w7,b⟩:=iLd b F0 f9
    obtain ⟨w8,w9,rfl,b⟩:=b.eltP
    obtain ⟨rfl,b⟩:=b.eltB
    obtain ⟨s7,rfl,b⟩:=b.eltS
    refine yR rfl (yCtn (cs:=[.bool s5.1,s7.v]) ST_34 rfl e0 b F1) (Rn QSn ?_)
    refine Lc1 rfl ?_
    refine Lk wn (yCall FN_25 (a2 e0 e0)) (integer_Cmp_ok s6 F4 F0 b) ?_
    rintro _ w ⟨rfl,b⟩
    refine ⟨_,rfl,?_⟩
    refine Dz [9] [] (yR rfl (yneq e0 rfl) (Rn QSn (s4 _ _ ?_)))
    rcases iteS g with ⟨a6,g⟩ | ⟨a6,g⟩
    ·refine condF e0 (nF (dT a6)) (wp_skip (f6 _ _ _ (s1 _ _ (wR (yY (yadd (eh K) rfl) (Ym (iV (wa .i64 z 1)) e0 (wN ?_)))))))
     cases g
     exact r6 _ _ _ rfl ⟨_,_,rfl,rfl,a5,e6,e7,e8,e9,f0,f1,f2,f3,rfl,((b.k13).facts (allC F6 (allT (allT (allT (allT (allT (allT (allT allI)))))))))⟩
    ·refine condT e0 (nT (dF a6)) (sR fun _ s8=>Ya (iV 0) rfl (Ya (iV 0) rfl (Ya (iV 0) rfl (Ya (iV 80) rfl (wK s8 (wp_ret (f6 _ _ _ (s2 _ _ _ rfl ?_))))))))
     cases g
     exact f5 _ _ _ _ rfl rfl (r0 _ _ rfl rfl rfl rfl ((b.k13).facts (allT (allT (allT (allT (allT (allT (allT allI)))))))) (f4 _ rfl))
   ·refine wp_exit (r9 _ _ _ rfl ?_)
    cases g
    exact f5 _ _ _ _ rfl rfl (q3 _ _ a5 e6 e7 e9 f0 f1 (b.facts (allT allI)) (f4 _ rfl))
  ·refine wp_exit (p5 _ _ _ rfl ?_)
   cases m
   exact d8 _ _ _ _ rfl rfl (h0 _ _ d2 d3 d4 b (d7 _ rfl))
 ·refine condT e0 (nT (dF R)) (sR fun _ s9=>Ym (iV D) e0 (Ya (iV 0) rfl (Ya (iV 0) rfl (Ya (iV 0) rfl (Ya (iV D) e0 (wK s9 (wp_ret (g4 _ _ _ rfl ?_))))))))
  cases c
  exact O _ _ _ (fin4r Tryd.results9 ⟨rfl,rfl⟩ ⟨rfl,rfl⟩ ⟨rfl,rfl⟩ ⟨rfl,rfl⟩ ⟨rfl,b⟩)
theorem slices_Reverse_string_ok {l:List ByteArray} {d:Hdr} {out:(List ByteArray)} (m:slices_Reverse_string l=some out) (b:St w0 ros (row 9 rG d.v l::rs) w):
  Calls Tryd.prog 46 #[d.v] w (fun e w=>e=.returned (.tuple #[])∧St w0 ros (row 9 rG d.v out::rs) w):=by
 refine enterQ Tryd.func46 rfl Tryd.ntmps46 rfl fun Q u=>sR fun _ x=>Ym d.v e0 (yY (yLen SL_67 e0 b rO0) (yY (ysub e0 rfl) (Ya (iV 0) rfl (Ya (iV (ws .i64 (l.length:Int) 1)) e0 (wK x (blockQ fun y z=>bE m fun A B m=>?_))))))
 have C:∀ (n:List ByteArray) (f:FV) w,St w0 ros (row 9 rG d.v n::rs) w→n=A→y (.exit 0) (fr 28 f) w:=by
  intro n f w b ho
  subst ho
  refine z _ _ _ ?_
  cases m
  exact u _ _ _ (fin0n Tryd.results46 ⟨rfl,b⟩)
 refine loopQ (fun s a w=>∃ (o:List ByteArray) (h g:Int) (f:FV),(o,h,g)=s∧a=fr 28 f∧f 0=d.v∧f 2=iV h∧f 3=iV g∧St w0 ros (row 9 rG d.v o::rs) w) B ⟨_,_,_,_,rfl,rfl,rfl,rfl,rfl,b⟩ ?_
 rintro _ _ w R ⟨o,h,g,f,rfl,rfl,i,k,j,b⟩ c D S E F
 refine seqQ fun T G H=>sR fun _ I=>Ym (iV h) (eh k) (Ym (iV g) (eh j) (yY (ylss e0 e0) (wK I ?_)))
 refine cIf e0 c (fun J c=>?_) fun J c=>?_
 ·refine wp_skip (G _ _ (sQ fun _ K=>blockQ fun _ L=>bE c fun N p c=>bE c fun O q c=>bE c fun U r c=>bE c fun V t c=>dR [0,0,0,0,0,0,48,112,0,0,768,1792,4083,8179,16383,32767] [13,15] 2 folM ?_))
  replace b:=b.drew
  refine Dn [0,1,2,3,4,5,6,7,8,9,10,11,12] [] [13] (yR rfl (m_ d.v (eh i)) (yR rfl (m_ (iV h) (eh k)) (yR rfl (m_ d.v (eh i)) (yR rfl (m_ (iV g) (eh j)) (yR rfl (m_ d.v (eh i)) (yR rfl (m_ (iV g) (eh j)) (yR rfl (yIa SL_67 e0 e0 b rO0 p) (yR rfl (ySt O_9 e0 b rO0 p) (yR rfl (m_ d.v (eh i)) (yR rfl (m_ (iV h) (eh k)) (yR rfl (yIa SL_67 e0 e0 b rO0 q) (yR rfl (ySt O_9 e0 b rO0 q) (yR rfl (yIs SL_67 e0 e0 b rO0 r) ?_)))))))))))))
  refine Rn QSn ?_
  refine Lc1 rfl ?_
  refine LT wn (r_sti (cs:=[.string N]) b O_9 rfl e0 e0 rfl mkG r) fun w b=>Dn [14] [2,3] [15] (yR rfl (yIs SL_67 e0 e0 b rO0 t) (Rn (yS rfl (m_ d.v (eh i)) (yS rfl (m_ (iV g) (eh j)) QSn)) ?_))
  refine Lc1 rfl ?_
  refine LT wn (r_sti (cs:=[.string O]) b O_9 rfl e0 e0 rfl mkG t) fun w b=>Dz [] [] (Rn QSn (L _ _ _ (K _ _ (wR (Ym (iV h) (eh k) (yY (yadd e0 rfl) (Ym (iV g) (eh j) (yY (ysub e0 rfl) (Ya (iV (wa .i64 h 1)) e0 (Ya (iV (ws .i64 g 1)) e0 (wN ?_)))))))))))
  cases c
  exact E _ _ _ rfl ⟨_,_,_,_,rfl,rfl,i,rfl,rfl,b⟩
 ·refine wp_exit (H _ _ _ rfl ?_)
  cases c
  exact F _ _ _ _ rfl rfl (C _ _ _ b (D _ rfl))
theorem integer_Format_ok {h:Bool} {A:LI} {i:Hdr} {out:ByteArray} (c:integer_Format h A=some out) (H:imm (rI .u32) i.v A∈ros) (b:St w0 ros rs w):
  Calls Tryd.prog 23 #[.agg #[.bool h,i.v]] w (fun e w=>e=.returned (.string out)∧St w0 ros rs w):=by
 refine enterQ Tryd.func23 rfl Tryd.ntmps23 rfl fun Q B=>sR fun _ I=>yBb (r_box (vals:=[.bool h,i.v]) b e0 rfl) fun k w b=>Ya (.string (⟨#[]⟩:ByteArray)) rfl (wK I (sR fun _ J=>yY (yFb FL_34_1 e0) (yY (lb_ i.v O_32 e0 b R0) (bE c fun e3 K c=>yC (yCall FN_30 (a1 e0)) (integer_trim_ok K H b) ?_))))
 rintro _ w ⟨e4,rfl,b⟩
 refine ⟨_,rfl,?_⟩
 refine bE c fun e5 L c=>yC (yCall FN_29 (a1 e0)) (slices_Clone_uint32_ok L F0 b) ?_
 rintro _ w ⟨N,rfl,b⟩
 refine ⟨_,rfl,?_⟩
 refine Ya N.v e0 (wK J (sR fun _ O=>Ya hnil.v rfl (wK O (sQ fun _ R=>blockQ fun S T=>bE c fun U V c=>?_))))
 have W:∀ (u:List ByteArray) (p:Hdr) (f:FV) w,f 1=(pB k)→f 4=p.v→St w0 ros (box k 34 [.bool h,i.v]::row 9 rG p.v u::rs) w→u=U→S (.exit 0) (fr 49 f) w:=by
  intro u p f w X x b ho
  subst ho
  refine T _ _ _ (R _ _ (seqQ fun e6 Z a0=>sR fun _ a3=>Ym p.v (eh x) (yY (yLen SL_67 e0 b rO1) (yY (yeql e0 rfl) (wK a3 ?_)))))
  refine cIf e0 c (fun a4 c=>?_) fun a4 c=>?_
  ·refine sR fun _ a5=>Ya (.string (⟨#[48]⟩:ByteArray)) rfl (wK a5 (wp_ret (a0 _ _ _ rfl ?_)))
   cases c
   exact B _ _ _ (fin1r Tryd.results23 ⟨rfl,rfl⟩ ⟨rfl,(b.k14)⟩)
  ·refine wp_skip (Z _ _ (sQ fun a6 a7=>sR fun _ a8=>yY (yFb FL_34_0 (eh X)) (yY (lb_ (.bool h) O_4 e0 b R0) (wK a8 ?_))))
   have C:∀ (y:List ByteArray) (q:Hdr) (f:FV) w,f 4=q.v→St w0 ros (row 9 rG q.v y::rs) w→integer_Format_j4 y=some out→a6 .normal (fr 49 f) w:=by
    intro y q f w D b c
    refine a7 _ _ (sR fun _ a9=>Ym q.v (eh D) (bE c fun e7 b0 c=>yC (yCall FN_46 (a1 e0)) (slices_Reverse_string_ok b0 b) ?_))
    rintro _ w ⟨rfl,b⟩
    refine ⟨_,rfl,?_⟩
    refine wK a9 (sR fun _ b1=>Ym q.v (eh D) (bE c fun b2 b3 c=>?_))
    replace b:=b.fz
    refine yC (yCall FN_47 (a2 e0 rfl)) (joinG_ok b3 F0 b) ?_
    rintro _ w ⟨rfl,b⟩
    refine ⟨_,rfl,?_⟩
    refine Ya (.string b2) e0 (wK b1 (wp_ret ?_))
    cases c
    exact B _ _ _ (fin1r Tryd.results23 ⟨rfl,rfl⟩ ⟨rfl,(b.facts (allT allI))⟩)
   refine cB e0 c (fun b5 c=>?_) fun b5 c=>?_
   ·exact wR (Ym p.v (eh x) (yH (rLt (n:=1) (l:=[(⟨#[45]⟩:ByteArray)]) b SL_67 [.string (⟨#[45]⟩:ByteArray)] (bp1 rfl) rfl rfl (mks1 (cs:=[.string (⟨#[45]⟩:ByteArray)]) rfl mkG mks0)) fun e8 w b=>bE c fun e9 b6 c=>yH (rAp (b.k1f) SL_67 e0 e0 rO1 b6) fun b7 w b=>Ya b7.v e0 (wN (C _ _ _ _ rfl (b.k2a) c))))
   ·exact wp_skip (C _ _ _ _ x (b.k12) c)
 replace b:=b.fz.rowNh 9 rG
 refine loopQ (fun s a w=>∃ (z:LI) (r:List ByteArray) (f:FV) (t m:Hdr),(z,r)=s∧a=fr 49 f∧f 1=(pB k)∧f 3=t.v∧f 4=m.v∧St w0 (imm (rI .u32) t.v z::ros) (box k 34 [.bool h,i.v]::row 9 rG m.v r::rs) w) V ⟨_,_,_,_,_,rfl,rfl,rfl,rfl,rfl,((b.k10).facts (allC F0 (allT (allT allI))))⟩ ?_
 rintro _ _ w b8 ⟨z,r,f,t,m,rfl,rfl,E,F,G,b⟩ d b9 f0 c0 c1
 refine seqQ fun f1 c2 c3=>sR fun _ c4=>Ym t.v (eh F) (yY (yLen SL_32 e0 b (rdI F0)) (yY (ygtr e0 rfl) (wK c4 ?_)))
 refine cIf e0 d (fun c5 d=>?_) fun c5 d=>?_
 ·refine wp_skip (c2 _ _ (blockQ fun _ c6=>sR fun _ c7=>Ym t.v (eh F) (bE d fun o c8 d=>yC (yCall FN_43 (a2 e0 rfl)) (integer_short_ok c8 F0 b) ?_)))
  rintro _ w ⟨g,rfl,b⟩
  refine ⟨_,rfl,?_⟩
  refine Ym (.tuple #[g.v,.int .u32 o.2]) e0 (yY (x_ g.v e0) (yY (x_ (.int .u32 o.2) e0) (Ya g.v e0 (Ya (.int .u32 o.2) e0 (wK c7 (sR fun _ c9=>Ym (.int .u32 o.2) e0 (yY (ycv (k':=.i64) (by kernel_rfl) (by kernel_rfl) e0) (bE d fun j d0 d=>yC (yCall FN_44 (a1 e0)) (itoaG_ok d0 b) ?_))))))))
  rintro _ w ⟨rfl,b⟩
  refine ⟨_,rfl,?_⟩
  refine Ya (.string j) e0 (wK c9 (sQ fun d1 d2=>sR fun _ d3=>Ym g.v e0 (yY (yLen SL_32 e0 b (rdI F0)) (yY (ygtr e0 rfl) (wK d3 ?_)))))
  have d4:∀ (f:FV) w,f 1=(pB k)→f 4=m.v→f 5=g.v→f 7=.string j→St w0 (imm (rI .u32) g.v o.1::ros) (box k 34 [.bool h,i.v]::row 9 rG m.v r::rs) w→integer_Format_j5 r j o=some b8→d1 .normal (fr 49 f) w:=by
   intro f w d5 d6 d7 d8 b c
   refine d2 _ _ (wR (Ym m.v (eh d6) (Ym (.string j) (eh d8) (yH (rLt (n:=1) (l:=[j]) b SL_67 [.string j] (bp1 e0) rfl rfl (mks1 (cs:=[.string j]) rfl mkG mks0)) fun f2 w b=>bE c fun f3 d9 c=>yH (rAp (b.k1f) SL_67 e0 e0 rO1 d9) fun e1 w b=>Ym g.v (eh d7) (Ya e1.v e0 (Ya g.v e0 (wN (c6 _ _ _ ?_))))))))
   cases c
   exact c0 _ _ _ rfl ⟨_,_,_,_,_,rfl,rfl,d5,rfl,rfl,(b.k2d)⟩
  refine cIf e0 d (fun e2 d=>?_) fun e2 d=>?_
  ·cases d
  ·exact wp_skip (d4 _ _ E G rfl rfl (b.facts (allC F0 (allT (allT allI)))) d)
 ·refine wp_exit (c3 _ _ _ rfl ?_)
  cases d
  exact c1 _ _ _ _ rfl rfl (W _ _ _ _ E G (b.facts (allT allI)) (b9 _ rfl))
theorem sparselaw08_awake_ok {out:Bool} (c:sparselaw08_awake=some out) (a:St w0 ros rs w):
  Calls Tryd.prog 6 #[] w (fun e w=>e=.returned (.bool out)∧St w0 ros rs w):=by
 refine enterQ Tryd.func6 rfl Tryd.ntmps6 rfl fun Q d7=>sR fun _ d8=>Ya (.bool false) rfl (wK d8 (sR fun _ d9=>bE c fun y e1 c=>yC (yCall FN_14 (a1 rfl)) (sparselaw08_num_ok e1 a) ?_))
 rintro _ w ⟨K,rfl,a⟩
 refine ⟨_,rfl,?_⟩
 refine bE c fun z e2 c=>yC (yCall FN_14 (a1 rfl)) (sparselaw08_num_ok e2 a) ?_
 rintro _ w ⟨L,rfl,a⟩
 refine ⟨_,rfl,?_⟩
 refine yH (rLt (n:=2) (l:=[(y.1,y.2),(z.1,z.2)]) (((a.k10).fz).fz) SL_31 [.agg #[.bool y.1,K.v],.agg #[.bool z.1,L.v]] (bp2 e0 e0) rfl rfl (mks1 (cs:=[.bool y.1,K.v]) rfl (mkP mkB (mkS F1)) (mks1 (cs:=[.bool z.1,L.v]) rfl (mkP mkB (mkS F0)) mks0))) fun N w a=>bE c fun A e3 c=>yC (yCall FN_14 (a1 rfl)) (sparselaw08_num_ok e3 a) ?_
 rintro _ w ⟨O,rfl,a⟩
 refine ⟨_,rfl,?_⟩
 refine bE c fun B e4 c=>yC (yCall FN_14 (a1 rfl)) (sparselaw08_num_ok e4 a) ?_
 rintro _ w ⟨R,rfl,a⟩
 refine ⟨_,rfl,?_⟩
 refine yH (rLt (n:=2) (l:=[(A.1,A.2),(B.1,B.2)]) (((a.k10).fz).fz) SL_31 [.agg #[.bool A.1,O.v],.agg #[.bool B.1,R.v]] (bp2 e0 e0) rfl rfl (mks1 (cs:=[.bool A.1,O.v]) rfl (mkP mkB (mkS F1)) (mks1 (cs:=[.bool B.1,R.v]) rfl (mkP mkB (mkS F0)) mks0))) fun S w a=>yH (rLt (n:=2) (l:=[[(y.1,y.2),(z.1,z.2)],[(A.1,A.2),(B.1,B.2)]]) (((a.k10).fz).fz) SL_25 [N.v,S.v] (bp2 e0 e0) rfl rfl (mks1 (cs:=[N.v]) rfl (mkS F1) (mks1 (cs:=[S.v]) rfl (mkS F0) mks0))) fun T w a=>Ya T.v e0 (wK d9 (sR fun _ e5=>Ym T.v e0 (bE c fun H e6 c=>yC (yCall FN_14 (a1 rfl)) (sparselaw08_num_ok e6 a) ?_)))
 rintro _ w ⟨U,rfl,a⟩
 refine ⟨_,rfl,?_⟩
 refine bE c fun I e7 c=>yC (yCall FN_14 (a1 rfl)) (sparselaw08_num_ok e7 a) ?_
 rintro _ w ⟨V,rfl,a⟩
 refine ⟨_,rfl,?_⟩
 refine yH (rLt (n:=2) (l:=[(H.1,H.2),(I.1,I.2)]) (((a.k10).fz).fz) SL_31 [.agg #[.bool H.1,U.v],.agg #[.bool I.1,V.v]] (bp2 e0 e0) rfl rfl (mks1 (cs:=[.bool H.1,U.v]) rfl (mkP mkB (mkS F1)) (mks1 (cs:=[.bool I.1,V.v]) rfl (mkP mkB (mkS F0)) mks0))) fun i5 w a=>bE c fun d e8 c=>?_
 replace a:=((a.k10).fz).fz
 refine yC (yCall FN_16 (a2 e0 e0)) (exact_Solve_ok e8 F1 F0 a) ?_
 rintro _ w ⟨m,j,rfl,a⟩
 refine ⟨_,rfl,?_⟩
 refine Ym (.tuple #[m.v,.agg #[.bool d.2.1,j.v],iV d.2.2.2]) e0 (yY (x_ m.v e0) (yY (x_ (.agg #[.bool d.2.1,j.v]) e0) (yY (x_ (iV d.2.2.2) e0) (yBb (rAl a ZT_34) fun C w a=>Ya m.v e0 (yT (r_stbn (vals':=[.bool d.2.1,j.v]) (us:=[.bool d.2.1,j.v]) a ST_34 e0 e0 rfl rfl (one_of rfl) rfl) fun w a=>Ya (iV d.2.2.2) e0 (wK e5 (sR fun _ e9=>?_)))))))
 refine bE c fun D f0 c=>yC (yCall FN_14 (a1 rfl)) (sparselaw08_num_ok f0 a) ?_
 rintro _ w ⟨W,rfl,a⟩
 refine ⟨_,rfl,?_⟩
 refine bE c fun E f1 c=>yC (yCall FN_14 (a1 rfl)) (sparselaw08_num_ok f1 a) ?_
 rintro _ w ⟨X,rfl,a⟩
 refine ⟨_,rfl,?_⟩
 refine yH (rLt (n:=2) (l:=[(D.1,D.2),(E.1,E.2)]) (((a.k10).fz).fz) SL_31 [.agg #[.bool D.1,W.v],.agg #[.bool E.1,X.v]] (bp2 e0 e0) rfl rfl (mks1 (cs:=[.bool D.1,W.v]) rfl (mkP mkB (mkS F1)) (mks1 (cs:=[.bool E.1,X.v]) rfl (mkP mkB (mkS F0)) mks0))) fun Z w a=>bE c fun F f2 c=>yC (yCall FN_14 (a1 rfl)) (sparselaw08_num_ok f2 a) ?_
 rintro _ w ⟨a0,rfl,a⟩
 refine ⟨_,rfl,?_⟩
 refine bE c fun G f3 c=>yC (yCall FN_14 (a1 rfl)) (sparselaw08_num_ok f3 a) ?_
 rintro _ w ⟨a3,rfl,a⟩
 refine ⟨_,rfl,?_⟩
 refine yH (rLt (n:=2) (l:=[(F.1,F.2),(G.1,G.2)]) (((a.k10).fz).fz) SL_31 [.agg #[.bool F.1,a0.v],.agg #[.bool G.1,a3.v]] (bp2 e0 e0) rfl rfl (mks1 (cs:=[.bool F.1,a0.v]) rfl (mkP mkB (mkS F1)) (mks1 (cs:=[.bool G.1,a3.v]) rfl (mkP mkB (mkS F0)) mks0))) fun a4 w a=>yH (rLt (n:=2) (l:=[[(D.1,D.2),(E.1,E.2)],[(F.1,F.2),(G.1,G.2)]]) (((a.k10).fz).fz) SL_25 [Z.v,a4.v] (bp2 e0 e0) rfl rfl (mks1 (cs:=[Z.v]) rfl (mkS F1) (mks1 (cs:=[a4.v]) rfl (mkS F0) mks0))) fun i6 w a=>bE c fun b f4 c=>?_
 replace a:=a.fz
 refine yC (yCall FN_9 (a1 e0)) (exact_Inertia_ok f4 F0 a) ?_
 rintro _ w ⟨rfl,a⟩
 refine ⟨_,rfl,?_⟩
 refine Ym (.tuple #[iV b.1,iV b.2.1,iV b.2.2.1,iV b.2.2.2]) e0 (yY (x_ (iV b.1) e0) (yY (x_ (iV b.2.1) e0) (yY (x_ (iV b.2.2.1) e0) (yY (x_ (iV b.2.2.2) e0) (Ya (iV b.1) e0 (Ya (iV b.2.1) e0 (Ya (iV b.2.2.1) e0 (Ya (iV b.2.2.2) e0 (wK e9 (sR fun _ f5=>Ym (iV d.2.2.2) e0 ?_))))))))))
 refine yY (yeql e0 rfl) (Ym (.bool (decide (d.2.2.2=0))) e0 ?_)
 refine joinW 4 (fun f w=>f 2=m.v∧f 3=(pB C)∧f 5=iV b.1∧f 6=iV b.2.1∧f 7=iV b.2.2.1∧f 8=iV b.2.2.2∧f 44=.bool ((decide (d.2.2.2=0)) && (decide ((d.1.length:Int)=2)))∧St w0 (imm (rI .u32) j.v d.2.2.1::ros) (row 34 (rP rB (rS (rI .u32))) m.v d.1::box C 34 [.bool d.2.1,j.v]::rs) w) (fun a5=>?_) ?_
 ·rcases Bool.eq_false_or_eq_true (decide (d.2.2.2=0)) with k | k
  ·exact yG k (m_ m.v e0) (yG k (yLen SL_31 e0 a rO1) (yG k (yeql e0 rfl) (yY (pt_ (.bool (decide ((d.1.length:Int)=2))) e0 k e0) (a5 _ _ ⟨rfl,rfl,rfl,rfl,rfl,rfl,(congrArg Value.bool (andT k)),((a.k10).facts (allC F7 (allT (allT (allT (allT (allT (allT (allT (allT (allT (allT (allT (allT (allT (allT (allT (allT (allT (allT allI))))))))))))))))))))⟩))))
  ·exact gN k (gN k (gN k (yY (pf_ (.bool false) e0 k rfl) (a5 _ _ ⟨rfl,rfl,rfl,rfl,rfl,rfl,(congrArg Value.bool (andF k)),((a.k10).facts (allC F7 (allT (allT (allT (allT (allT (allT (allT (allT (allT (allT (allT (allT (allT (allT (allT (allT (allT (allT allI))))))))))))))))))))⟩))))
 rintro f w ⟨J,a6,a7,a8,a9,b0,f6,a⟩
 refine Ym (.bool ((decide (d.2.2.2=0)) && (decide ((d.1.length:Int)=2)))) (eh f6) (bE c fun b1 o c=>?_)
 refine joinW 6 (fun f w=>f 2=m.v∧f 3=(pB C)∧f 5=iV b.1∧f 6=iV b.2.1∧f 7=iV b.2.2.1∧f 8=iV b.2.2.2∧f 51=.bool b1∧St w0 (imm (rI .u32) j.v d.2.2.1::ros) (row 34 (rP rB (rS (rI .u32))) m.v d.1::box C 34 [.bool d.2.1,j.v]::rs) w) (fun b2=>?_) ?_
 ·rcases iteS o with ⟨h,o⟩ | ⟨h,o⟩
  ·refine yG h (m_ m.v (eh J)) (bE o fun f7 b3 o=>yG h (yIa SL_31 e0 rfl a rO0 b3) ?_)
   obtain ⟨i7,i8,cc46,a⟩:=a.ld rO0 b3
   replace a:=a.eltP
   obtain ⟨i9,j0,rfl,a⟩:=a
   replace a:=a.eltB
   obtain ⟨rfl,a⟩:=a
   replace a:=a.eltS
   obtain ⟨f8,rfl,a⟩:=a
   refine yG h (yCn (cs:=[.bool f7.1,f8.v]) ST_34 rfl e0 cc46) (bE o fun f9 g0 o=>Yc (wG h) rfl (yCall FN_23 (a1 e0)) (integer_Format_ok g0 F0 a) ?_)
   rintro _ w ⟨rfl,a⟩
   refine ⟨_,rfl,?_⟩
   refine yG h (yegs e0 rfl) (yY (pt_ (.bool (decide (f9=(⟨#[51]⟩:ByteArray)))) e0 h e0) ?_)
   cases o
   exact b2 _ _ ⟨J,a6,a7,a8,a9,b0,rfl,(a.facts (allC F1 (allT (allT allI))))⟩
  ·refine gN (bfalse h) (gN (bfalse h) (gN (bfalse h) (gN (bfalse h) (gN (bfalse h) (yY (pf_ (.bool false) e0 (bfalse h) rfl) ?_)))))
   cases o
   exact b2 _ _ ⟨J,a6,a7,a8,a9,b0,rfl,a⟩
 rintro f w ⟨g1,b4,b5,b6,b7,b8,g2,a⟩
 refine Ym (.bool b1) (eh g2) (bE c fun b9 p c=>?_)
 refine joinW 6 (fun f w=>f 3=(pB C)∧f 5=iV b.1∧f 6=iV b.2.1∧f 7=iV b.2.2.1∧f 8=iV b.2.2.2∧f 58=.bool b9∧St w0 (imm (rI .u32) j.v d.2.2.1::ros) (box C 34 [.bool d.2.1,j.v]::rs) w) (fun c0=>?_) ?_
 ·rcases iteS p with ⟨i,p⟩ | ⟨i,p⟩
  ·refine yG i (m_ m.v (eh g1)) (bE p fun g3 c1 p=>yG i (yIa SL_31 e0 rfl a rO0 c1) ?_)
   obtain ⟨j9,k0,cc61,a⟩:=a.ld rO0 c1
   replace a:=a.eltP
   obtain ⟨k6,k7,rfl,a⟩:=a
   replace a:=a.eltB
   obtain ⟨rfl,a⟩:=a
   replace a:=a.eltS
   obtain ⟨g4,rfl,a⟩:=a
   refine yG i (yCn (cs:=[.bool g3.1,g4.v]) ST_34 rfl e0 cc61) (bE p fun g5 g6 p=>Yc (wG i) rfl (yCall FN_23 (a1 e0)) (integer_Format_ok g6 F0 a) ?_)
   rintro _ w ⟨rfl,a⟩
   refine ⟨_,rfl,?_⟩
   refine yG i (yegs e0 rfl) (yY (pt_ (.bool (decide (g5=(⟨#[51]⟩:ByteArray)))) e0 i e0) ?_)
   cases p
   exact c0 _ _ ⟨b4,b5,b6,b7,b8,rfl,((a.k12).facts (allC F1 (allT (allT allI))))⟩
  ·refine gN (bfalse i) (gN (bfalse i) (gN (bfalse i) (gN (bfalse i) (gN (bfalse i) (yY (pf_ (.bool false) e0 (bfalse i) rfl) ?_)))))
   cases p
   exact c0 _ _ ⟨b4,b5,b6,b7,b8,rfl,(a.k12)⟩
 rintro f w ⟨g7,c2,c3,c4,c5,g8,a⟩
 refine Ym (.bool b9) (eh g8) (bE c fun g x c=>?_)
 refine joinW 4 (fun f w=>f 5=iV b.1∧f 6=iV b.2.1∧f 7=iV b.2.2.1∧f 8=iV b.2.2.2∧f 63=.bool g∧St w0 ros rs w) (fun c6=>?_) ?_
 ·rcases iteS x with ⟨q,x⟩ | ⟨q,x⟩
  ·refine yG q (lbs_ [.bool d.2.1,j.v] ST_34 (eh g7) a R0) (bE x fun g9 h0 x=>Yc (wG q) rfl (yCall FN_23 (a1 e0)) (integer_Format_ok h0 F0 a) ?_)
   rintro _ w ⟨rfl,a⟩
   refine ⟨_,rfl,?_⟩
   refine yG q (yegs e0 rfl) (yY (pt_ (.bool (decide (g9=(⟨#[51]⟩:ByteArray)))) e0 q e0) ?_)
   cases x
   exact c6 _ _ ⟨c2,c3,c4,c5,rfl,((a.k13).facts (allT allI))⟩
  ·refine gN (bfalse q) (gN (bfalse q) (gN (bfalse q) (yY (pf_ (.bool false) e0 (bfalse q) rfl) ?_)))
   cases x
   exact c6 _ _ ⟨c2,c3,c4,c5,rfl,((a.k13).facts (allT allI))⟩
 rintro f w ⟨c7,c8,c9,h1,h3,a⟩
 refine Ym (.bool g) (eh h3) ?_
 refine joinW 3 (fun f w=>f 5=iV b.1∧f 6=iV b.2.1∧f 7=iV b.2.2.1∧f 67=.bool (g && (decide (b.2.2.2=0)))∧St w0 ros rs w) (fun d0=>?_) ?_
 ·rcases Bool.eq_false_or_eq_true g with r | r
  ·exact yG r (m_ (iV b.2.2.2) (eh h1)) (yG r (yeql e0 rfl) (yY (pt_ (.bool (decide (b.2.2.2=0))) e0 r e0) (d0 _ _ ⟨c7,c8,c9,(congrArg Value.bool (andT r)),a⟩)))
  ·exact gN r (gN r (yY (pf_ (.bool false) e0 r rfl) (d0 _ _ ⟨c7,c8,c9,(congrArg Value.bool (andF r)),a⟩)))
 rintro f w ⟨h6,d1,d2,h8,a⟩
 refine Ym (.bool (g && (decide (b.2.2.2=0)))) (eh h8) ?_
 refine joinW 3 (fun f w=>f 6=iV b.2.1∧f 7=iV b.2.2.1∧f 71=.bool ((g && (decide (b.2.2.2=0))) && (decide (b.1=1)))∧St w0 ros rs w) (fun d3=>?_) ?_
 ·rcases Bool.eq_false_or_eq_true (g && (decide (b.2.2.2=0))) with s | s
  ·exact yG s (m_ (iV b.1) (eh h6)) (yG s (yeql e0 rfl) (yY (pt_ (.bool (decide (b.1=1))) e0 s e0) (d3 _ _ ⟨d1,d2,(congrArg Value.bool (andT s)),a⟩)))
  ·exact gN s (gN s (yY (pf_ (.bool false) e0 s rfl) (d3 _ _ ⟨d1,d2,(congrArg Value.bool (andF s)),a⟩)))
 rintro f w ⟨i0,d4,i1,a⟩
 refine Ym (.bool ((g && (decide (b.2.2.2=0))) && (decide (b.1=1)))) (eh i1) ?_
 refine joinW 3 (fun f w=>f 7=iV b.2.2.1∧f 75=.bool (((g && (decide (b.2.2.2=0))) && (decide (b.1=1))) && (decide (b.2.1=0)))∧St w0 ros rs w) (fun d5=>?_) ?_
 ·rcases Bool.eq_false_or_eq_true ((g && (decide (b.2.2.2=0))) && (decide (b.1=1))) with t | t
  ·exact yG t (m_ (iV b.2.1) (eh i0)) (yG t (yeql e0 rfl) (yY (pt_ (.bool (decide (b.2.1=0))) e0 t e0) (d5 _ _ ⟨d4,(congrArg Value.bool (andT t)),a⟩)))
  ·exact gN t (gN t (yY (pf_ (.bool false) e0 t rfl) (d5 _ _ ⟨d4,(congrArg Value.bool (andF t)),a⟩)))
 rintro f w ⟨i2,i3,a⟩
 refine Ym (.bool (((g && (decide (b.2.2.2=0))) && (decide (b.1=1))) && (decide (b.2.1=0)))) (eh i3) ?_
 refine joinW 3 (fun f w=>f 79=.bool ((((g && (decide (b.2.2.2=0))) && (decide (b.1=1))) && (decide (b.2.1=0))) && (decide (b.2.2.1=1)))∧St w0 ros rs w) (fun d6=>?_) ?_
 ·rcases Bool.eq_false_or_eq_true (((g && (decide (b.2.2.2=0))) && (decide (b.1=1))) && (decide (b.2.1=0))) with u | u
  ·exact yG u (m_ (iV b.2.2.1) (eh i2)) (yG u (yeql e0 rfl) (yY (pt_ (.bool (decide (b.2.2.1=1))) e0 u e0) (d6 _ _ ⟨(congrArg Value.bool (andT u)),a⟩)))
  ·exact gN u (gN u (yY (pf_ (.bool false) e0 u rfl) (d6 _ _ ⟨(congrArg Value.bool (andF u)),a⟩)))
 rintro f w ⟨i4,a⟩
 refine Ya (.bool ((((g && (decide (b.2.2.2=0))) && (decide (b.1=1))) && (decide (b.2.1=0))) && (decide (b.2.2.1=1)))) (eh i4) (wK f5 (wp_ret ?_))
 cases c
 exact d7 _ _ _ (fin1r Tryd.results6 ⟨rfl,rfl⟩ ⟨rfl,a⟩)
theorem sparsekit_Place_ok {a b out:Int} (c:sparsekit_Place a b=some out) (d:St w0 ros rs w):
  Calls Tryd.prog 7 #[iV a,iV b] w (fun e w=>e=.returned (iV out)∧St w0 ros rs w):=by
 refine enterQ Tryd.func7 rfl Tryd.ntmps7 rfl fun Q f=>sR fun _ g=>Ya (iV 0) rfl (wK g (sR fun _ h=>Ym (iV a) e0 (yY (ycv (k':=.u64) (by kernel_rfl) (by kernel_rfl) e0) (Ym (iV b) e0 (yY (ycv (k':=.u64) (by kernel_rfl) (by kernel_rfl) e0) (bE c fun i j c=>yY (yrem e0 e0 j) ?_))))))
 refine yY (ycv (k':=.i64) (by kernel_rfl) (by kernel_rfl) e0) (Ya (iV (wc .i64 i)) e0 (wK h (wp_ret ?_)))
 cases c
 exact f _ _ _ (fin1r Tryd.results7 ⟨rfl,rfl⟩ ⟨rfl,d⟩)
end Go.Proofs.YtpfmbaidflhamaaDoor
