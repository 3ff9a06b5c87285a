/- Walks: each function computes its model, printed. -/
import Derived.Test.YtcoaljcfifecgagGreatDoorW7
namespace Go.Proofs.YtcoaljcfifecgagGreatDoor
open Go Sx M Go.Proofs.Tryz
set_option maxRecDepth 100000
set_option maxHeartbeats 40000000
set_option linter.unusedVariables false
attribute [local irreducible] wpList Code.wp Calls DR QR QS LA LS St
variable {w0:World} {ros:List Fact} {rs:List Res} {w:World}
theorem slices_Clone_int_ok {f:LI} {d:Hdr} {out:LI} (b:slices_Clone_int f=some out) (g:imm I1 d.v f∈ros) (a:St w0 ros rs w):
  Calls prog 44 #[d.v] w (fun e w=>∃ (h:Hdr),e=.returned (h.v)∧St w0 ros (row 3 I1 h.v out::rs) w):=by
 refine en func44 rfl ntmps44 fun Q i=>q 9 rfl (y (yenil SL_23 e0 rfl) (q 2 rfl ?_))
 rcases nilS d with c | c
 ·refine kT c ?_
  obtain rfl:=nilE c g a
  replace b:=nilM b
  refine q 7 rfl ?_
  cases b
  replace a:=a.rowNh 3 I1
  exact i _ _ _ (fin1r results44 ⟨rfl,rfl⟩ ⟨_,rfl,a⟩)
 ·refine kF c (q 4 rfl (yh (rLt (n:=0) (l:=[]) a SL_23 [] bp0 rfl rfl mks0) fun k w a=>bE b fun m j b=>q 1 rfl (yh (rAp a SL_23 e0 e0 (rdI g) j) fun o w a=>q 4 rfl ?_)))
  cases b
  exact i _ _ _ (fin1r results44 ⟨rfl,rfl⟩ ⟨_,rfl,a⟩)
theorem integer_Abs_ok {d:Bool} {f:LI} {c:Hdr} {out:Bool×LI} (b:integer_Abs d f=some out) (h:imm (rI .u32) c.v f∈ros) (a:St w0 ros rs w):
  Calls prog 99 #[.agg #[.bool d,c.v]] w (fun e w=>∃ (g:Hdr),e=.returned (.agg #[.bool out.1,g.v])∧St w0 (imm (rI .u32) g.v out.2::ros) rs w):=by
 refine en func99 rfl ntmps99 fun Q i=>q 2 rfl (yb (r_box (vals:=[.bool d,c.v]) a e0 rfl) fun l w a=>yb (rAl a ZT_40) fun m w a=>q 5 rfl (y (lb_ c.v O_38 e0 a R1) (bE b fun n j b=>cO (slices_Clone_uint32_ok j h a) fun o w a=>bE b fun p k b=>?_)))
 replace a:=a.fz
 refine cO (integer_big_ok k F0 a) fun r w a=>sB rfl a ST_40 fun w a=>q 3 rfl ?_
 cases b
 exact i _ _ _ (fin1r results99 (rcs2 rfl rfl a R0 ST_40 rfl) ⟨_,rfl,((a.k19).facts (allC F0 (allT (allT allI))))⟩)
theorem exact_reduced_turned_ok {k:List (List (Bool×LI))} {l:LI} {f:Bool} {m:LI} {h:Int} {c:Bool} {n:LI} {i j g d:Hdr} {out:Bool×LI} (b:exact_reduced_turned k l f m h c n=some out) (A:imm (rS (rP rB (rS (rI .u32)))) i.v k∈ros) (B:imm I1 j.v l∈ros) (s:imm (rI .u32) g.v m∈ros) (o:imm (rI .u32) d.v n∈ros) (a:St w0 ros rs w):
  Calls prog 100 #[.agg #[i.v,j.v,.bool f,g.v,iV h],.agg #[.bool c,d.v]] w (fun e w=>∃ (p:Hdr),e=.returned (.agg #[.bool out.1,p.v])∧St w0 (imm (rI .u32) p.v out.2::ros) rs w):=by
 refine en func100 rfl ntmps100 fun Q r=>q 2 rfl (yb (r_box (vals:=[i.v,j.v,.bool f,g.v,iV h]) a e0 rfl) fun C w a=>yb (r_box (vals:=[.bool c,d.v]) a e0 rfl) fun D w a=>yb (rAl a ZT_40) fun E w a=>q 6 rfl (y (lbs_ [.bool f,g.v] ST_40 e0 a R2) (bE b fun F t b=>cZ (integer_Sign_ok t s a) fun w a=>q 3 rfl (cI b (fun u b=>?_) fun u b=>?_))))
 ·refine q 2 rfl (y (lbs_ [.bool c,d.v] ST_40 e0 a R1) (bE b fun G x b=>cO (integer_Neg_ok x o a) fun H w a=>sB rfl a ST_40 fun w a=>q 4 rfl ?_))
  cases b
  exact r _ _ _ (fin1r results100 (rcs2 rfl rfl a R0 ST_40 rfl) ⟨_,rfl,(a.k1b)⟩)
 ·refine q 4 rfl (y (lbs_ [.bool c,d.v] ST_40 e0 a R1) (bE b fun I z b=>cO (integer_Norm_ok z o a) fun J w a=>sB rfl a ST_40 fun w a=>q 3 rfl ?_))
  cases b
  exact r _ _ _ (fin1r results100 (rcs2 rfl rfl a R0 ST_40 rfl) ⟨_,rfl,(a.k1b)⟩)
theorem integer_GCD_ok {j:Bool} {o:LI} {k:Bool} {p:LI} {f d:Hdr} {out:Bool×LI} (b:integer_GCD j o k p=some out) (u:imm (rI .u32) f.v o∈ros) (x:imm (rI .u32) d.v p∈ros) (a:St w0 ros rs w):
  Calls prog 101 #[.agg #[.bool j,f.v],.agg #[.bool k,d.v]] w (fun e w=>∃ (r:Hdr),e=.returned (.agg #[.bool out.1,r.v])∧St w0 (imm (rI .u32) r.v out.2::ros) rs w):=by
 refine en func101 rfl ntmps101 fun Q z=>q 2 rfl (yb (r_box (vals:=[.bool j,f.v]) a e0 rfl) fun K w a=>yb (r_box (vals:=[.bool k,d.v]) a e0 rfl) fun L w a=>yb (rAl a ZT_40) fun s w a=>bE b fun N A b=>bE b fun O B b=>bE b fun R C b=>bE b fun S D b=>q 3 rfl (dR [0,1,3,7,0,16,63,127,255,511] [2,3,6,7,8,9] 6 folM ?_))
 replace a:=a.drew
 refine D1 [0,1,4,5] [] 2 rfl (qR 1 rfl (rQ rfl (lb_ f.v O_38 e0 a R2) (qR 1 rfl (rQ rfl (lb_ d.v O_38 e0 a R1) (Rn QSn (kO (integer_trim_ok A u a) fun T w a=>dU (D1 [] [4,5] 3 rfl (Rn (qS rfl (sY rfl (lb_ d.v O_38 e0 a R1) QSn)) (kO (slices_Clone_uint32_ok B F0 a) fun E w a=>dU (D1 [] [4,5] 6 rfl (Rn (qS rfl (sY rfl (lb_ d.v O_38 e0 a R2) QSn)) ?_)))))))))))
 refine kO (integer_trim_ok C (mtF x) a) fun U w a=>dU (D1 [] [] 7 rfl (Rn QSn (kO (slices_Clone_uint32_ok D F0 a) fun F w a=>dU (D1 [] [] 8 rfl (Rn QSn (Ly wn (a_ E.v e0) (dU (D1 [] [] 9 rfl (Rn QSn (Ly wn (a_ F.v e0) (dU ?_)))))))))))
 refine Dz [] [] (Rn QSn (bE b fun t G b=>qx 3 rfl ?_))
 replace a:=((a.k10).fz).fz
 refine lpN (Hdr×Hdr) Hdr G [4] (fun (l,m) (h,i)=>[(5,h.v),(6,i.v)]) (fun (l,m) (h,i)=>St w0 (imm (rI .u32) h.v l::imm (rI .u32) i.v m::ros) (box s 40 [.bool false,hnil.v]::rs)) (fun | t,n=>(.exit 0,[(5,n.v)],St w0 (imm (rI .u32) n.v t::ros) (box s 40 [.bool false,hnil.v]::rs))) rfl (_,_) ((a.k1c).facts (allC F1 (allC F0 (allT (allT (allT (allT allI))))))) rfl ?_ ?_
 ·clear a
  rintro n g w a
  refine bE b fun V H b=>q 5 rfl (cO (integer_big_ok H F0 a) fun W w a=>sB rfl a ST_40 fun w a=>q 3 rfl ?_)
  cases b
  exact z _ _ _ (fin1r results101 (rcs2 rfl rfl a R0 ST_40 rfl) ⟨_,rfl,((a.k14).facts (allC F0 (allT (allT allI))))⟩)
 rintro ⟨l,m⟩ ⟨h,i⟩ g w X a c
 refine q 4 rfl (y (yLen SL_38 e0 a (rdI F1)) (q 3 rfl (cI c (fun I c=>?_) fun I c=>?_)))
 ·refine q 7 rfl (bE c fun Z J c=>cT_ (integer_divide_ok J F0 F1 a) fun a0 a1 w a=>q 14 rfl ?_)
  cases c
  exact ln (_,_) (a.facts (allC F3 (allC F1 (allT (allT (allT (allT allI)))))))
 ·refine q 2 rfl ?_
  cases c
  exact lx _ (a.facts (allC F0 (allT (allT allI))))
theorem exact_Kernel_ok {H:List (List (Bool×LI))} {I:Hdr} {out:(List (Bool×LI))×Int} (b:exact_Kernel H=some out) (u:imm (rS (rP rB (rS (rI .u32)))) I.v H∈ros) (a:St w0 ros rs w):
  Calls prog 46 #[I.v] w (fun e w=>∃ (J:Hdr),e=.returned (.tuple #[J.v,iV out.2])∧St w0 ros (row 40 (rP rB (rS (rI .u32))) J.v out.1::rs) w):=by
 refine en func46 rfl ntmps46 fun Q x=>bE b fun d9 a4 b=>q 9 rfl (cZ (exact_check_ok a4 u a) fun w a=>q 10 rfl ?_)
 refine cIn b (fun a5 b=>?_) fun a5 b=>?_
 ·refine q 5 rfl (bE b fun e1 a6 b=>cZ (exact_columns_ok a6 u a) fun w a=>bE b fun e2 a7 b=>q 6 rfl ?_)
  replace a:=a.immNh (rP rB (rS (rI .u32)))
  refine cT_ (exact_twin_ok a7 (mtF u) F0 a) fun i e3 w a=>bE b fun c a8 b=>q 1 rfl (cR_ (exact_eliminate_ok a8 a) fun m f j w a=>yb (rAl a ZT_133) fun p w a=>sB rfl a ST_133 fun w a=>bE b fun K a9 b=>q 9 rfl ?_)
  refine lp a9 [5,6] (fun z=>[(7,iV z)]) (fun z=>St w0 (imm (rI .u32) j.v c.2.2.2.1::ros) (row 28 rH i.v m::fam 40 (rP rB (rS (rI .u32))) m c.1::row 3 I1 f.v c.2.1::box p 133 [i.v,f.v,.bool c.2.2.1,j.v,iV c.2.2.2.2]::rs)) (fun | K=>(.exit 0,[(7,iV K)],St w0 (imm (rI .u32) j.v c.2.2.2.1::ros) (row 28 rH i.v m::fam 40 (rP rB (rS (rI .u32))) m c.1::row 3 I1 f.v c.2.1::box p 133 [i.v,f.v,.bool c.2.2.1,j.v,iV c.2.2.2.2]::rs))) rfl ((a.k1o).facts (allC F0 (allT (allT allI)))) rfl ?_ ?_
  ·clear a
   intro g w a
   refine q 10 rfl (cI b (fun b0 b=>?_) fun b0 b=>?_)
   ·refine q 8 rfl ?_
    cases b
    replace a:=a.rowNh 40 (rP rB (rS (rI .u32)))
    exact x _ _ _ (fin2r results46 ⟨rfl,rfl⟩ ⟨rfl,rfl⟩ ⟨_,rfl,((a.k2s).fc)⟩)
   ·refine q 5 rfl (bE b fun e4 b1 b=>yh (rMk a SL_28 e0 b1) fun r w a=>q 8 rfl (y (lbs_ [.bool c.2.2.1,j.v] ST_40 e0 a R4) (bE b fun b2 b3 b=>cO (integer_Abs_ok b3 F0 a) fun b4 w a=>bE b fun e5 L b=>y (yIs SL_28 e0 e0 a rO0 L) (yt (r_stn (cs:=[.bool b2.1,b4.v]) a ST_40 e0 e0 rfl (mkP mkB (mkS F0)) L) fun w a=>bE b fun b5 N b=>q 6 rfl ?_))))
    refine y (yIa SL_28 e0 e0 a rO0 N) ?_
    obtain ⟨e6,e7,cc38,a⟩:=a.ld rO0 N
    replace a:=a.eltP
    obtain ⟨e8,e9,rfl,a⟩:=a
    replace a:=a.eltB
    obtain ⟨rfl,a⟩:=a
    replace a:=a.eltS
    obtain ⟨b6,rfl,a⟩:=a
    refine y (yCn (cs:=[.bool b5.1,b6.v]) ST_40 rfl e0 cc38) (yb (rAl a ZT_40) fun A w a=>sB rfl a ST_40 fun w a=>q 6 rfl (y (lb_ f.v O_23 e0 a R5) (y (yLen SL_23 e0 a rO4) (q 4 rfl ?_))))
    obtain ⟨⟨O,s,B⟩,b7,b⟩:=bs b
    replace a:=(((a.k1z).ffz).k16).fz
    refine lpN Hdr Hdr b7 [6,7,8,9,56,57] (fun (C,t,D,E) o=>[(58,iV E)]) (fun (C,t,D,E) o=>St w0 (imm (rS (rP rB (rS (rI .u32)))) i.v c.1::imm I1 f.v c.2.1::imm (rI .u32) j.v c.2.2.2.1::imm (rI .u32) o.v D::ros) (box p 133 [i.v,f.v,.bool c.2.2.1,j.v,iV c.2.2.2.2]::row 40 (rP rB (rS (rI .u32))) r.v C::box A 40 [.bool t,o.v]::rs)) (fun | (O,s,B),n=>(.exit 2,[],St w0 (imm (rI .u32) n.v B::ros) (row 40 (rP rB (rS (rI .u32))) r.v O::box A 40 [.bool s,n.v]::rs))) rfl _ ((a.k18).facts (allC F1 (allC F0 (allC F4 (allC F2 (allT (allT (allT (allT (allT allI)))))))))) rfl ?_ ?_
    ·clear a
     rintro n g w a
     refine q 6 rfl (y (yLen SL_28 e0 a rO0) (bE b fun R b8 b=>q 4 rfl ?_))
     refine lp b8 [8,9,85] (fun (F,G)=>[(86,iV G)]) (fun (F,G)=>St w0 (imm (rI .u32) n.v B::ros) (row 40 (rP rB (rS (rI .u32))) r.v F::box A 40 [.bool s,n.v]::rs)) (fun | R=>(.exit 4,[],St w0 ros (row 40 (rP rB (rS (rI .u32))) r.v R::rs))) rfl a rfl ?_ ?_
     ·clear a
      intro g w a
      refine q 10 rfl ?_
      cases b
      exact x _ _ _ (fin2r results46 ⟨rfl,rfl⟩ ⟨rfl,rfl⟩ ⟨_,rfl,a⟩)
     rintro ⟨F,G⟩ g w f0 a h
     refine q 6 rfl (cI h (fun b9 h=>?_) fun b9 h=>?_)
     ·refine q 10 rfl (bE h fun c0 S h=>bE h fun c1 c2 h=>bE h fun f1 T h=>dR [0,0,0,0,12,28,0,124,252,508,508,1023,3071] [7,12] 2 folM ?_)
      replace a:=a.drew
      refine D1 [0,1,2,3,4,5,6] [] 7 rfl (qR 4 rfl (rQ rfl (yIa SL_28 e0 e0 a rO0 S) ?_))
      obtain ⟨f2,f3,cc127,a⟩:=a.ld rO0 S
      replace a:=a.eltP
      obtain ⟨f4,f5,rfl,a⟩:=a
      replace a:=a.eltB
      obtain ⟨rfl,a⟩:=a
      replace a:=a.eltS
      obtain ⟨c3,rfl,a⟩:=a
      refine rQ rfl (yCn (cs:=[.bool c0.1,c3.v]) ST_40 rfl e0 cc127) (rQ rfl (lbs_ [.bool s,n.v] ST_40 e0 a R1) (Rn QSn (kO (integer_Quo_ok c2 F0 F1 a) fun c5 w a=>dU (D0 [8,9,10,11] [0,1] 12 rfl (qR 3 rfl (rQ rfl (yIs SL_28 e0 e0 a rO0 T) (Rn (qS rfl (qS rfl QSn)) (LT wn (r_stn (cs:=[.bool c1.1,c5.v]) a ST_40 e0 e0 rfl (mkP mkB (mkS F0)) T) fun w a=>Dz [] [10] (Rn (qS rfl QSn) (qx 6 rfl ?_))))))))))
      cases h
      exact lo (a.facts (allC F2 (allT (allT (allT allI)))))
     ·refine q 2 rfl ?_
      cases h
      exact xo ((a.k11).fc)
    rintro ⟨C,t,D,E⟩ o g w f6 a d
    refine q 6 rfl (cI d (fun c6 d=>?_) fun c6 d=>?_)
    ·refine q 7 rfl (bE d fun f7 U d=>y (yIa SL_23 e0 e0 a (rdI F1) U) (y (yI O_3 e0 a (rdI F1) U) (bE d fun f8 V d=>bE d fun c7 W d=>bE d fun f9 c8 d=>bE d fun c9 d0 d=>bE d fun g0 X d=>q 5 rfl (dR [0,0,0,0,8,0,56,120,0,504,1016,2044,4092,8191,16383] [11,12,14] 3 folM ?_))))
     replace a:=a.drew
     refine D1 [0,1,2,3,4,5,6,7,8,9,10] [] 11 rfl (qR 2 rfl (rQ rfl (lbs_ [i.v,f.v,.bool c.2.2.1,j.v,iV c.2.2.2.2] ST_133 e0 a R0) (qR 1 rfl (rQ rfl (lb_ i.v O_32 e0 a R0) (qR 1 rfl (rQ rfl (yIa SL_32 e0 e0 a (rdI F0) V) ?_))))))
     obtain ⟨g1,a⟩:=iLs a F0 V
     refine rQ rfl (yCt O_28 e0 a F1 rfl) (qR 1 rfl (rQ rfl (yIa SL_28 e0 e0 a (rdI F0) W) ?_))
     obtain ⟨g2,g3,a⟩:=iLd a F0 W
     obtain ⟨g4,g5,rfl,a⟩:=a.eltP
     obtain ⟨rfl,a⟩:=a.eltB
     obtain ⟨d1,rfl,a⟩:=a.eltS
     refine rQ rfl (yCtn (cs:=[.bool c7.1,d1.v]) ST_40 rfl e0 a F1) (Rn QSn (kO (exact_reduced_turned_ok c8 F4 F5 F6 F0 a) fun g6 w a=>dU (D1 [] [0,1] 12 rfl (Rn (qS rfl (qS rfl QSn)) (kO (integer_Neg_ok d0 F0 a) fun d2 w a=>dU (D0 [13] [0,1] 14 rfl (rQ rfl (yIs SL_28 e0 e0 a rO1 X) (Rn (qS rfl (qS rfl QSn)) ?_))))))))
     replace a:=a.k10
     refine LT wn (r_stn (cs:=[.bool c9.1,d2.v]) a ST_40 e0 e0 rfl (mkP mkB (mkS F0)) X) fun w a=>Dz [] [] (Rn QSn (bE d fun d3 Z d=>bE d fun a0 d4 d=>qx 1 rfl (dR [0,0,0,6,14,31,63] [5,6] 2 folM ?_)))
     replace a:=a.drew
     refine D1 [0,1,2,3,4] [] 5 rfl (rQ rfl (lbs_ [.bool t,o.v] ST_40 e0 a R2) (qR 2 rfl (rQ rfl (yIa SL_28 e0 e0 a rO0 Z) ?_)))
     obtain ⟨g7,g8,cc148,a⟩:=a.ld rO0 Z
     replace a:=a.eltP
     obtain ⟨g9,h0,rfl,a⟩:=a
     replace a:=a.eltB
     obtain ⟨rfl,a⟩:=a
     replace a:=a.eltS
     obtain ⟨d5,rfl,a⟩:=a
     refine rQ rfl (yCn (cs:=[.bool d3.1,d5.v]) ST_40 rfl e0 cc148) (Rn QSn (kO (integer_GCD_ok d4 F10 F0 a) fun a1 w a=>dU (D0 [] [] 6 rfl (Rn QSn ?_))))
     replace a:=a.k16
     refine LT wn (r_stbn (vals':=[.bool a0.1,a1.v]) (us:=[.bool a0.1,a1.v]) a ST_40 e0 e0 rfl rfl (one_of rfl) rfl) fun w a=>Dz [] [] (Rn QSn (qx 6 rfl ?_))
     cases d
     exact ln _ ((a.k18).facts (allC F8 (allC F9 (allC F10 (allC F0 (allT (allT (allT (allT (allT (allT (allT (allT (allT (allT (allT (allT allI)))))))))))))))))
    ·refine q 2 rfl ?_
     cases d
     exact lx _ ((a.k2t).facts (allC F3 (allT (allT (allT (allT allI))))))
  rintro z g w h1 a k
  refine q 5 rfl (y (lb_ f.v O_23 e0 a R3) (y (yLen SL_23 e0 a rO2) (bE k fun d6 l k=>q 2 rfl ?_)))
  refine jW 8 [5,6,7] [(37,.bool d6)] (St w0 (imm (rI .u32) j.v c.2.2.2.1::ros) (row 28 rH i.v m::fam 40 (rP rB (rS (rI .u32))) m c.1::row 3 I1 f.v c.2.1::box p 133 [i.v,f.v,.bool c.2.2.1,j.v,iV c.2.2.2.2]::rs)) rfl (fun a2=>?_) ?_
  ·refine gI 29 l rfl (fun d7 l=>?_) fun d7 l=>?_
   ·refine q 1 rfl (y (lb_ f.v O_23 e0 a R3) (bE l fun h3 a3 l=>q 1 rfl (y (yIa SL_23 e0 e0 a rO2 a3) (y (yI O_3 e0 a rO2 a3) (q 3 rfl ?_)))))
    cases l
    exact a2 _ _ a rfl
   ·refine q 8 rfl ?_
    cases l
    exact a2 _ _ a rfl
  intro g w a
  refine q 2 rfl ?_
  refine cJ k (fun d8 k=>?_) fun d8 k=>?_
  ·refine q 9 rfl ?_
   cases k
   exact lo a
  ·refine q 2 rfl ?_
   cases k
   exact xo a
 ·refine q 9 rfl ?_
  cases b
  replace a:=a.rowNh 40 (rP rB (rS (rI .u32)))
  exact x _ _ _ (fin2r results46 ⟨rfl,rfl⟩ ⟨rfl,rfl⟩ ⟨_,rfl,a⟩)
theorem prove_kernel_ok {a3:List (List (Bool×LI))} {a4:Int} {a5:Hdr} {out:(List (List (Bool×LI)))} (d:prove_kernel a3 a4=some out) (G:imm (rS (rP rB (rS (rI .u32)))) a5.v a3∈ros) (a:St w0 ros rs w):
  Calls prog 17 #[a5.v,iV a4] w (fun e w=>∃ (a6:Hdr) (a7:List Hdr),e=.returned (a6.v)∧St w0 ros (row 28 rH a6.v a7::fam 40 (rP rB (rS (rI .u32))) a7 out::rs) w):=by
 refine en func17 rfl ntmps17 fun Q c5=>bE d fun r c6 d=>q 9 rfl (cO (prove_free_ok c6 G a) fun s w a=>bE d fun a8 c7 d=>q 21 rfl ?_)
 replace a:=(((a.rowNh 3 I1).rowNh 28 rH).fNew 40 (rP rB (rS (rI .u32)))).k10
 refine lpN (Hdr×Hdr×(List Hdr)) (Hdr×(List Hdr)) c7 [0,1,5,24] (fun (f,h,i) (j,k,c)=>[(6,j.v),(7,k.v),(25,iV i)]) (fun (f,h,i) (j,k,c)=>St w0 ros (row 4 rB s.v r::row 3 I1 j.v f::row 28 rH k.v c::fam 40 (rP rB (rS (rI .u32))) c h::rs)) (fun | a8,(O,R)=>(.exit 0,[(7,O.v)],St w0 ros (row 28 rH O.v R::fam 40 (rP rB (rS (rI .u32))) R a8::rs))) rfl (_,_,_) (a.k1h) rfl ?_ ?_
 ·clear a
  rintro ⟨O,R⟩ g w a
  refine q 9 rfl ?_
  cases d
  exact c5 _ _ _ (fin1r results17 ⟨rfl,rfl⟩ ⟨_,_,rfl,a⟩)
 rintro ⟨f,h,i⟩ ⟨j,k,c⟩ g w a9 a b
 refine q 6 rfl (cI b (fun c8 b=>?_) fun c8 b=>?_)
 ·refine q 3 rfl ?_
  refine jC (LI×(List (List (Bool×LI)))×Hdr×Hdr×(List Hdr)) [0,1,5,24,25] (fun (H,I,J,K,L)=>[(6,J.v),(7,K.v)]) (fun (H,I,J,K,L) w=>St w0 ros (row 4 rB s.v r::row 3 I1 J.v H::row 28 rH K.v L::fam 40 (rP rB (rS (rI .u32))) L I::rs) w∧prove_kernel_j60 i H I=some a9) rfl ?_ ?_
  ·rintro ⟨H,I,J,K,L⟩ g w ⟨a,d⟩
   refine q 5 rfl ?_
   cases d
   exact ln (_,_,_) a
  refine bE b fun f3 b0 b=>q 12 rfl (y (yIa SL_88 e0 e0 a rO0 b0) (y (yB O_4 e0 a rO0 b0) (q 3 rfl ?_)))
  refine cJn b (fun c9 b=>?_) fun c9 b=>?_
  ·refine q 5 rfl (bE b fun f4 d0 b=>?_)
   have b1:=a
   replace a:=(a.k10).fz
   have A:=a.guest0
   replace a:=b1
   clear b1
   refine yC (yCall FN_44 (a1 e0)) (slices_Clone_int_ok d0 F0 A) ?_
   clear A
   rintro _ w ⟨f5,rfl,A⟩
   replace a:=a.back1 A
   clear A
   refine ⟨_,rfl,?_⟩
   refine nf (q 1 rfl (yh (rLt (n:=1) (l:=[i]) a SL_23 [iV i] (bp1 e0) rfl rfl (mks1 (cs:=[iV i]) rfl mkI mks0)) fun f6 w a=>bE b fun B d1 b=>?_))
   replace a:=a.k10
   refine yh (rAp a SL_23 e0 e0 rO1 d1) fun C w a=>q 12 rfl (y (yLen SL_32 e0 a (rdI G)) (bE b fun b2 d2 b=>q 4 rfl ?_))
   replace a:=((a.rowNh 28 rH).fNew 40 (rP rB (rS (rI .u32)))).k10
   refine lpN (Hdr×(List Hdr)) (Hdr×(List Hdr)) d2 [0,1,5,6,7,8,9,24,25,42,43] (fun (D,S) (u,t)=>[(10,u.v),(44,iV S)]) (fun (D,S) (u,t)=>St w0 ros (row 4 rB s.v r::row 3 I1 j.v f::row 28 rH k.v c::fam 40 (rP rB (rS (rI .u32))) c h::row 3 I1 C.v B::row 28 rH u.v t::fam 40 (rP rB (rS (rI .u32))) t D::rs)) (fun | b2,(T,U)=>(.exit 2,[(10,T.v)],St w0 ros (row 4 rB s.v r::row 3 I1 j.v f::row 28 rH k.v c::fam 40 (rP rB (rS (rI .u32))) c h::row 3 I1 C.v B::row 28 rH T.v U::fam 40 (rP rB (rS (rI .u32))) U b2::rs))) rfl (_,_) (a.k2u) rfl ?_ ?_
   ·clear a
    rintro ⟨T,U⟩ g w a
    refine bE b fun f7 d3 b=>q 5 rfl (yh (rMk a SL_28 e0 d3) fun x w a=>q 7 rfl (y (yLenF SLH_32 e0 a rO6 R7) (q 3 rfl ?_)))
    refine jC (List (Bool×LI)) [0,1,5,6,7,16,24,25] (fun E=>[]) (fun E w=>St w0 ros (row 4 rB s.v r::row 3 I1 j.v f::row 28 rH k.v c::fam 40 (rP rB (rS (rI .u32))) c h::row 40 (rP rB (rS (rI .u32))) x.v E::rs) w∧prove_kernel_j65 h i f E=some a9) rfl ?_ ?_
    ·rintro E g w ⟨a,d⟩
     refine q 4 rfl (yh (rLt (n:=1) (l:=[x]) a SLH_32 [x.v] (bp1 e0) rfl rfl (mks1 rfl (mkF rfl) mks0)) fun f8 w a=>bE d fun f9 b3 d=>?_)
     replace a:=a.k1d
     obtain ⟨g0,ey2087,d4⟩:=app_rep b3 (a.famL R4) (show [x].length=[E].length from rfl)
     refine yh (rAp a SLH_32 e0 e0 rO1 d4) fun g1 w a=>?_
     replace a:=(a.k2v).fPush
     rw [← ey2087,← (app_some b3).1] at a
     exact q 3 rfl (jx (_,_,_,_,_) ⟨(a.k2w),d⟩)
    refine cI b (fun d5 b=>?_) fun d5 b=>?_
    ·exact q 3 rfl (bE b fun d6 d7 b=>cO (integer_FromInt_ok d7 a) fun d8 w a=>bE b fun g2 b4 b=>y (yIs SL_28 e0 e0 a rO0 b4) (yt (r_stn (cs:=[.bool d6.1,d8.v]) a ST_40 e0 e0 rfl (mkP mkB (mkS F0)) b4) fun w a=>q 1 rfl (jx _ ⟨((a.k2x).fc),b⟩)))
    ·refine q 3 rfl (bE b fun d9 e1 b=>?_)
     replace a:=(a.k2y).ffz
     refine cO (exact_Kernel_ok e1 F0 a) fun e2 w a=>q 10 rfl (y (yLen SL_23 e0 a rO6) (bE b fun b5 e3 b=>q 4 rfl ?_))
     refine lp e3 [0,1,5,6,7,16,17,24,25,81,82] (fun (V,W)=>[(83,iV W)]) (fun (V,W)=>St w0 ros (row 4 rB s.v r::row 3 I1 j.v f::row 28 rH k.v c::fam 40 (rP rB (rS (rI .u32))) c h::row 40 (rP rB (rS (rI .u32))) x.v V::row 40 (rP rB (rS (rI .u32))) e2.v d9.1::row 3 I1 C.v B::rs)) (fun | b5=>(.exit 6,[],St w0 ros (row 4 rB s.v r::row 3 I1 j.v f::row 28 rH k.v c::fam 40 (rP rB (rS (rI .u32))) c h::row 40 (rP rB (rS (rI .u32))) x.v b5::rs))) rfl ((a.k2z).fc) rfl ?_ ?_
     ·clear a
      intro g w a
      exact q 1 rfl (jx _ ⟨a,b⟩)
     rintro ⟨V,W⟩ g w g3 a m
     refine q 6 rfl (cI m (fun e4 m=>?_) fun e4 m=>?_)
     ·refine q 7 rfl (bE m fun g4 b6 m=>y (yIa SL_23 e0 e0 a rO6 b6) (y (yI O_3 e0 a rO6 b6) (bE m fun b7 b8 m=>q 9 rfl (y (yIa SL_28 e0 e0 a rO5 b8) ?_))))
      obtain ⟨g5,g6,cc2119,a⟩:=a.ld rO5 b8
      replace a:=a.eltP
      obtain ⟨g7,g8,rfl,a⟩:=a
      replace a:=a.eltB
      obtain ⟨rfl,a⟩:=a
      replace a:=a.eltS
      obtain ⟨b9,rfl,a⟩:=a
      refine y (yCn (cs:=[.bool b7.1,b9.v]) ST_40 rfl e0 cc2119) (bE m fun g9 c0 m=>y (yIs SL_28 e0 e0 a rO4 c0) ?_)
      replace a:=a.k1e
      refine yt (r_stn (cs:=[.bool b7.1,b9.v]) a ST_40 e0 e0 rfl (mkP mkB (mkS F0)) c0) fun w a=>q 7 rfl ?_
      cases m
      exact lo ((a.k30).fc)
     ·refine q 2 rfl ?_
      cases m
      exact xo (a.k31)
   rintro ⟨D,S⟩ ⟨u,t⟩ g w h0 a o
   refine q 6 rfl (cI o (fun e5 o=>?_) fun e5 o=>?_)
   ·refine q 6 rfl (bE o fun e6 c1 o=>y (yIa SL_32 e0 e0 a (rdI G) c1) ?_)
    obtain ⟨e7,a⟩:=iLs a G c1
    refine y (yCt O_28 e0 a F1 rfl) (q 12 rfl (y (yLen SL_23 e0 a rO4) (bE o fun X e8 o=>q 4 rfl ?_)))
    replace a:=a.rowNh 40 (rP rB (rS (rI .u32)))
    refine lpN Hdr Hdr e8 [0,1,5,6,7,8,9,10,12,24,25,42,43,44,48,49] (fun (Z,a0) N=>[(13,N.v),(50,iV a0)]) (fun (Z,a0) N=>St w0 (imm (rP rB (rS (rI .u32))) e7.v e6::ros) (row 4 rB s.v r::row 3 I1 j.v f::row 28 rH k.v c::fam 40 (rP rB (rS (rI .u32))) c h::row 3 I1 C.v B::row 28 rH u.v t::fam 40 (rP rB (rS (rI .u32))) t D::row 40 (rP rB (rS (rI .u32))) N.v Z::rs)) (fun | X,z=>(.exit 4,[(13,z.v)],St w0 ros (row 4 rB s.v r::row 3 I1 j.v f::row 28 rH k.v c::fam 40 (rP rB (rS (rI .u32))) c h::row 3 I1 C.v B::row 28 rH u.v t::fam 40 (rP rB (rS (rI .u32))) t D::row 40 (rP rB (rS (rI .u32))) z.v X::rs))) rfl _ ((a.k32).facts (allC F0 (allT (allT allI)))) rfl ?_ ?_
    ·clear a
     rintro z g w a
     refine q 5 rfl (yh (rLt (n:=1) (l:=[z]) a SLH_32 [z.v] (bp1 e0) rfl rfl (mks1 rfl (mkF rfl) mks0)) fun h1 w a=>bE o fun h3 c2 o=>?_)
     replace a:=a.k1t
     obtain ⟨h4,ey2158,e9⟩:=app_rep c2 (a.famL R7) (show [z].length=[X].length from rfl)
     refine yh (rAp a SLH_32 e0 e0 rO1 e9) fun h6 w a=>?_
     replace a:=(a.k33).fPush
     rw [← ey2158,← (app_some c2).1] at a
     refine q 8 rfl ?_
     cases o
     exact ln (_,_) (a.k34)
    rintro ⟨Z,a0⟩ N g w h7 a p
    refine q 6 rfl (cI p (fun f0 p=>?_) fun f0 p=>?_)
    ·refine q 6 rfl (bE p fun h8 c3 p=>y (yIa SL_23 e0 e0 a rO4 c3) (y (yI O_3 e0 a rO4 c3) (bE p fun F c4 p=>q 7 rfl (y (yIa SL_28 e0 e0 a (rdI F0) c4) ?_))))
     obtain ⟨h9,i0,a⟩:=iLd a F0 c4
     obtain ⟨i1,i2,rfl,a⟩:=a.eltP
     obtain ⟨rfl,a⟩:=a.eltB
     obtain ⟨a2,rfl,a⟩:=a.eltS
     refine y (yCtn (cs:=[.bool F.1,a2.v]) ST_40 rfl e0 a F1) (yh (rLt (n:=1) (l:=[(F.1,F.2)]) a SL_28 [.agg #[.bool F.1,a2.v]] (bp1 e0) rfl rfl (mks1 (cs:=[.bool F.1,a2.v]) rfl (mkP mkB (mkS F0)) mks0)) fun i3 w a=>bE p fun i4 f1 p=>?_)
     replace a:=a.k35
     refine yh (rAp a SL_28 e0 e0 rO1 f1) fun i5 w a=>q 8 rfl ?_
     cases p
     exact ln _ ((a.k36).facts (allC F2 (allT (allT (allT allI)))))
    ·refine q 2 rfl ?_
     cases p
     exact lx _ (a.fc)
   ·refine q 2 rfl ?_
    cases o
    exact lx (_,_) a
  ·refine q 4 rfl (yh (rLt (n:=1) (l:=[i]) a SL_23 [iV i] (bp1 e0) rfl rfl (mks1 (cs:=[iV i]) rfl mkI mks0)) fun i6 w a=>bE b fun i7 f2 b=>?_)
   replace a:=a.k16
   exact yh (rAp a SL_23 e0 e0 rO1 f2) fun i8 w a=>q 6 rfl (jx (_,_,_,_,_) ⟨(a.k37),b⟩)
 ·refine q 2 rfl ?_
  cases b
  exact lx (_,_) (a.k38)
theorem prove_Singular_ok {d c:Int} {j k l:LI} {f g h:Hdr} {out:(List (Bool×LI))×Bool×Int} (b:prove_Singular d c j k l=some out) (o:imm I1 f.v j∈ros) (p:imm I1 g.v k∈ros) (r:imm (rI .u64) h.v l∈ros) (s:globF∈ros) (a:St w0 ros rs w):
  Calls prog 5 #[.agg #[iV d,iV c,f.v,g.v,h.v]] w (fun e w=>∃ (m:Hdr),e=.returned (.tuple #[m.v,.bool out.2.1,iV out.2.2])∧St w0 (imm (rP rB (rS (rI .u32))) m.v out.1::ros) rs w):=by
 refine en func5 rfl ntmps5 fun Q i=>q 2 rfl (yb (r_box (vals:=[iV d,iV c,f.v,g.v,h.v]) a e0 rfl) fun A w a=>q 7 rfl (y (lbs_ [iV d,iV c,f.v,g.v,h.v] ST_26 e0 a R0) (bE b fun B t b=>cT_ (matrix_Integers_ok t o p r s a) fun C D w a=>q 16 rfl ?_)))
 refine cIn b (fun u b=>?_) fun u b=>?_
 ·refine q 6 rfl (y (lb_ (iV c) O_3 e0 a R2) (bE b fun E x b=>?_))
  replace a:=a.ffz
  refine cT_ (prove_kernel_ok x F0 a) fun F G w a=>?_
  replace a:=a.ffz
  refine q 7 rfl (y (yLen SL_32 e0 a (rdI F0)) (q 3 rfl (cI b (fun z b=>?_) fun z b=>?_)))
  ·refine q 9 rfl ?_
   cases b
   replace a:=a.immNh (rP rB (rS (rI .u32)))
   exact i _ _ _ (fin3r results5 ⟨rfl,rfl⟩ ⟨rfl,rfl⟩ ⟨rfl,rfl⟩ ⟨_,rfl,((a.k14).facts (allC F0 (allT (allT (allT allI)))))⟩)
  ·refine q 5 rfl (bE b fun H n b=>y (yIa SL_32 e0 rfl a (rdI F0) n) ?_)
   obtain ⟨I,a⟩:=iLs a F0 n
   refine y (yCt O_28 e0 a F1 rfl) (q 6 rfl ?_)
   cases b
   exact i _ _ _ (fin3r results5 ⟨rfl,rfl⟩ ⟨rfl,rfl⟩ ⟨rfl,rfl⟩ ⟨_,rfl,((a.k14).facts (allC F0 (allT (allT (allT (allT allI))))))⟩)
 ·refine q 10 rfl ?_
  cases b
  replace a:=a.immNh (rP rB (rS (rI .u32)))
  exact i _ _ _ (fin3r results5 ⟨rfl,rfl⟩ ⟨rfl,rfl⟩ ⟨rfl,rfl⟩ ⟨_,rfl,(a.k1b)⟩)
theorem sparseref02_Sign_ok {c d:Bool} {h:LI} {f:Int} {g:Hdr} {out:Int} (b:sparseref02_Sign c d h f=some out) (k:imm (rI .u32) g.v h∈ros) (l:globF∈ros) (a:St w0 ros rs w):
  Calls prog 20 #[.agg #[.bool c,.bool d,g.v,iV f]] w (fun e w=>e=.returned (iV out)∧St w0 ros rs w):=by
 refine en func20 rfl ntmps20 fun Q i=>q 2 rfl (yb (r_box (vals:=[.bool c,.bool d,g.v,iV f]) a e0 rfl) fun r w a=>q 5 rfl (y (lbs_ [.bool c,.bool d,g.v,iV f] ST_53 e0 a R0) (bE b fun j m b=>cO (sparseref02_Norm_ok m k l a) fun n w a=>sB rfl a ST_53 fun w a=>q 6 rfl (y (lb_ (.bool j.1) O_4 e0 a R0) (q 2 rfl ?_)))))
 refine cJ b (fun o b=>?_) fun o b=>?_
 ·refine q 7 rfl ?_
  cases b
  exact za i results20 ⟨rfl,((a.k14).fc)⟩
 ·refine q 5 rfl (y (lbs_ [.bool j.2.1,n.v] ST_40 e0 a R0) (bE b fun s p b=>cZ (sparseref01_Sign_ok p F0 a) fun w a=>q 4 rfl ?_))
  cases b
  exact za i results20 ⟨rfl,((a.k14).fc)⟩
theorem sparseref09_Entries_ok {m h:Int} {F G H:LI} {c i j:Hdr} {out:(List (Int×Int×Int))} (d:sparseref09_Entries m h F G H=some out) (o:imm I1 c.v F∈ros) (u:imm I1 i.v G∈ros) (x:imm (rI .u64) j.v H∈ros) (a:St w0 ros rs w):
  Calls prog 53 #[.agg #[iV m,iV h,c.v,i.v,j.v]] w (fun e w=>∃ (I:Hdr),e=.returned (I.v)∧St w0 ros (row 85 rTi64i64u64 I.v out::rs) w):=by
 refine en func53 rfl ntmps53 fun Q J=>q 2 rfl (yb (r_box (vals:=[iV m,iV h,c.v,i.v,j.v]) a e0 rfl) fun z w a=>q 6 rfl (y (lbs_ [iV m,iV h,c.v,i.v,j.v] ST_26 e0 a R0) (bE d fun a2 T d=>cZ (sparseref09_Check_ok T o u x a) fun w a=>q 3 rfl ?_)))
 refine cIn d (fun U d=>?_) fun U d=>?_
 ·refine q 14 rfl (bE d fun K V d=>?_)
  replace a:=a.rowNh 85 rTi64i64u64
  refine lpN Hdr Hdr V [1] (fun (A,k) s=>[(3,s.v),(4,iV k)]) (fun (A,k) s=>St w0 ros (box z 26 [iV m,iV h,c.v,i.v,j.v]::row 85 rTi64i64u64 s.v A::rs)) (fun | K,B=>(.exit 0,[(3,B.v)],St w0 ros (row 85 rTi64i64u64 B.v K::rs))) rfl _ (a.k10) rfl ?_ ?_
  ·clear a
   rintro B g w a
   refine q 9 rfl ?_
   cases d
   exact J _ _ _ (fin1r results53 ⟨rfl,rfl⟩ ⟨_,rfl,a⟩)
  rintro ⟨A,k⟩ s g w a3 a f
  refine q 5 rfl (y (lb_ (iV h) O_3 e0 a R0) (q 3 rfl (cI f (fun W f=>?_) fun W f=>?_)))
  ·refine q 7 rfl (y (lb_ c.v O_23 e0 a R0) (bE f fun a4 L f=>q 1 rfl (y (yIa SL_23 e0 e0 a (rdI o) L) (y (yI O_3 e0 a (rdI o) L) (bE f fun N X f=>q 4 rfl ?_)))))
   refine lpN Hdr Hdr X [1,4] (fun (C,D) t=>[(3,t.v),(5,iV D)]) (fun (C,D) t=>St w0 ros (box z 26 [iV m,iV h,c.v,i.v,j.v]::row 85 rTi64i64u64 t.v C::rs)) (fun | N,E=>(.exit 2,[(3,E.v)],St w0 ros (box z 26 [iV m,iV h,c.v,i.v,j.v]::row 85 rTi64i64u64 E.v N::rs))) rfl _ a rfl ?_ ?_
   ·clear a
    rintro E g w a
    refine q 8 rfl ?_
    cases f
    exact ln _ a
   rintro ⟨C,D⟩ t g w a5 a b
   refine q 5 rfl (y (lb_ c.v O_23 e0 a R0) (bE b fun a6 O b=>q 2 rfl (y (yIa SL_23 e0 e0 a (rdI o) O) (y (yI O_3 e0 a (rdI o) O) (q 3 rfl (cI b (fun Z b=>?_) fun Z b=>?_))))))
   ·refine q 4 rfl (bE b fun p R b=>bE b fun r S b=>bE b fun a7 a0 b=>dR [0,0,2,0,14,30,0,0,128,0,896,1920,4094,8190,16383,32767] [13,14,15] 3 folM ?_)
    replace a:=a.drew
    refine D1 [0,1,2,3,4,5,6,7,8,9,10,11,12] [] 13 rfl (qR 2 rfl (rQ rfl (lb_ i.v O_23 e0 a R0) (qR 1 rfl (rQ rfl (yIa SL_23 e0 e0 a (rdI u) R) (rQ rfl (yI O_3 e0 a (rdI u) R) (qR 2 rfl (rQ rfl (lb_ j.v O_24 e0 a R0) (qR 1 rfl (rQ rfl (yIa SL_24 e0 e0 a (rdI x) S) (rQ rfl (yI O_47 e0 a (rdI x) S) (rQ rfl (ybuild (us:=[iV p,iV k,.int .u64 r]) [(0,iV p),(1,iV k),(2,.int .u64 r)] SO_85 (bp3 e0 e0 e0) rfl) (Rn QSn (LH wn (rLt (n:=1) (l:=[(p,k,r)]) a SL_82 [.agg #[iV p,iV k,.int .u64 r]] (bp1 e0) rfl rfl (mks1 (cs:=[iV p,iV k,.int .u64 r]) rfl (mkF rfl) mks0)) ?_)))))))))))))
    refine fun a8 w a=>dU (D1 [] [0] 14 rfl (Rn (qS rfl QSn) ?_))
    replace a:=a.k16
    refine LH wn (rAp a SL_82 e0 e0 rO1 a0) fun a1 w a=>dU (D1 [] [] 15 rfl (Rn QSn (Ly wn (a_ a1.v e0) (dU (Dz [] [] (Rn QSn (qx 7 rfl ?_)))))))
    cases b
    exact ln _ (a.k1y)
   ·refine q 2 rfl ?_
    cases b
    exact lx _ a
  ·refine q 2 rfl ?_
   cases f
   exact lx _ (a.k12)
 ·refine q 7 rfl ?_
  cases d
  replace a:=a.rowNh 85 rTi64i64u64
  exact J _ _ _ (fin1r results53 ⟨rfl,rfl⟩ ⟨_,rfl,(a.k11)⟩)
theorem sparseref09_Dense_ok {f h:Int} {D E F:LI} {i j k:Hdr} {out:L2×Int} (c:sparseref09_Dense f h D E F=some out) (G:imm I1 i.v D∈ros) (H:imm I1 j.v E∈ros) (I:imm (rI .u64) k.v F∈ros) (a:St w0 ros rs w):
  Calls prog 21 #[.agg #[iV f,iV h,i.v,j.v,k.v]] w (fun e w=>∃ (J:Hdr) (K:List Hdr),e=.returned (.tuple #[J.v,iV out.2])∧St w0 ros (row 24 rH J.v K::fam 47 (rI .u64) K out.1::rs) w):=by
 refine en func21 rfl ntmps21 fun Q L=>q 2 rfl (yb (r_box (vals:=[iV f,iV h,i.v,j.v,k.v]) a e0 rfl) fun N w a=>q 7 rfl (y (lbs_ [iV f,iV h,i.v,j.v,k.v] ST_26 e0 a R0) (bE c fun b4 Z c=>cZ (sparseref09_Check_ok Z G H I a) fun w a=>q 9 rfl ?_)))
 refine cIn c (fun a0 c=>?_) fun a0 c=>?_
 ·refine q 14 rfl (bE c fun O a1 c=>?_)
  replace a:=((a.rowNh 24 rH).fNew 47 (rI .u64)).k10
  refine lpN (Hdr×(List Hdr)) (Hdr×(List Hdr)) a1 [1] (fun (t,x) (r,s)=>[(5,r.v),(6,iV x)]) (fun (t,x) (r,s)=>St w0 ros (box N 26 [iV f,iV h,i.v,j.v,k.v]::row 24 rH r.v s::fam 47 (rI .u64) s t::rs)) (fun | O,(o,m)=>(.exit 0,[(5,o.v)],St w0 ros (box N 26 [iV f,iV h,i.v,j.v,k.v]::row 24 rH o.v m::fam 47 (rI .u64) m O::rs))) rfl (_,_) (a.k16) rfl ?_ ?_
  ·clear a
   rintro ⟨o,m⟩ g w a
   refine q 4 rfl (y (lbs_ [iV f,iV h,i.v,j.v,k.v] ST_26 e0 a R0) (bE c fun a2 a3 c=>cO (sparseref09_Entries_ok a3 G H I a) fun a4 w a=>bE c fun R a5 c=>q 10 rfl ?_))
   refine lp a5 [5,7] (fun (z,A)=>[(8,iV A)]) (fun (z,A)=>St w0 ros (row 24 rH o.v m::fam 47 (rI .u64) m z::row 85 rTi64i64u64 a4.v a2::rs)) (fun | R=>(.exit 2,[],St w0 ros (row 24 rH o.v m::fam 47 (rI .u64) m R::rs))) rfl (a.k1j) rfl ?_ ?_
   ·clear a
    intro g w a
    refine q 10 rfl ?_
    cases c
    exact L _ _ _ (fin2r results21 ⟨rfl,rfl⟩ ⟨rfl,rfl⟩ ⟨_,_,rfl,a⟩)
   rintro ⟨z,A⟩ g w b5 a b
   refine q 5 rfl (y (yLen SL_82 e0 a rO2) (q 3 rfl (cI b (fun a6 b=>?_) fun a6 b=>?_)))
   ·refine q 4 rfl (bE b fun a7 S b=>bE b fun b6 B b=>bE b fun a8 T b=>bE b fun U V b=>bE b fun b7 W b=>bE b fun b8 a9 b=>dR [0,0,0,6,14,30,63,127,0,0,768,1792,3840,0,0,24576,57344,122880,262143,524287] [19] 1 folM ?_)
    replace a:=a.drew
    refine D0 [0,1,2,3,4,5,6,7,8,9,10,11,12,13,14,15,16,17,18] [] 19 rfl (qR 3 rfl (rQ rfl (yIa SL_82 e0 e0 a rO2 S) (rQ rfl (yFe FL_85_0 e0) (rQ rfl (yFf (u:=iV a7.1) O_3 e0 a rO2 S rfl) ?_))))
    obtain ⟨c0,p⟩:=a.famI R1 B
    refine rQ rfl (yIa SLH_56 e0 e0 a rO0 p) (rQ rfl (yF1 O_24 e0 a rO0 p rfl) (qR 2 rfl (rQ rfl (yIa SL_82 e0 e0 a rO2 T) (rQ rfl (yFe FL_85_1 e0) (rQ rfl (yFf (u:=iV a8.2.1) O_3 e0 a rO2 T rfl) (qR 2 rfl (rQ rfl (yIa SL_82 e0 e0 a rO2 V) (rQ rfl (yFe FL_85_2 e0) (rQ rfl (yFf (u:=.int .u64 U.2.2) O_47 e0 a rO2 V rfl) (rQ rfl (yIs SL_24 e0 e0 a (rdF R1 p B) W) (Rn QSn ?_)))))))))))
    replace a:=a.k10
    refine LT wn (r_sti (cs:=[.int .u64 U.2.2]) (a.foc p B) O_47 rfl e0 e0 rfl mkI W) fun w a=>?_
    replace a:=a.unfoc' p a9
    refine Dz [] [] (Rn QSn (qx 7 rfl ?_))
    cases b
    exact lo (a.k39)
   ·refine q 2 rfl ?_
    cases b
    exact xo (a.k2e)
  rintro ⟨t,x⟩ ⟨r,s⟩ g w c1 a d
  refine q 5 rfl (y (lb_ (iV f) O_3 e0 a R0) (q 3 rfl (cI d (fun b0 d=>?_) fun b0 d=>?_)))
  ·refine q 7 rfl (y (lb_ (iV h) O_3 e0 a R0) (bE d fun b1 b2 d=>yh (rMk a SL_24 e0 b2) fun C w a=>yh (rLt (n:=1) (l:=[C]) a SLH_56 [C.v] (bp1 e0) rfl rfl (mks1 rfl (mkF rfl) mks0)) fun c2 w a=>bE d fun c3 X d=>?_))
   replace a:=a.k1d
   obtain ⟨c4,ey80,b3⟩:=app_rep X (a.famL R4) (show [C].length=[b1].length from rfl)
   refine yh (rAp a SLH_56 e0 e0 rO1 b3) fun c5 w a=>?_
   replace a:=(a.k3a).fPush
   rw [← ey80,← (app_some X).1] at a
   refine q 9 rfl ?_
   cases d
   exact ln (_,_) (a.k17)
  ·refine q 2 rfl ?_
   cases d
   exact lx (_,_) a
 ·refine q 9 rfl ?_
  cases c
  replace a:=((a.rowNh 24 rH).fNew 47 (rI .u64)).k10
  exact L _ _ _ (fin2r results21 ⟨rfl,rfl⟩ ⟨rfl,rfl⟩ ⟨_,_,rfl,(a.k2e)⟩)
theorem sparseref09_Integers_ok {d f:Int} {a2 a3 a4:LI} {i j h:Hdr} {out:(List (List (Bool×LI)))×Int×Int} (c:sparseref09_Integers d f a2 a3 a4=some out) (a5:imm I1 i.v a2∈ros) (a6:imm I1 j.v a3∈ros) (u:imm (rI .u64) h.v a4∈ros) (D:globF∈ros) (a:St w0 ros rs w):
  Calls prog 6 #[.agg #[iV d,iV f,i.v,j.v,h.v]] w (fun e w=>∃ (a7:Hdr),e=.returned (.tuple #[a7.v,iV out.2.1,iV out.2.2])∧St w0 ros (row 28 (rS (rP rB (rS (rI .u32)))) a7.v out.1::rs) w):=by
 refine en func6 rfl ntmps6 fun Q S=>q 2 rfl (yb (r_box (vals:=[iV d,iV f,i.v,j.v,h.v]) a e0 rfl) fun o w a=>q 8 rfl (y (lbs_ [iV d,iV f,i.v,j.v,h.v] ST_26 e0 a R0) (bE c fun e3 b8 c=>cZ (sparseref09_Check_ok b8 a5 a6 u a) fun w a=>q 9 rfl ?_)))
 refine cIn c (fun c0 c=>?_) fun c0 c=>?_
 ·refine q 6 rfl (y (lb_ (iV d) O_3 e0 a R0) (q 2 rfl ?_))
  refine jW 4 [1] [(29,.bool ((decide ((16:Int) < d)) || (decide ((16:Int) < f))))] (St w0 ros (box o 26 [iV d,iV f,i.v,j.v,h.v]::rs)) rfl (fun a8=>?_) ?_
  ·refine gB 25 rfl (fun T=>?_) fun T=>?_
   ·exact q 4 rfl (a8 _ _ a (hasC (congrArg Value.bool (orT T)) rfl))
   ·exact q 1 rfl (y (lb_ (iV f) O_3 e0 a R0) (q 2 rfl (a8 _ _ a (hasC (congrArg Value.bool (orF T)) rfl))))
  intro g w a
  refine q 2 rfl ?_
  refine cJ c (fun c1 c=>?_) fun c1 c=>?_
  ·refine q 9 rfl ?_
   cases c
   replace a:=a.rowNh 28 (rS (rP rB (rS (rI .u32))))
   exact S _ _ _ (fin3r results6 ⟨rfl,rfl⟩ ⟨rfl,rfl⟩ ⟨rfl,rfl⟩ ⟨_,rfl,(a.k11)⟩)
  ·refine q 15 rfl (bE c fun a9 c2 c=>?_)
   refine lp c2 [1] (fun (x,z,E)=>[(6,iV x),(7,.bool z),(8,iV E)]) (fun (x,z,E)=>St w0 ros (box o 26 [iV d,iV f,i.v,j.v,h.v]::rs)) (fun | a9=>(.exit 0,[(6,iV a9)],St w0 ros (box o 26 [iV d,iV f,i.v,j.v,h.v]::rs))) rfl a rfl ?_ ?_
   ·clear a
    intro g w a
    refine q 4 rfl (y (lbs_ [iV d,iV f,i.v,j.v,h.v] ST_26 e0 a R0) (bE c fun F c3 c=>cT_ (sparseref09_Dense_ok c3 a5 a6 u a) fun G r w a=>bE c fun b0 c4 c=>q 19 rfl ?_))
    replace a:=a.rowNh 28 (rS (rP rB (rS (rI .u32))))
    refine lpN Hdr Hdr c4 [1,6,10] (fun (t,U) s=>[(12,s.v),(13,iV U)]) (fun (t,U) s=>St w0 ros (box o 26 [iV d,iV f,i.v,j.v,h.v]::row 24 rH G.v r::fam 47 (rI .u64) r F.1::row 28 (rS (rP rB (rS (rI .u32)))) s.v t::rs)) (fun | b0,V=>(.exit 2,[(12,V.v)],St w0 ros (row 28 (rS (rP rB (rS (rI .u32)))) V.v b0::rs))) rfl _ (a.k3b) rfl ?_ ?_
    ·clear a
     rintro V g w a
     refine q 12 rfl ?_
     cases c
     exact S _ _ _ (fin3r results6 ⟨rfl,rfl⟩ ⟨rfl,rfl⟩ ⟨rfl,rfl⟩ ⟨_,rfl,a⟩)
    rintro ⟨t,U⟩ s g w e4 a p
    refine q 5 rfl (y (lb_ (iV d) O_3 e0 a R0) (q 3 rfl (cI p (fun c5 p=>?_) fun c5 p=>?_)))
    ·refine q 16 rfl (bE p fun W c6 p=>?_)
     replace a:=a.rowNh 40 (rP rB (rS (rI .u32)))
     refine lpN Hdr Hdr c6 [1,6,10,12,13] (fun (X,H) I=>[(14,I.v),(15,iV H)]) (fun (X,H) I=>St w0 ros (box o 26 [iV d,iV f,i.v,j.v,h.v]::row 24 rH G.v r::fam 47 (rI .u64) r F.1::row 28 (rS (rP rB (rS (rI .u32)))) s.v t::row 40 (rP rB (rS (rI .u32))) I.v X::rs)) (fun | W,A=>(.exit 4,[(14,A.v)],St w0 ros (box o 26 [iV d,iV f,i.v,j.v,h.v]::row 24 rH G.v r::fam 47 (rI .u64) r F.1::row 28 (rS (rP rB (rS (rI .u32)))) s.v t::row 40 (rP rB (rS (rI .u32))) A.v W::rs))) rfl _ (a.k2l) rfl ?_ ?_
     ·clear a
      rintro A g w a
      refine q 5 rfl ?_
      replace a:=(a.k1e).fz
      refine yh (rLt (n:=1) (l:=[W]) a SL_32 [A.v] (bp1 e0) rfl rfl (mks1 (cs:=[A.v]) rfl (mkS F0) mks0)) fun e5 w a=>bE p fun e6 c7 p=>?_
      replace a:=a.k1e
      refine yh (rAp a SL_32 e0 e0 rO1 c7) fun e7 w a=>q 9 rfl ?_
      cases p
      exact ln _ ((a.k3c).fc)
     rintro ⟨X,H⟩ I g w c8 a b
     refine q 5 rfl (y (lb_ (iV f) O_3 e0 a R0) (q 3 rfl (cI b (fun c9 b=>?_) fun c9 b=>?_)))
     ·refine q 8 rfl (bE b fun e8 Z b=>?_)
      obtain ⟨e9,J⟩:=a.famI R2 Z
      refine y (yIa SLH_56 e0 e0 a rO1 J) (y (yF1 O_24 e0 a rO1 J rfl) (bE b fun f0 b1 b=>q 1 rfl (y (yIa SL_24 e0 e0 a (rdF R2 J Z) b1) (y (yI O_47 e0 a (rdF R2 J Z) b1) (bE b fun B d0 b=>cO (sparseref03_Of_ok d0 D a) fun b2 w a=>yb (rAl a ZT_53) fun f1 w a=>sB rfl a ST_53 fun w a=>q 4 rfl (y (lbs_ [.bool B.1,.bool B.2.1,b2.v,iV B.2.2.2] ST_53 e0 a R0) ?_))))))
      refine bE b fun f2 d1 b=>cZ (sparseref02_Sign_ok d1 F0 (mtF D) a) fun w a=>q 3 rfl ?_
      refine jC ((List (Bool×LI))×Hdr) [1,6,10,12,13,15] (fun (K,L)=>[(14,L.v)]) (fun (K,L) w=>St w0 ros (box o 26 [iV d,iV f,i.v,j.v,h.v]::row 24 rH G.v r::fam 47 (rI .u64) r F.1::row 28 (rS (rP rB (rS (rI .u32)))) s.v t::row 40 (rP rB (rS (rI .u32))) L.v K::rs) w∧sparseref09_Integers_j21 H K=some c8) rfl ?_ ?_
      ·rintro ⟨K,L⟩ g w ⟨a,c⟩
       refine q 7 rfl ?_
       cases c
       exact ln _ a
      refine cI b (fun d2 b=>?_) fun d2 b=>?_
      ·refine q 2 rfl (y (ybuild (us:=[.bool false,hnil.v]) [] SO_40 bp0 rfl) (yh (rLt (n:=1) (l:=[(false,[])]) a SL_28 [.agg #[.bool false,hnil.v]] (bp1 e0) rfl rfl (mks1 (cs:=[.bool false,hnil.v]) rfl (mkP mkB mkSn) mks0)) fun f3 w a=>bE b fun f4 d3 b=>?_))
       replace a:=a.k1t
       exact yh (rAp a SL_28 e0 e0 rO1 d3) fun f5 w a=>q 2 rfl (jx (_,_) ⟨((a.k3d).fc),b⟩)
      ·refine q 3 rfl (y (lbs_ [.bool B.2.1,b2.v] ST_40 e0 a R0) (q 1 rfl (y (lb_ (iV B.2.2.2) O_3 e0 a R0) (bE b fun N d4 b=>q 2 rfl (cO (sparseref01_Shift_ok d4 F0 a) fun b3 w a=>?_)))))
       replace a:=a.fz
       refine yh (rLt (n:=1) (l:=[(N.1,N.2)]) a SL_28 [.agg #[.bool N.1,b3.v]] (bp1 e0) rfl rfl (mks1 (cs:=[.bool N.1,b3.v]) rfl (mkP mkB (mkS F0)) mks0)) fun f6 w a=>bE b fun f7 d5 b=>?_
       replace a:=a.k1t
       exact yh (rAp a SL_28 e0 e0 rO1 d5) fun f8 w a=>q 2 rfl (jx (_,_) ⟨((a.k3d).fc),b⟩)
     ·refine q 2 rfl ?_
      cases b
      exact lx _ a
    ·refine q 2 rfl ?_
     cases p
     exact lx _ (a.k3e)
   rintro ⟨x,z,E⟩ g w d6 a k
   refine q 5 rfl (y (lb_ h.v O_24 e0 a R0) (y (yLen SL_24 e0 a (rdI u)) (q 3 rfl (cI k (fun d7 k=>?_) fun d7 k=>?_))))
   ·refine q 7 rfl (y (lb_ h.v O_24 e0 a R0) (bE k fun f9 b4 k=>q 1 rfl (y (yIa SL_24 e0 e0 a (rdI u) b4) (y (yI O_47 e0 a (rdI u) b4) (bE k fun m d8 k=>cO (sparseref03_Of_ok d8 D a) fun C w a=>yb (rAl a ZT_53) fun b5 w a=>sB rfl a ST_53 fun w a=>q 4 rfl (y (lbs_ [.bool m.1,.bool m.2.1,C.v,iV m.2.2.2] ST_53 e0 a R0) ?_))))))
    refine bE k fun d9 e1 k=>cZ (sparseref02_Sign_ok e1 F0 (mtF D) a) fun w a=>q 2 rfl ?_
    refine jW 9 [1,6,7,8,9] [(55,.bool ((!(decide (d9=0))) && ((!z) || (decide (m.2.2.2 < x)))))] (St w0 (imm (rI .u32) C.v m.2.2.1::ros) (box o 26 [iV d,iV f,i.v,j.v,h.v]::box b5 53 [.bool m.1,.bool m.2.1,C.v,iV m.2.2.2]::rs)) rfl (fun b6=>?_) ?_
    ·refine gB 46 rfl (fun a0=>?_) fun a0=>?_
     ·refine q 3 rfl ?_
      refine jW 5 [1,6,7,8,9,46] [(54,.bool ((!z) || (decide (m.2.2.2 < x))))] (St w0 (imm (rI .u32) C.v m.2.2.1::ros) (box o 26 [iV d,iV f,i.v,j.v,h.v]::box b5 53 [.bool m.1,.bool m.2.1,C.v,iV m.2.2.2]::rs)) rfl (fun b7=>?_) ?_
      ·refine gB 49 rfl (fun a1=>?_) fun a1=>?_
       ·exact q 5 rfl (b7 _ _ (a.k10) (hasC (congrArg Value.bool (orT a1)) rfl))
       ·exact q 1 rfl (y (lb_ (iV m.2.2.2) O_3 e0 a R0) (q 3 rfl (b7 _ _ (a.k10) (hasC (congrArg Value.bool (orF a1)) rfl))))
      intro g w a
      exact q 1 rfl (b6 _ _ a (hasC (congrArg Value.bool (andT a0)) rfl))
     ·exact q 9 rfl (b6 _ _ (a.k10) (hasC (congrArg Value.bool (andF a0)) rfl))
    intro g w a
    refine q 2 rfl ?_
    refine jC (Int×Bool) [1,8] (fun (O,R)=>[(6,iV O),(7,.bool R)]) (fun (O,R) w=>St w0 ros (box o 26 [iV d,iV f,i.v,j.v,h.v]::rs) w∧sparseref09_Integers_j25 E O R=some d6) rfl ?_ ?_
    ·rintro ⟨O,R⟩ g w ⟨a,c⟩
     refine q 7 rfl ?_
     cases c
     exact lo a
    refine cJ k (fun e2 k=>?_) fun e2 k=>?_
    ·exact q 2 rfl (y (lb_ (iV m.2.2.2) O_3 e0 a R1) (q 3 rfl (jx (_,_) ⟨((a.k11).fc),k⟩)))
    ·exact q 1 rfl (jx (_,_) ⟨((a.k11).fc),k⟩)
   ·refine q 2 rfl ?_
    cases k
    exact xo a
 ·refine q 10 rfl ?_
  cases c
  replace a:=a.rowNh 28 (rS (rP rB (rS (rI .u32))))
  exact S _ _ _ (fin3r results6 ⟨rfl,rfl⟩ ⟨rfl,rfl⟩ ⟨rfl,rfl⟩ ⟨_,rfl,(a.k11)⟩)
theorem sparseref08_fracs_ok {C:List (List (Bool×LI))} {D:Hdr} {out:(List (List (Bool×LI×Bool×LI)))} (s:sparseref08_fracs C=some out) (k:imm (rS (rP rB (rS (rI .u32)))) D.v C∈ros) (a:St w0 ros rs w):
  Calls prog 24 #[D.v] w (fun e w=>∃ (E:Hdr) (F:List Hdr),e=.returned (E.v)∧St w0 ros (row 104 rH E.v F::fam 61 (rP rB (rP (rS (rI .u32)) (rP rB (rS (rI .u32))))) F out::rs) w):=by
 refine en func24 rfl ntmps24 fun Q L=>bE s fun G N s=>q 17 rfl ?_
 replace a:=((a.rowNh 104 rH).fNew 61 (rP rB (rP (rS (rI .u32)) (rP rB (rS (rI .u32)))))).k10
 refine lpN (Hdr×(List Hdr)) (Hdr×(List Hdr)) N [0] (fun (m,t) (f,d)=>[(3,f.v),(4,iV t)]) (fun (m,t) (f,d)=>St w0 ros (row 104 rH f.v d::fam 61 (rP rB (rP (rS (rI .u32)) (rP rB (rS (rI .u32))))) d m::rs)) (fun | G,(u,x)=>(.exit 0,[(3,u.v)],St w0 ros (row 104 rH u.v x::fam 61 (rP rB (rP (rS (rI .u32)) (rP rB (rS (rI .u32))))) x G::rs))) rfl (_,_) a rfl ?_ ?_
 ·clear a
  rintro ⟨u,x⟩ g w a
  refine q 9 rfl ?_
  cases s
  exact L _ _ _ (fin1r results24 ⟨rfl,rfl⟩ ⟨_,_,rfl,a⟩)
 rintro ⟨m,t⟩ ⟨f,d⟩ g w a0 a c
 refine q 5 rfl (y (yLen SL_32 e0 a (rdI k)) (q 3 rfl (cI c (fun O c=>?_) fun O c=>?_)))
 ·refine q 16 rfl (bE c fun z R c=>?_)
  replace a:=a.rowNh 61 (rP rB (rP (rS (rI .u32)) (rP rB (rS (rI .u32)))))
  refine lpN Hdr Hdr R [0,3,4] (fun (A,B) o=>[(5,o.v),(6,iV B)]) (fun (A,B) o=>St w0 ros (row 104 rH f.v d::fam 61 (rP rB (rP (rS (rI .u32)) (rP rB (rS (rI .u32))))) d m::row 61 (rP rB (rP (rS (rI .u32)) (rP rB (rS (rI .u32))))) o.v A::rs)) (fun | z,h=>(.exit 2,[(5,h.v)],St w0 ros (row 104 rH f.v d::fam 61 (rP rB (rP (rS (rI .u32)) (rP rB (rS (rI .u32))))) d m::row 61 (rP rB (rP (rS (rI .u32)) (rP rB (rS (rI .u32))))) h.v z::rs))) rfl _ (a.k1f) rfl ?_ ?_
  ·clear a
   rintro h g w a
   refine q 5 rfl (yh (rLt (n:=1) (l:=[h]) a SLH_64 [h.v] (bp1 e0) rfl rfl (mks1 rfl (mkF rfl) mks0)) fun a1 w a=>bE c fun a2 H c=>?_)
   replace a:=a.k10
   obtain ⟨a3,ey191,S⟩:=app_rep H (a.famL R2) (show [h].length=[z].length from rfl)
   refine yh (rAp a SLH_64 e0 e0 rO1 S) fun a4 w a=>?_
   replace a:=(a.k1h).fPush
   rw [← ey191,← (app_some H).1] at a
   refine q 9 rfl ?_
   cases c
   exact ln (_,_) (a.k1i)
  rintro ⟨A,B⟩ o g w a5 a b
  refine bE b fun a6 I b=>q 6 rfl (y (yIa SL_32 e0 e0 a (rdI k) I) ?_)
  obtain ⟨a7,a⟩:=iLs a k I
  refine y (yCt O_28 e0 a F1 rfl) (y (yLen SL_28 e0 a (rdI F0)) (q 3 rfl (cI b (fun T b=>?_) fun T b=>?_)))
  ·refine q 8 rfl (bE b fun a8 J b=>y (yIa SL_32 e0 e0 a (rdI (F_2 k)) J) ?_)
   obtain ⟨a9,a⟩:=iLs a (F_2 k) J
   refine y (yCt O_28 e0 a F1 rfl) (bE b fun U K b=>q 1 rfl (y (yIa SL_28 e0 e0 a (rdI F0) K) ?_))
   obtain ⟨b0,b1,a⟩:=iLd a F0 K
   obtain ⟨b2,b3,rfl,a⟩:=a.eltP
   obtain ⟨rfl,a⟩:=a.eltB
   obtain ⟨V,rfl,a⟩:=a.eltS
   refine y (yCtn (cs:=[.bool U.1,V.v]) ST_40 rfl e0 a F1) (bE b fun i W b=>cO (sparseref01_Norm_ok W F0 a) fun p w a=>bE b fun j X b=>cO (sparseref01_FromInt_ok X a) fun r w a=>y (ybuild (us:=[.bool i.1,p.v,.bool j.1,r.v]) [(0,.agg #[.bool i.1,p.v]),(1,.agg #[.bool j.1,r.v])] SO_61 (bp2 e0 e0) rfl) ?_)
   replace a:=((a.k10).fz).fz
   refine yh (rLt (n:=1) (l:=[(i.1,i.2,j.1,j.2)]) a SL_104 [.agg #[.bool i.1,p.v,.bool j.1,r.v]] (bp1 e0) rfl rfl (mks1 (cs:=[.bool i.1,p.v,.bool j.1,r.v]) rfl (mkP mkB (mkP (mkS F1) (mkP mkB (mkS F0)))) mks0)) fun b4 w a=>bE b fun b5 Z b=>?_
   replace a:=a.k1d
   refine yh (rAp a SL_104 e0 e0 rO1 Z) fun b6 w a=>q 9 rfl ?_
   cases b
   exact ln _ ((a.k1j).fc)
  ·refine q 2 rfl ?_
   cases b
   exact lx _ (a.fc)
 ·refine q 2 rfl ?_
  cases c
  exact lx (_,_) a
theorem sparseref08_Cols_ok {d:List (List (Bool×LI))} {f:Hdr} {out:Int} (b:sparseref08_Cols d=some out) (c:imm (rS (rP rB (rS (rI .u32)))) f.v d∈ros) (a:St w0 ros rs w):
  Calls prog 25 #[f.v] w (fun e w=>e=.returned (iV out)∧St w0 ros rs w):=by
 refine en func25 rfl ntmps25 fun Q g=>q 9 rfl (y (yLen SL_32 e0 a (rdI c)) (q 3 rfl (cI b (fun i b=>?_) fun i b=>?_)))
 ·refine q 7 rfl ?_
  cases b
  exact za g results25 ⟨rfl,a⟩
 ·refine q 5 rfl (bE b fun j h b=>y (yIa SL_32 e0 rfl a (rdI c) h) ?_)
  obtain ⟨k,a⟩:=iLs a c h
  refine y (yCt O_28 e0 a F1 rfl) (y (yLen SL_28 e0 a (rdI F0)) (q 4 rfl ?_))
  cases b
  exact za g results25 ⟨rfl,(a.fc)⟩
theorem sparseref08_zero_ok {b:Bool} {h:LI} {d:Bool} {i:LI} {c f:Hdr} {out:Bool} (g:sparseref08_zero b h d i=some out) (j:imm (rI .u32) c.v h∈ros) (m:imm (rI .u32) f.v i∈ros) (a:St w0 ros rs w):
  Calls prog 58 #[.agg #[.bool b,c.v,.bool d,f.v]] w (fun e w=>e=.returned (.bool out)∧St w0 ros rs w):=by
 refine en func58 rfl ntmps58 fun Q k=>q 2 rfl (yb (r_box (vals:=[.bool b,c.v,.bool d,f.v]) a e0 rfl) fun n w a=>q 6 rfl (y (lbs_ [.bool b,c.v] ST_40 e0 a R0) (bE g fun o l g=>cZ (sparseref01_Sign_ok l j a) fun w a=>q 5 rfl ?_)))
 cases g
 exact za k results58 ⟨rfl,(a.k14)⟩
end Go.Proofs.YtcoaljcfifecgagGreatDoor
