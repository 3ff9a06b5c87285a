/- Walks: each function computes its model, printed. -/
import Derived.Test.YtpfmbaidflhamaaGreatDoorW5
namespace Go.Proofs.YtpfmbaidflhamaaGreatDoor
open Go Sx M
set_option maxRecDepth 100000
set_option maxHeartbeats 40000000
set_option linter.unusedVariables false
attribute [local irreducible] wpList Code.wp Calls DR QR QS LA LS St
variable {w0:World} {ros:List Fact} {rs:List Res} {w:World}
theorem sparseref08_frac_ok {j:Bool} {o:LI} {i:Bool} {p:LI} {l k:Hdr} {out:Bool×LI×Bool×LI} (b:sparseref08_frac j o i p=some out) (u:imm (rI .u32) l.v o∈ros) (q:imm (rI .u32) k.v p∈ros) (a:St w0 ros rs w):
  Calls Tryz.prog 85 #[.agg #[.bool j,l.v],.agg #[.bool i,k.v]] w (fun e w=>∃ (x y:Hdr),e=.returned (.agg #[.bool out.1,x.v,.bool out.2.2.1,y.v])∧St w0 ros (row 103 (rI .u32) x.v out.2.1::row 103 (rI .u32) y.v out.2.2.2::rs) w):=by
 refine enterQ Tryz.func85 rfl Tryz.ntmps85 rfl fun Q I=>sR fun _ J=>yBb (r_box (vals:=[.bool j,l.v]) a e0 rfl) fun z w a=>yBb (r_box (vals:=[.bool i,k.v]) a e0 rfl) fun A w a=>yBb (rAl a ZT_80) fun B w a=>wK J (sR fun _ K=>yY (lbs_ [.bool j,l.v] ST_31 e0 a R2) ?_)
 refine yY (lbs_ [.bool i,k.v] ST_31 e0 a R1) (bE b fun r L b=>yC (yCall FN_88 (a2 e0 e0)) (sparseref01_GCD_ok L u q a) ?_)
 rintro _ w ⟨s,rfl,a⟩
 refine ⟨_,rfl,?_⟩
 refine yBb (rAl a ZT_31) fun C w a=>yT (r_stbn (vals':=[.bool r.1,s.v]) (us:=[.bool r.1,s.v]) a ST_31 e0 e0 rfl rfl (one_of rfl) rfl) fun w a=>wK K (sQ fun N O=>sR fun _ R=>yY (lbs_ [.bool i,k.v] ST_31 e0 a R2) (bE b fun a5 S b=>yC (yCall FN_34 (a1 e0)) (sparseref01_Sign_ok S (mtF q) a) ?_))
 rintro _ w ⟨rfl,a⟩
 refine ⟨_,rfl,?_⟩
 refine yY (ylss e0 rfl) (wK R ?_)
 have D:∀ (m:Bool) (t:LI) (n:Hdr) (f:FV) w,f 2=(pB z)→f 3=(pB A)→f 4=(pB B)→f 5=(pB C)→St w0 (imm (rI .u32) n.v t::ros) (box z 31 [.bool j,l.v]::box A 31 [.bool i,k.v]::box B 80 [.bool false,hnil.v,.bool false,hnil.v]::box C 31 [.bool m,n.v]::rs) w→sparseref08_frac_j1 j o i p m t=some out→N .normal (fr 33 f) w:=by
  intro m t n f w T U E F a b
  refine O _ _ (sR fun _ V=>yY (lbs_ [.bool j,l.v] ST_31 (eh T) a R0) (yY (lbs_ [.bool m,n.v] ST_31 (eh F) a R3) (bE b fun c W b=>yC (yCall FN_87 (a2 e0 e0)) (sparseref01_Quo_ok W (mtF u) F0 a) ?_)))
  rintro _ w ⟨g,rfl,a⟩
  refine ⟨_,rfl,?_⟩
  refine Ym (.tuple #[.agg #[.bool c.1,g.v],.bool c.2.2]) e0 (yY (x_ (.agg #[.bool c.1,g.v]) e0) (yY (x_ (.bool c.2.2) e0) (yBb (rAl a ZT_31) fun a6 w a=>yT (r_stbn (vals':=[.bool c.1,g.v]) (us:=[.bool c.1,g.v]) a ST_31 e0 e0 rfl rfl (one_of rfl) rfl) fun w a=>Ya (.bool c.2.2) e0 (wK V (sR fun _ X=>yY (lbs_ [.bool i,k.v] ST_31 (eh U) a R3) (yY (lbs_ [.bool m,n.v] ST_31 (eh F) a R5) ?_))))))
  refine bE b fun d Z b=>yC (yCall FN_87 (a2 e0 e0)) (sparseref01_Quo_ok Z (mtF q) F0 a) ?_
  rintro _ w ⟨h,rfl,a⟩
  refine ⟨_,rfl,?_⟩
  refine Ym (.tuple #[.agg #[.bool d.1,h.v],.bool d.2.2]) e0 (yY (x_ (.agg #[.bool d.1,h.v]) e0) (yY (x_ (.bool d.2.2) e0) (yBb (rAl a ZT_31) fun a7 w a=>yT (r_stbn (vals':=[.bool d.1,h.v]) (us:=[.bool d.1,h.v]) a ST_31 e0 e0 rfl rfl (one_of rfl) rfl) fun w a=>Ya (.bool d.2.2) e0 (wK X (sR fun _ a0=>yY (lbs_ [.bool c.1,g.v] ST_31 e0 a R2) (yY (lbs_ [.bool d.1,h.v] ST_31 e0 a R0) ?_))))))
  refine yY (ybuild (us:=[.bool c.1,g.v,.bool d.1,h.v]) [(0,.agg #[.bool c.1,g.v]),(1,.agg #[.bool d.1,h.v])] SO_80 (bp2 e0 e0) rfl) (yT (r_stbn (vals':=[.bool c.1,g.v,.bool d.1,h.v]) (us:=[.bool c.1,g.v,.bool d.1,h.v]) (a.k25) ST_80 (eh E) e0 rfl rfl (one_of rfl) rfl) fun w a=>wK a0 (wp_ret ?_))
  cases b
  exact I _ _ _ (fin1r Tryz.results85 (rcs2 rfl E a R0 ST_80 rfl) ⟨_,_,rfl,((a.k2d).facts (allT allI))⟩)
 refine cIf e0 b (fun a3 b=>?_) fun a3 b=>?_
 ·refine wR (yY (lbs_ [.bool r.1,s.v] ST_31 e0 a R0) (bE b fun G a4 b=>yC (yCall FN_71 (a1 e0)) (sparseref01_Neg_ok a4 F0 a) ?_))
  rintro _ w ⟨H,rfl,a⟩
  refine ⟨_,rfl,?_⟩
  refine yT (r_stbn (vals':=[.bool G.1,H.v]) (us:=[.bool G.1,H.v]) (a.k17) ST_31 e0 e0 rfl rfl (one_of rfl) rfl) fun w a=>wN ?_
  replace a:=(a.k17).fz
  exact D _ _ _ _ _ rfl rfl rfl rfl ((a.k1g).facts (allC F0 (allT (allT allI)))) b
 ·exact wp_skip (D _ _ _ _ _ rfl rfl rfl rfl (a.k1g) b)
theorem sparseref08_minus_ok {z:Bool} {V:LI} {o:Bool} {W:LI} {A:Bool} {X:LI} {j:Bool} {Z:LI} {B:Bool} {a0:LI} {k:Bool} {a1:LI} {d:Bool} {a3:LI} {q:Bool} {a4:LI} {C p D l E m g r:Hdr} {out:Bool×LI×Bool×LI} (c:sparseref08_minus z V o W A X j Z B a0 k a1 d a3 q a4=some out) (b7:imm (rI .u32) C.v V∈ros) (a5:imm (rI .u32) p.v W∈ros) (a6:imm (rI .u32) D.v X∈ros) (J:imm (rI .u32) l.v Z∈ros) (a7:imm (rI .u32) E.v a0∈ros) (K:imm (rI .u32) m.v a1∈ros) (F:imm (rI .u32) g.v a3∈ros) (R:imm (rI .u32) r.v a4∈ros) (a:St w0 ros rs w):
  Calls Tryz.prog 58 #[.agg #[.bool z,C.v,.bool o,p.v],.agg #[.bool A,D.v,.bool j,l.v],.agg #[.bool B,E.v,.bool k,m.v],.agg #[.bool d,g.v,.bool q,r.v]] w (fun e w=>∃ (a8 a9:Hdr),e=.returned (.agg #[.bool out.1,a8.v,.bool out.2.2.1,a9.v])∧St w0 ros (row 103 (rI .u32) a8.v out.2.1::row 103 (rI .u32) a9.v out.2.2.2::rs) w):=by
 refine enterQ Tryz.func58 rfl Tryz.ntmps58 rfl fun Q b8=>sR fun _ b9=>yBb (r_box (vals:=[.bool z,C.v,.bool o,p.v]) a e0 rfl) fun b0 w a=>yBb (r_box (vals:=[.bool A,D.v,.bool j,l.v]) a e0 rfl) fun c8 w a=>yBb (r_box (vals:=[.bool B,E.v,.bool k,m.v]) a e0 rfl) fun c9 w a=>yBb (r_box (vals:=[.bool d,g.v,.bool q,r.v]) a e0 rfl) fun d0 w a=>yBb (rAl a ZT_80) fun b1 w a=>wN ?_
 refine b9 _ _ (sQ fun _ c0=>bE c fun d1 b2 c=>bE c fun d2 S c=>bE c fun d3 L c=>bE c fun d4 G c=>bE c fun b x c=>?_)
 refine joinN (n:=44) (fun f w=>∃ (T:Nat) (H s:Hdr),f 4=(pB b0)∧f 8=(pB b1)∧f 9=(pB T)∧St w0 ros (box b0 80 [.bool z,C.v,.bool o,p.v]::box b1 80 [.bool false,hnil.v,.bool false,hnil.v]::row 103 (rI .u32) H.v b.2.1::row 103 (rI .u32) s.v b.2.2.2::box T 80 [.bool b.1,H.v,.bool b.2.2.1,s.v]::rs) w) (fun y=>?_) ?_
 ·refine dR [0,1,0,4,15,0,32,127,0,256,0,1024,4095,0,8192,32767,65535,0,262143] [4,7,12,15,16,17,18] 7 folM ?_
  replace a:=a.drew
  refine Dn [0,1,2,3,5,6,8,9,10,11,13,14] [] [4,17] (yR rfl (yFb FL_80_0 e0) (yR rfl (lbs_ [.bool A,D.v] ST_31 e0 a R3) (yR rfl (yFb FL_80_0 e0) (yR rfl (lbs_ [.bool B,E.v] ST_31 e0 a R2) (yR rfl (yFb FL_80_1 e0) (yR rfl (lbs_ [.bool q,r.v] ST_31 e0 a R1) (yR rfl (yFb FL_80_1 e0) (yR rfl (lbs_ [.bool j,l.v] ST_31 e0 a R3) (yR rfl (yFb FL_80_1 e0) (yR rfl (lbs_ [.bool k,m.v] ST_31 e0 a R2) (yR rfl (yFb FL_80_0 e0) (yR rfl (lbs_ [.bool d,g.v] ST_31 e0 a R1) (Rn QSn ?_)))))))))))))
  refine Lc rfl ?_ (Lc1 rfl ?_)
  ·refine Lk wn (yCall FN_86 (a2 e0 e0)) (sparseref01_Mul_ok b2 a6 a7 a) ?_
   rintro _ w ⟨c1,rfl,a⟩
   refine ⟨_,rfl,?_⟩
   refine Dn [] [5,6,8,9,10,11,13,14] [7,17] (Rn (yS rfl (yFb FL_80_1 e0) (yS rfl (lbs_ [.bool q,r.v] ST_31 e0 a R2) (yS rfl (yFb FL_80_1 e0) (yS rfl (lbs_ [.bool j,l.v] ST_31 e0 a R4) (yS rfl (yFb FL_80_1 e0) (yS rfl (lbs_ [.bool k,m.v] ST_31 e0 a R3) (yS rfl (yFb FL_80_0 e0) (yS rfl (lbs_ [.bool d,g.v] ST_31 e0 a R2) QSn)))))))) ?_)
   refine Lc rfl ?_ (Lc1 rfl ?_)
   ·replace a:=a.fz
    refine Lk wn (yCall FN_86 (a2 e0 e0)) (sparseref01_Mul_ok S F0 (mtF R) a) ?_
    rintro _ w ⟨b3,rfl,a⟩
    refine ⟨_,rfl,?_⟩
    refine Dn [] [8,9,10,11,13,14] [12,17] (Rn (yS rfl (yFb FL_80_1 e0) (yS rfl (lbs_ [.bool j,l.v] ST_31 e0 a R4) (yS rfl (yFb FL_80_1 e0) (yS rfl (lbs_ [.bool k,m.v] ST_31 e0 a R3) (yS rfl (yFb FL_80_0 e0) (yS rfl (lbs_ [.bool d,g.v] ST_31 e0 a R2) QSn)))))) ?_)
    refine Lc rfl ?_ (Lc1 rfl ?_)
    ·refine Lk wn (yCall FN_86 (a2 e0 e0)) (sparseref01_Mul_ok L (mtF J) (mtF K) a) ?_
     rintro _ w ⟨U,rfl,a⟩
     refine ⟨_,rfl,?_⟩
     refine Dn [] [13,14] [15,17] (Rn (yS rfl (yFb FL_80_0 e0) (yS rfl (lbs_ [.bool d,g.v] ST_31 e0 a R3) QSn)) ?_)
     refine Lc rfl ?_ (Lc1 rfl ?_)
     ·replace a:=a.fz
      refine Lk wn (yCall FN_86 (a2 e0 e0)) (sparseref01_Mul_ok G F0 (F_2 F) a) ?_
      rintro _ w ⟨N,rfl,a⟩
      refine ⟨_,rfl,?_⟩
      refine Dn [] [] [16,17] (Rn QSn ?_)
      refine Lc rfl ?_ (Lc1 rfl ?_)
      ·replace a:=a.k17
       replace a:=a.fz.fz
       refine Lk wn (yCall FN_85 (a2 e0 e0)) (sparseref08_frac_ok x F1 F0 a) ?_
       rintro _ w ⟨h,i,rfl,a⟩
       refine ⟨_,rfl,?_⟩
       refine Dn [] [] [17] (Rn QSn ?_)
       refine Lc1 rfl ?_
       refine LB wn (rAl a ZT_80) fun I w a=>Dn [] [] [18] (Rn QSn ?_)
       refine Lc1 rfl ?_
       exact LT wn (r_stbn (vals':=[.bool b.1,h.v,.bool b.2.2.1,i.v]) (us:=[.bool b.1,h.v,.bool b.2.2.1,i.v]) a ST_80 e0 e0 rfl rfl (one_of rfl) rfl) fun w a=>Dz [] [] (Rn QSn (y _ _ ⟨_,_,_,rfl,rfl,rfl,((a.k2e).facts (allT (allT (allT (allT allI)))))⟩))
      ·refine LB wn (rAl a ZT_80) fun I w a=>Dn [] [] [16] (Rn QSn ?_)
       refine Lc1 rfl ?_
       replace a:=(((a.k1h).fz).k17).fz
       refine Lk wn (yCall FN_85 (a2 e0 e0)) (sparseref08_frac_ok x F1 F0 a) ?_
       rintro _ w ⟨h,i,rfl,a⟩
       refine ⟨_,rfl,?_⟩
       refine Dn [] [] [18] (Rn QSn ?_)
       refine Lc1 rfl ?_
       replace a:=a.k1h
       exact LT wn (r_stbn (vals':=[.bool b.1,h.v,.bool b.2.2.1,i.v]) (us:=[.bool b.1,h.v,.bool b.2.2.1,i.v]) a ST_80 e0 e0 rfl rfl (one_of rfl) rfl) fun w a=>Dz [] [] (Rn QSn (y _ _ ⟨_,_,_,rfl,rfl,rfl,((a.k2e).facts (allT (allT (allT (allT allI)))))⟩))
     ·refine LB wn (rAl a ZT_80) fun I w a=>Dn [] [13,14] [15] (Rn (yS rfl (yFb FL_80_0 e0) (yS rfl (lbs_ [.bool d,g.v] ST_31 e0 a R4) QSn)) ?_)
      refine Lc1 rfl ?_
      replace a:=(a.k17).fz
      refine Lk wn (yCall FN_86 (a2 e0 e0)) (sparseref01_Mul_ok G F0 (F_2 F) a) ?_
      rintro _ w ⟨N,rfl,a⟩
      refine ⟨_,rfl,?_⟩
      refine Dn [] [] [16] (Rn QSn ?_)
      refine Lc1 rfl ?_
      replace a:=((a.k1h).fz).fz
      refine Lk wn (yCall FN_85 (a2 e0 e0)) (sparseref08_frac_ok x F1 F0 a) ?_
      rintro _ w ⟨h,i,rfl,a⟩
      refine ⟨_,rfl,?_⟩
      refine Dn [] [] [18] (Rn QSn ?_)
      refine Lc1 rfl ?_
      replace a:=a.k1h
      exact LT wn (r_stbn (vals':=[.bool b.1,h.v,.bool b.2.2.1,i.v]) (us:=[.bool b.1,h.v,.bool b.2.2.1,i.v]) a ST_80 e0 e0 rfl rfl (one_of rfl) rfl) fun w a=>Dz [] [] (Rn QSn (y _ _ ⟨_,_,_,rfl,rfl,rfl,((a.k2e).facts (allT (allT (allT (allT allI)))))⟩))
    ·refine LB wn (rAl a ZT_80) fun I w a=>Dn [] [8,9,10,11,13,14] [12] (Rn (yS rfl (yFb FL_80_1 e0) (yS rfl (lbs_ [.bool j,l.v] ST_31 e0 a R5) (yS rfl (yFb FL_80_1 e0) (yS rfl (lbs_ [.bool k,m.v] ST_31 e0 a R4) (yS rfl (yFb FL_80_0 e0) (yS rfl (lbs_ [.bool d,g.v] ST_31 e0 a R3) QSn)))))) ?_)
     refine Lc1 rfl ?_
     refine Lk wn (yCall FN_86 (a2 e0 e0)) (sparseref01_Mul_ok L (mtF J) (mtF K) a) ?_
     rintro _ w ⟨U,rfl,a⟩
     refine ⟨_,rfl,?_⟩
     refine Dn [] [13,14] [15] (Rn (yS rfl (yFb FL_80_0 e0) (yS rfl (lbs_ [.bool d,g.v] ST_31 e0 a R4) QSn)) ?_)
     refine Lc1 rfl ?_
     replace a:=a.fz
     refine Lk wn (yCall FN_86 (a2 e0 e0)) (sparseref01_Mul_ok G F0 (F_2 F) a) ?_
     rintro _ w ⟨N,rfl,a⟩
     refine ⟨_,rfl,?_⟩
     refine Dn [] [] [16] (Rn QSn ?_)
     refine Lc1 rfl ?_
     replace a:=((a.k1h).fz).fz
     refine Lk wn (yCall FN_85 (a2 e0 e0)) (sparseref08_frac_ok x F1 F0 a) ?_
     rintro _ w ⟨h,i,rfl,a⟩
     refine ⟨_,rfl,?_⟩
     refine Dn [] [] [18] (Rn QSn ?_)
     refine Lc1 rfl ?_
     replace a:=a.k1h
     exact LT wn (r_stbn (vals':=[.bool b.1,h.v,.bool b.2.2.1,i.v]) (us:=[.bool b.1,h.v,.bool b.2.2.1,i.v]) a ST_80 e0 e0 rfl rfl (one_of rfl) rfl) fun w a=>Dz [] [] (Rn QSn (y _ _ ⟨_,_,_,rfl,rfl,rfl,((a.k2e).facts (allT (allT (allT (allT allI)))))⟩))
   ·refine LB wn (rAl a ZT_80) fun I w a=>Dn [] [5,6,8,9,10,11,13,14] [7] (Rn (yS rfl (yFb FL_80_1 e0) (yS rfl (lbs_ [.bool q,r.v] ST_31 e0 a R3) (yS rfl (yFb FL_80_1 e0) (yS rfl (lbs_ [.bool j,l.v] ST_31 e0 a R5) (yS rfl (yFb FL_80_1 e0) (yS rfl (lbs_ [.bool k,m.v] ST_31 e0 a R4) (yS rfl (yFb FL_80_0 e0) (yS rfl (lbs_ [.bool d,g.v] ST_31 e0 a R3) QSn)))))))) ?_)
    refine Lc1 rfl ?_
    replace a:=(a.k17).fz
    refine Lk wn (yCall FN_86 (a2 e0 e0)) (sparseref01_Mul_ok S F0 (mtF R) a) ?_
    rintro _ w ⟨b3,rfl,a⟩
    refine ⟨_,rfl,?_⟩
    refine Dn [] [8,9,10,11,13,14] [12] (Rn (yS rfl (yFb FL_80_1 e0) (yS rfl (lbs_ [.bool j,l.v] ST_31 e0 a R5) (yS rfl (yFb FL_80_1 e0) (yS rfl (lbs_ [.bool k,m.v] ST_31 e0 a R4) (yS rfl (yFb FL_80_0 e0) (yS rfl (lbs_ [.bool d,g.v] ST_31 e0 a R3) QSn)))))) ?_)
    refine Lc1 rfl ?_
    refine Lk wn (yCall FN_86 (a2 e0 e0)) (sparseref01_Mul_ok L (mtF J) (mtF K) a) ?_
    rintro _ w ⟨U,rfl,a⟩
    refine ⟨_,rfl,?_⟩
    refine Dn [] [13,14] [15] (Rn (yS rfl (yFb FL_80_0 e0) (yS rfl (lbs_ [.bool d,g.v] ST_31 e0 a R4) QSn)) ?_)
    refine Lc1 rfl ?_
    replace a:=a.fz
    refine Lk wn (yCall FN_86 (a2 e0 e0)) (sparseref01_Mul_ok G F0 (F_2 F) a) ?_
    rintro _ w ⟨N,rfl,a⟩
    refine ⟨_,rfl,?_⟩
    refine Dn [] [] [16] (Rn QSn ?_)
    refine Lc1 rfl ?_
    replace a:=((a.k17).fz).fz
    refine Lk wn (yCall FN_85 (a2 e0 e0)) (sparseref08_frac_ok x F1 F0 a) ?_
    rintro _ w ⟨h,i,rfl,a⟩
    refine ⟨_,rfl,?_⟩
    refine Dn [] [] [18] (Rn QSn ?_)
    refine Lc1 rfl ?_
    replace a:=a.k1h
    exact LT wn (r_stbn (vals':=[.bool b.1,h.v,.bool b.2.2.1,i.v]) (us:=[.bool b.1,h.v,.bool b.2.2.1,i.v]) a ST_80 e0 e0 rfl rfl (one_of rfl) rfl) fun w a=>Dz [] [] (Rn QSn (y _ _ ⟨_,_,_,rfl,rfl,rfl,((a.k2e).facts (allT (allT (allT (allT allI)))))⟩))
  ·refine LB wn (rAl a ZT_80) fun I w a=>Dn [] [0,1,2,3,5,6,8,9,10,11,13,14] [4] (Rn (yS rfl (yFb FL_80_0 e0) (yS rfl (lbs_ [.bool A,D.v] ST_31 e0 a R4) (yS rfl (yFb FL_80_0 e0) (yS rfl (lbs_ [.bool B,E.v] ST_31 e0 a R3) (yS rfl (yFb FL_80_1 e0) (yS rfl (lbs_ [.bool q,r.v] ST_31 e0 a R2) (yS rfl (yFb FL_80_1 e0) (yS rfl (lbs_ [.bool j,l.v] ST_31 e0 a R4) (yS rfl (yFb FL_80_1 e0) (yS rfl (lbs_ [.bool k,m.v] ST_31 e0 a R3) (yS rfl (yFb FL_80_0 e0) (yS rfl (lbs_ [.bool d,g.v] ST_31 e0 a R2) QSn)))))))))))) ?_)
   refine Lc1 rfl ?_
   refine Lk wn (yCall FN_86 (a2 e0 e0)) (sparseref01_Mul_ok b2 a6 a7 a) ?_
   rintro _ w ⟨c1,rfl,a⟩
   refine ⟨_,rfl,?_⟩
   refine Dn [] [5,6,8,9,10,11,13,14] [7] (Rn (yS rfl (yFb FL_80_1 e0) (yS rfl (lbs_ [.bool q,r.v] ST_31 e0 a R3) (yS rfl (yFb FL_80_1 e0) (yS rfl (lbs_ [.bool j,l.v] ST_31 e0 a R5) (yS rfl (yFb FL_80_1 e0) (yS rfl (lbs_ [.bool k,m.v] ST_31 e0 a R4) (yS rfl (yFb FL_80_0 e0) (yS rfl (lbs_ [.bool d,g.v] ST_31 e0 a R3) QSn)))))))) ?_)
   refine Lc1 rfl ?_
   replace a:=a.fz
   refine Lk wn (yCall FN_86 (a2 e0 e0)) (sparseref01_Mul_ok S F0 (mtF R) a) ?_
   rintro _ w ⟨b3,rfl,a⟩
   refine ⟨_,rfl,?_⟩
   refine Dn [] [8,9,10,11,13,14] [12] (Rn (yS rfl (yFb FL_80_1 e0) (yS rfl (lbs_ [.bool j,l.v] ST_31 e0 a R5) (yS rfl (yFb FL_80_1 e0) (yS rfl (lbs_ [.bool k,m.v] ST_31 e0 a R4) (yS rfl (yFb FL_80_0 e0) (yS rfl (lbs_ [.bool d,g.v] ST_31 e0 a R3) QSn)))))) ?_)
   refine Lc1 rfl ?_
   refine Lk wn (yCall FN_86 (a2 e0 e0)) (sparseref01_Mul_ok L (mtF J) (mtF K) a) ?_
   rintro _ w ⟨U,rfl,a⟩
   refine ⟨_,rfl,?_⟩
   refine Dn [] [13,14] [15] (Rn (yS rfl (yFb FL_80_0 e0) (yS rfl (lbs_ [.bool d,g.v] ST_31 e0 a R4) QSn)) ?_)
   refine Lc1 rfl ?_
   replace a:=a.fz
   refine Lk wn (yCall FN_86 (a2 e0 e0)) (sparseref01_Mul_ok G F0 (F_2 F) a) ?_
   rintro _ w ⟨N,rfl,a⟩
   refine ⟨_,rfl,?_⟩
   refine Dn [] [] [16] (Rn QSn ?_)
   refine Lc1 rfl ?_
   replace a:=((a.k17).fz).fz
   refine Lk wn (yCall FN_85 (a2 e0 e0)) (sparseref08_frac_ok x F1 F0 a) ?_
   rintro _ w ⟨h,i,rfl,a⟩
   refine ⟨_,rfl,?_⟩
   refine Dn [] [] [18] (Rn QSn ?_)
   refine Lc1 rfl ?_
   replace a:=a.k1h
   exact LT wn (r_stbn (vals':=[.bool b.1,h.v,.bool b.2.2.1,i.v]) (us:=[.bool b.1,h.v,.bool b.2.2.1,i.v]) a ST_80 e0 e0 rfl rfl (one_of rfl) rfl) fun w a=>Dz [] [] (Rn QSn (y _ _ ⟨_,_,_,rfl,rfl,rfl,((a.k2e).facts (allT (allT (allT (allT allI)))))⟩))
 rintro f w ⟨T,H,s,t,b4,u,a⟩
 refine c0 _ _ (sQ fun _ c2=>bE c fun d5 c3 c=>bE c fun d6 c4 c=>bE c fun d7 c5 c=>bE c fun d8 c6 c=>bE c fun O c7 c=>dR [0,1,0,4,15,0,32,0,128,511,1023,0,2048,0,8192,32767,65535,131071] [4,9,10,15,16,17] 6 folM ?_)
 replace a:=a.drew
 refine Dn [0,1,2,3,5,6,7,8,11,12,13,14] [] [4] (yR rfl (yFb FL_80_0 (eh t)) (yR rfl (lbs_ [.bool z,C.v] ST_31 e0 a R0) (yR rfl (yFb FL_80_1 (eh u)) (yR rfl (lbs_ [.bool b.2.2.1,s.v] ST_31 e0 a R4) (yR rfl (yFb FL_80_0 (eh u)) (yR rfl (lbs_ [.bool b.1,H.v] ST_31 e0 a R4) (yR rfl (yFb FL_80_1 (eh t)) (yR rfl (lbs_ [.bool o,p.v] ST_31 e0 a R0) (yR rfl (yFb FL_80_1 (eh t)) (yR rfl (lbs_ [.bool o,p.v] ST_31 e0 a R0) (yR rfl (yFb FL_80_1 (eh u)) (yR rfl (lbs_ [.bool b.2.2.1,s.v] ST_31 e0 a R4) (Rn QSn ?_)))))))))))))
 refine Lc1 rfl ?_
 replace a:=(a.k13).fz
 refine Lk wn (yCall FN_86 (a2 e0 e0)) (sparseref01_Mul_ok c3 (mtF b7) F0 a) ?_
 rintro _ w ⟨d9,rfl,a⟩
 refine ⟨_,rfl,?_⟩
 refine Dn [] [5,6,7,8,11,12,13,14] [9] (Rn (yS rfl (yFb FL_80_0 (eh u)) (yS rfl (lbs_ [.bool b.1,H.v] ST_31 e0 a R4) (yS rfl (yFb FL_80_1 (eh t)) (yS rfl (lbs_ [.bool o,p.v] ST_31 e0 a R1) (yS rfl (yFb FL_80_1 (eh t)) (yS rfl (lbs_ [.bool o,p.v] ST_31 e0 a R1) (yS rfl (yFb FL_80_1 (eh u)) (yS rfl (lbs_ [.bool b.2.2.1,s.v] ST_31 e0 a R4) QSn)))))))) ?_)
 refine Lc1 rfl ?_
 replace a:=(a.k13).fz
 refine Lk wn (yCall FN_86 (a2 e0 e0)) (sparseref01_Mul_ok c4 F0 (F_2 a5) a) ?_
 rintro _ w ⟨e1,rfl,a⟩
 refine ⟨_,rfl,?_⟩
 refine Dn [] [11,12,13,14] [10] (Rn (yS rfl (yFb FL_80_1 (eh t)) (yS rfl (lbs_ [.bool o,p.v] ST_31 e0 a R2) (yS rfl (yFb FL_80_1 (eh u)) (yS rfl (lbs_ [.bool b.2.2.1,s.v] ST_31 e0 a R4) QSn)))) ?_)
 refine Lc1 rfl ?_
 replace a:=((a.k17).fz).fz
 refine Lk wn (yCall FN_105 (a2 e0 e0)) (sparseref01_Sub_ok c5 F1 F0 a) ?_
 rintro _ w ⟨e2,rfl,a⟩
 refine ⟨_,rfl,?_⟩
 refine Dn [] [11,12,13,14] [15] (Rn (yS rfl (yFb FL_80_1 (eh t)) (yS rfl (lbs_ [.bool o,p.v] ST_31 e0 a R1) (yS rfl (yFb FL_80_1 (eh u)) (yS rfl (lbs_ [.bool b.2.2.1,s.v] ST_31 e0 a R3) QSn)))) ?_)
 refine Lc1 rfl ?_
 refine Lk wn (yCall FN_86 (a2 e0 e0)) (sparseref01_Mul_ok c6 (F_4 a5) F3 a) ?_
 rintro _ w ⟨e3,rfl,a⟩
 refine ⟨_,rfl,?_⟩
 refine Dn [] [] [16] (Rn QSn ?_)
 refine Lc1 rfl ?_
 replace a:=((a.k17).fz).fz
 refine Lk wn (yCall FN_85 (a2 e0 e0)) (sparseref08_frac_ok c7 F1 F0 a) ?_
 rintro _ w ⟨b5,b6,rfl,a⟩
 refine ⟨_,rfl,?_⟩
 refine Dn [] [] [17] (Rn QSn ?_)
 refine Lc1 rfl ?_
 replace a:=a.k13
 refine LT wn (r_stbn (vals':=[.bool O.1,b5.v,.bool O.2.2.1,b6.v]) (us:=[.bool O.1,b5.v,.bool O.2.2.1,b6.v]) a ST_80 (eh b4) e0 rfl rfl (one_of rfl) rfl) fun w a=>Dz [] [] (Rn QSn (c2 _ _ (wp_ret ?_)))
 cases c
 exact b8 _ _ _ (fin1r Tryz.results58 (rcs2 rfl b4 a R0 ST_80 rfl) ⟨_,_,rfl,((a.k2f).facts (allT (allT (allT (allT (allT (allT allI)))))))⟩)
theorem sparseref08_echelon_ok {i6:List (List (Bool×LI×Bool×LI))} {r:Int} {c:Hdr} {i7:List Hdr} {out:(List (List (Bool×LI×Bool×LI)))×LI×Bool×LI×Bool×LI} (g:sparseref08_echelon i6 r=some out) (b:St w0 ros (row 81 rH c.v i7::fam 80 (rP rB (rP (rS (rI .u32)) (rP rB (rS (rI .u32))))) i7 i6::rs) w):
  Calls Tryz.prog 83 #[c.v,iV r] w (fun e w=>∃ (i8:List Hdr) (i9 j0 j1:Hdr),e=.returned (.tuple #[i9.v,.agg #[.bool out.2.2.1,j0.v,.bool out.2.2.2.2.1,j1.v]])∧St w0 ros (row 81 rH c.v i8::fam 80 (rP rB (rP (rS (rI .u32)) (rP rB (rS (rI .u32))))) i8 out.1::row 3 I1 i9.v out.2.1::row 103 (rI .u32) j0.v out.2.2.2.1::row 103 (rI .u32) j1.v out.2.2.2.2.2::rs) w):=by
 refine enterQ Tryz.func83 rfl Tryz.ntmps83 rfl fun Q p2=>sR fun _ p3=>Ya hnil.v rfl (yBb (rAl b ZT_80) fun k w b=>wK p3 (sR fun _ p4=>bE g fun b4 p5 g=>yC (yCall FN_84 (a1 rfl)) (sparseref01_FromInt_ok p5 b) ?_))
 rintro _ w ⟨b6,rfl,b⟩
 refine ⟨_,rfl,?_⟩
 refine bE g fun b7 p6 g=>yC (yCall FN_84 (a1 rfl)) (sparseref01_FromInt_ok p6 b) ?_
 rintro _ w ⟨b8,rfl,b⟩
 refine ⟨_,rfl,?_⟩
 refine yY (ybuild (us:=[.bool b4.1,b6.v,.bool b7.1,b8.v]) [(0,.agg #[.bool b4.1,b6.v]),(1,.agg #[.bool b7.1,b8.v])] SO_80 (bp2 e0 e0) rfl) (yBb (rAl b ZT_80) fun m w b=>yT (r_stbn (vals':=[.bool b4.1,b6.v,.bool b7.1,b8.v]) (us:=[.bool b4.1,b6.v,.bool b7.1,b8.v]) b ST_80 e0 e0 rfl rfl (one_of rfl) rfl) fun w b=>wK p4 (sR fun _ p7=>Ya hnil.v rfl (wK p7 (sQ fun _ p8=>sQ fun _ p9=>?_))))
 refine wR (Ya (iV 0) rfl (wK p9 (blockQ fun q0 q1=>bE g fun q2 q3 g=>?_)))
 have q4:∀ (d8:List (List (Bool×LI×Bool×LI))) (L:Bool) (d9:LI) (N:Bool) (e1:LI) (e2:LI) (e3:List Hdr) (O:Hdr) (R:Hdr) (a9:Hdr) (f:FV) w,f 5=(pB k)→f 6=(pB m)→f 7=a9.v→St w0 ros (row 81 rH c.v e3::fam 80 (rP rB (rP (rS (rI .u32)) (rP rB (rS (rI .u32))))) e3 d8::box k 80 [.bool false,hnil.v,.bool false,hnil.v]::row 103 (rI .u32) O.v d9::row 103 (rI .u32) R.v e1::box m 80 [.bool L,O.v,.bool N,R.v]::row 3 I1 a9.v e2::rs) w→(d8,L,d9,N,e1,e2)=q2→q0 (.exit 0) (fr 145 f) w:=by
  intro d8 L d9 N e1 e2 e3 O R a9 f w j2 j3 q5 b ho
  subst ho
  refine q1 _ _ _ (p8 _ _ (sQ fun _ q6=>dR [0,0,1,7] [2,3] 2 folM ?_))
  replace b:=b.drew
  refine Dn [0,1] [] [2] (yR rfl (m_ a9.v (eh q5)) (yR rfl (lbs_ [.bool L,O.v,.bool N,R.v] ST_80 (eh j3) b R5) (Rn QSn ?_)))
  refine Lc1 rfl ?_
  refine Ly wn (a_ a9.v e0) (Dn [] [1] [3] (Rn (yS rfl (lbs_ [.bool L,O.v,.bool N,R.v] ST_80 (eh j3) b R5) QSn) ?_))
  refine Lc1 rfl ?_
  replace b:=b.k1h
  refine LT wn (r_stbn (vals':=[.bool L,O.v,.bool N,R.v]) (us:=[.bool L,O.v,.bool N,R.v]) b ST_80 (eh j2) e0 rfl rfl (one_of rfl) rfl) fun w b=>Dz [] [] (Rn QSn (q6 _ _ (wp_ret ?_)))
  cases g
  exact p2 _ _ _ (fin2r Tryz.results83 ⟨rfl,rfl⟩ (rcs2 rfl j2 b R0 ST_80 rfl) ⟨_,_,_,_,rfl,(b.k2g)⟩)
 replace b:=b.rowNh 3 I1
 refine loopQ (fun s a w=>∃ (S:List (List (Bool×LI×Bool×LI))) (T:Bool) (a0:LI) (z:Bool) (K:LI) (d:LI) (h:Int) (f:FV) (H:List Hdr) (D:Hdr) (t:Hdr) (o:Hdr),(S,T,a0,z,K,d,h)=s∧a=fr 145 f∧f 0=c.v∧f 1=iV r∧f 5=(pB k)∧f 6=(pB m)∧f 7=o.v∧f 8=iV h∧St w0 ros (row 81 rH c.v H::fam 80 (rP rB (rP (rS (rI .u32)) (rP rB (rS (rI .u32))))) H S::box k 80 [.bool false,hnil.v,.bool false,hnil.v]::row 103 (rI .u32) D.v a0::row 103 (rI .u32) t.v K::box m 80 [.bool T,D.v,.bool z,t.v]::row 3 I1 o.v d::rs) w) q3 ⟨_,_,_,_,_,_,_,_,_,_,_,_,rfl,rfl,rfl,rfl,rfl,rfl,rfl,rfl,(b.k2h)⟩ ?_
 rintro _ _ w j4 ⟨S,T,a0,z,K,d,h,f,H,D,t,o,rfl,rfl,q7,j5,j6,j7,e4,j8,b⟩ i q8 C6 q9 r0
 refine seqQ fun C7 r1 r2=>sR fun _ r3=>Ym (iV h) (eh j8) (Ym (iV r) (eh j5) (yY (ylss e0 e0) (wK r3 ?_)))
 refine cIf e0 i (fun r4 i=>?_) fun r4 i=>?_
 ·refine wp_skip (r1 _ _ (sQ fun r5 r7=>?_))
  have j9:∀ (e5:List (List (Bool×LI×Bool×LI))) (e6:Bool) (e7:LI) (e8:Bool) (e9:LI) (f0:LI) (f1:List Hdr) (f2:Hdr) (f3:Hdr) (f4:Hdr) (f:FV) w,f 0=c.v→f 1=iV r→f 5=(pB k)→f 6=(pB m)→f 7=f4.v→f 8=iV h→St w0 ros (row 81 rH c.v f1::fam 80 (rP rB (rP (rS (rI .u32)) (rP rB (rS (rI .u32))))) f1 e5::box k 80 [.bool false,hnil.v,.bool false,hnil.v]::row 103 (rI .u32) f2.v e7::row 103 (rI .u32) f3.v e9::box m 80 [.bool e6,f2.v,.bool e8,f3.v]::row 3 I1 f4.v f0::rs) w→sparseref08_echelon_j76 h e5 e6 e7 e8 e9 f0=some j4→r5 .normal (fr 145 f) w:=by
   intro e5 e6 e7 e8 e9 f0 f1 f2 f3 f4 f w r9 s0 s1 s2 s3 s4 b g
   refine r7 _ _ (wR (Ym (iV h) (eh s4) (yY (yadd e0 rfl) (Ya (iV (wa .i64 h 1)) e0 (wN ?_)))))
   cases g
   exact q9 _ _ _ rfl ⟨_,_,_,_,_,_,_,_,_,_,_,_,rfl,rfl,r9,s0,s1,s2,s3,rfl,b⟩
  refine blockQ fun _ k0=>sR fun _ s5=>Ym o.v (eh e4) (yY (yLen SL_48 e0 b rO6) (Ya (iV (d.length:Int)) e0 (wK s5 (sR fun _ s6=>Ym (iV (d.length:Int)) e0 (Ya (iV (d.length:Int)) e0 (wK s6 ?_))))))
  refine sQ fun _ s7=>blockQ fun s8 s9=>bE i fun t0 t1 i=>?_
  have t2:∀ (U:Int) (f:FV) w,f 0=c.v→f 1=iV r→f 5=(pB k)→f 6=(pB m)→f 7=o.v→f 8=iV h→f 9=iV (d.length:Int)→f 10=iV U→St w0 ros (row 81 rH c.v H::fam 80 (rP rB (rP (rS (rI .u32)) (rP rB (rS (rI .u32))))) H S::box k 80 [.bool false,hnil.v,.bool false,hnil.v]::row 103 (rI .u32) D.v a0::row 103 (rI .u32) t.v K::box m 80 [.bool T,D.v,.bool z,t.v]::row 3 I1 o.v d::rs) w→U=t0→s8 (.exit 2) (fr 145 f) w:=by
   intro U f w I f5 f6 b0 f7 f8 a3 b9 b ho
   subst ho
   refine s9 _ _ _ (s7 _ _ (seqQ fun C8 t3 t4=>sR fun _ t5=>Ym (iV U) (eh b9) (Ym c.v (eh I) (yY (yLenF SLH_75 e0 b rO0 R1) (yY (yeql e0 e0) (wK t5 ?_))))))
   refine cIf e0 i (fun t6 i=>?_) fun t6 i=>?_
   ·exact wp_exit (t4 _ _ _ rfl (k0 _ _ _ (j9 _ _ _ _ _ _ _ _ _ _ _ _ I f5 f6 b0 f7 f8 b i)))
   ·refine wp_skip (t3 _ _ (sQ fun t7 t8=>sR fun _ t9=>Ym (iV U) (eh b9) (Ym (iV (d.length:Int)) (eh a3) (yY (yneq e0 e0) (wK t9 ?_)))))
    have k6:∀ (f9:List (List (Bool×LI×Bool×LI))) (c0:Bool) (g0:LI) (A:List Hdr) (c1:Hdr) (f:FV) w,f 0=c.v→f 1=iV r→f 5=(pB k)→f 6=(pB m)→f 7=o.v→f 8=iV h→f 9=iV (d.length:Int)→St w0 ros (row 81 rH c.v A::fam 80 (rP rB (rP (rS (rI .u32)) (rP rB (rS (rI .u32))))) A f9::box k 80 [.bool false,hnil.v,.bool false,hnil.v]::row 103 (rI .u32) c1.v g0::row 103 (rI .u32) t.v K::box m 80 [.bool c0,c1.v,.bool z,t.v]::row 3 I1 o.v d::rs) w→sparseref08_echelon_j80 d h z K r f9 c0 g0=some j4→t7 .normal (fr 145 f) w:=by
     intro f9 c0 g0 A c1 f w c2 u0 u1 b1 u2 c3 b2 b g
     refine t8 _ _ (sQ fun _ u3=>bE g fun C9 g1 g=>bE g fun g2 k7 g=>bE g fun D0 u4 g=>bE g fun D1 c4 g=>bE g fun a5 g3 g=>bE g fun D2 u5 g=>bE g fun p u6 g=>dR [0,1,0,0,12,28,0,124,252,508,1023,0,2048,0,0,24576,57344,0,253952,516096,1040384,2097151,4194303,8388607] [10,21,22,23] 4 folM ?_)
     replace b:=b.drew
     refine Dn [0,1,2,3,4,5,6,7,8,9,11,12,13,14,15,16,17,18,19,20] [] [10] (yR rfl (yFb FL_80_0 (eh b1)) (yR rfl (lbs_ [.bool c0,c1.v] ST_31 e0 b R5) (yR rfl (m_ c.v (eh c2)) (yR rfl (m_ (iV (d.length:Int)) (eh b2)) ?_))))
     obtain ⟨D3,c5⟩:=b.famI R1 g1
     refine yR rfl (yIa SLH_75 e0 e0 b rO0 c5) (yR rfl (yF1 O_81 e0 b rO0 c5 rfl) (yR rfl (m_ (iV h) (eh c3)) (yR rfl (yIa SL_81 e0 e0 b (rdF R1 c5 g1) k7) (yR rfl (yFe FL_80_0 e0) ?_))))
     obtain ⟨D4,D5,cc5068,b⟩:=b.ld (rdF R1 c5 g1) k7
     replace b:=b.eltP
     obtain ⟨D6,D7,rfl,b⟩:=b
     replace b:=b.eltB
     obtain ⟨rfl,b⟩:=b
     replace b:=b.eltP
     obtain ⟨D8,D9,rfl,b⟩:=b
     replace b:=b.eltS
     obtain ⟨k8,rfl,b⟩:=b
     replace b:=b.swf.eltP
     obtain ⟨E0,E1,rfl,b⟩:=b
     replace b:=b.eltB
     obtain ⟨rfl,b⟩:=b
     replace b:=b.eltS
     obtain ⟨u7,rfl,b⟩:=b
     refine yR rfl (yCfn (cs:=[.bool g2.1,k8.v,.bool g2.2.2.1,u7.v]) (us:=[.bool g2.1,k8.v]) ST_31 e0 cc5068 rfl rfl) (yR rfl (yFb FL_80_1 (eh b1)) (yR rfl (lbs_ [.bool z,t.v] ST_31 e0 b R5) (yR rfl (m_ c.v (eh c2)) (yR rfl (m_ (iV (d.length:Int)) (eh b2)) ?_))))
     obtain ⟨E2,V⟩:=b.famI R1 c4
     refine yR rfl (yIa SLH_75 e0 e0 b rO0 V) (yR rfl (yF1 O_81 e0 b rO0 V rfl) (yR rfl (m_ (iV h) (eh c3)) (yR rfl (yIa SL_81 e0 e0 b (rdF R1 V c4) g3) (yR rfl (yFe FL_80_1 e0) ?_))))
     replace b:=(b.k17).pin0
     obtain ⟨E3,b⟩:=St.pinF V c4 b g3
     obtain ⟨E4,E5,rfl,b⟩:=b.eltP
     obtain ⟨rfl,b⟩:=b.eltB
     obtain ⟨E6,E7,rfl,b⟩:=b.eltP
     obtain ⟨k9,rfl,b⟩:=b.eltS
     replace b:=b.swf
     obtain ⟨E8,E9,rfl,b⟩:=b.eltP
     obtain ⟨rfl,b⟩:=b.eltB
     obtain ⟨c6,rfl,b⟩:=b.eltS
     refine yR rfl (yCfn (cs:=[.bool a5.1,k9.v,.bool a5.2.2.1,c6.v]) (us:=[.bool a5.2.2.1,c6.v]) ST_31 e0 (b.cAtP R0 mhP) rfl rfl) (Rn QSn ?_)
     refine Lc1 rfl ?_
     replace b:=(b.k13).fz
     refine Lk wn (yCall FN_86 (a2 e0 e0)) (sparseref01_Mul_ok u4 F0 F4 b) ?_
     rintro _ w ⟨G0,rfl,b⟩
     refine ⟨_,rfl,?_⟩
     refine Dn [] [11,12,13,14,15,16,17,18,19,20] [21] (Rn (yS rfl (yFb FL_80_1 (eh b1)) (yS rfl (lbs_ [.bool z,t.v] ST_31 e0 b R5) (yS rfl (m_ c.v (eh c2)) (yS rfl (m_ (iV (d.length:Int)) (eh b2)) (yS rfl (yIa SLH_75 e0 e0 b rO2 V) (yS rfl (yF1 O_81 e0 b rO2 V rfl) (yS rfl (m_ (iV h) (eh c3)) (yS rfl (yIa SL_81 e0 e0 b (rdFP R1 V c4) g3) (yS rfl (yFe FL_80_1 e0) (yS rfl (yCfn (cs:=[.bool a5.1,k9.v,.bool a5.2.2.1,c6.v]) (us:=[.bool a5.2.2.1,c6.v]) ST_31 e0 (b.cAtP R1 mhP) rfl rfl) QSn)))))))))) ?_)
     refine Lc1 rfl ?_
     replace b:=(b.k14).fz
     refine Lk wn (yCall FN_86 (a2 e0 e0)) (sparseref01_Mul_ok u5 F0 F2 b) ?_
     rintro _ w ⟨G1,rfl,b⟩
     refine ⟨_,rfl,?_⟩
     refine Dn [] [] [22] (Rn QSn ?_)
     refine Lc1 rfl ?_
     replace b:=((b.k17).fz).fz
     refine Lk wn (yCall FN_85 (a2 e0 e0)) (sparseref08_frac_ok u6 F1 F0 b) ?_
     rintro _ w ⟨E,F,rfl,b⟩
     refine ⟨_,rfl,?_⟩
     refine Dn [] [] [23] (Rn QSn ?_)
     refine Lc1 rfl ?_
     replace b:=b.k22
     refine LT wn (r_stbn (vals':=[.bool p.1,E.v,.bool p.2.2.1,F.v]) (us:=[.bool p.1,E.v,.bool p.2.2.1,F.v]) b ST_80 (eh b1) e0 rfl rfl (one_of rfl) rfl) fun w b=>Dz [] [] (Rn QSn ?_)
     replace b:=(b.k13).unpin
     refine u3 _ _ (sQ fun _ u8=>sR fun _ u9=>Ym (iV (d.length:Int)) (eh b2) (yY (yadd e0 rfl) (Ya (iV (wa .i64 (d.length:Int) 1)) e0 (wK u9 (blockQ fun v0 v1=>bE g fun v2 v3 g=>?_)))))
     have v4:∀ (g4:List (List (Bool×LI×Bool×LI))) (f:FV) w,f 0=c.v→f 1=iV r→f 5=(pB k)→f 6=(pB m)→f 7=o.v→f 8=iV h→St w0 ros (row 81 rH c.v A::fam 80 (rP rB (rP (rS (rI .u32)) (rP rB (rS (rI .u32))))) A g4::box k 80 [.bool false,hnil.v,.bool false,hnil.v]::row 103 (rI .u32) E.v p.2.1::row 103 (rI .u32) F.v p.2.2.2::box m 80 [.bool p.1,E.v,.bool p.2.2.1,F.v]::row 3 I1 o.v d::rs) w→g4=v2→v0 (.exit 4) (fr 145 f) w:=by
      intro g4 f w v5 v6 v7 v8 v9 l0 b ho
      subst ho
      exact v1 _ _ _ (u8 _ _ (wR (Ym o.v (eh v9) (Ym (iV h) (eh l0) (yH (rLt (n:=1) (l:=[h]) b SL_48 [iV h] (bp1 e0) rfl rfl (mks1 (cs:=[iV h]) rfl mkI mks0)) fun G2 w b=>bE g fun G3 w1 g=>yH (rAp (b.k2i) SL_48 e0 e0 rO1 w1) fun w2 w b=>Ya w2.v e0 (wN (k0 _ _ _ (j9 _ _ _ _ _ _ _ _ _ _ _ _ v5 v6 v7 v8 rfl l0 (b.k2j) g))))))))
     refine loopQ (fun s a w=>∃ (g5:List (List (Bool×LI×Bool×LI))) (x:Int) (f:FV),(g5,x)=s∧a=fr 145 f∧f 0=c.v∧f 1=iV r∧f 5=(pB k)∧f 6=(pB m)∧f 7=o.v∧f 8=iV h∧f 9=iV (d.length:Int)∧f 11=iV x∧St w0 ros (row 81 rH c.v A::fam 80 (rP rB (rP (rS (rI .u32)) (rP rB (rS (rI .u32))))) A g5::box k 80 [.bool false,hnil.v,.bool false,hnil.v]::row 103 (rI .u32) E.v p.2.1::row 103 (rI .u32) F.v p.2.2.2::box m 80 [.bool p.1,E.v,.bool p.2.2.1,F.v]::row 3 I1 o.v d::rs) w) v3 ⟨_,_,_,rfl,rfl,c2,u0,u1,b1,u2,c3,b2,rfl,((b.k2k).facts (allT (allT (allT (allT (allT (allT (allT (allT allI)))))))))⟩ ?_
     rintro _ _ w G4 ⟨g5,x,f,rfl,rfl,c7,l1,l2,l3,l4,c8,w3,g6,b⟩ B w4 G5 w5 w6
     refine seqQ fun G6 w7 w8=>sR fun _ w9=>Ym (iV x) (eh g6) (Ym c.v (eh c7) (yY (yLenF SLH_75 e0 b rO0 R1) (yY (ylss e0 e0) (wK w9 ?_))))
     refine cIf e0 B (fun x0 B=>?_) fun x0 B=>?_
     ·refine wp_skip (w7 _ _ (sQ fun _ x2=>blockQ fun _ x3=>sR fun _ x5=>Ym c.v (eh c7) (Ym (iV x) (eh g6) (bE B fun G7 g7 B=>?_))))
      obtain ⟨G8,c9⟩:=b.famI R1 g7
      refine yY (yIa SLH_75 e0 e0 b rO0 c9) (yY (yF1 O_81 e0 b rO0 c9 rfl) (Ym (iV h) (eh c8) (bE B fun y l5 B=>yY (yIa SL_81 e0 e0 b (rdF R1 c9 g7) l5) ?_)))
      obtain ⟨G9,H0,cc5398,b⟩:=b.ld (rdF R1 c9 g7) l5
      replace b:=b.eltP
      obtain ⟨H1,H2,rfl,b⟩:=b
      replace b:=b.eltB
      obtain ⟨rfl,b⟩:=b
      replace b:=b.eltP
      obtain ⟨H3,H4,rfl,b⟩:=b
      replace b:=b.eltS
      obtain ⟨a6,rfl,b⟩:=b
      replace b:=b.swf.eltP
      obtain ⟨H5,H6,rfl,b⟩:=b
      replace b:=b.eltB
      obtain ⟨rfl,b⟩:=b
      replace b:=b.eltS
      obtain ⟨a7,rfl,b⟩:=b
      refine yY (yCn (cs:=[.bool y.1,a6.v,.bool y.2.2.1,a7.v]) ST_80 rfl e0 cc5398) (yBb (rAl b ZT_80) fun l6 w b=>yT (r_stbn (vals':=[.bool y.1,a6.v,.bool y.2.2.1,a7.v]) (us:=[.bool y.1,a6.v,.bool y.2.2.1,a7.v]) b ST_80 e0 e0 rfl rfl (one_of rfl) rfl) fun w b=>wK x5 (sR fun _ x6=>Ym (iV h) (eh c8) (Ya (iV h) e0 (wK x6 (blockQ fun x7 x8=>?_)))))
      refine bE B fun x9 y0 B=>?_
      have y1:∀ (g8:List (List (Bool×LI×Bool×LI))) (f:FV) w,f 0=c.v→f 1=iV r→f 5=(pB k)→f 6=(pB m)→f 7=o.v→f 8=iV h→f 9=iV (d.length:Int)→f 11=iV x→St w0 ros (row 81 rH c.v A::fam 80 (rP rB (rP (rS (rI .u32)) (rP rB (rS (rI .u32))))) A g8::box k 80 [.bool false,hnil.v,.bool false,hnil.v]::row 103 (rI .u32) E.v p.2.1::row 103 (rI .u32) F.v p.2.2.2::box m 80 [.bool p.1,E.v,.bool p.2.2.1,F.v]::row 3 I1 o.v d::rs) w→g8=x9→x7 (.exit 6) (fr 145 f) w:=by
       intro g8 f w y2 y4 y5 y6 y7 y8 y9 z0 b ho
       subst ho
       refine x8 _ _ _ (x3 _ _ _ (x2 _ _ (wR (Ym (iV x) (eh z0) (yY (yadd e0 rfl) (Ya (iV (wa .i64 x 1)) e0 (wN ?_)))))))
       cases B
       exact w5 _ _ _ rfl ⟨_,_,_,rfl,rfl,y2,y4,y5,y6,y7,y8,y9,rfl,b⟩
      refine loopQ (fun s a w=>∃ (g9:List (List (Bool×LI×Bool×LI))) (G:Int) (f:FV),(g9,G)=s∧a=fr 145 f∧f 0=c.v∧f 1=iV r∧f 5=(pB k)∧f 6=(pB m)∧f 7=o.v∧f 8=iV h∧f 9=iV (d.length:Int)∧f 11=iV x∧f 12=(pB l6)∧f 13=iV G∧St w0 (imm (rI .u32) a6.v y.2.1::imm (rI .u32) a7.v y.2.2.2::ros) (row 81 rH c.v A::fam 80 (rP rB (rP (rS (rI .u32)) (rP rB (rS (rI .u32))))) A g9::box k 80 [.bool false,hnil.v,.bool false,hnil.v]::row 103 (rI .u32) E.v p.2.1::row 103 (rI .u32) F.v p.2.2.2::box m 80 [.bool p.1,E.v,.bool p.2.2.1,F.v]::row 3 I1 o.v d::box l6 80 [.bool y.1,a6.v,.bool y.2.2.1,a7.v]::rs) w) y0 ⟨_,_,_,rfl,rfl,c7,l1,l2,l3,l4,c8,w3,g6,rfl,rfl,((b.k2l).facts (allC F1 (allC F0 (allT (allT allI)))))⟩ ?_
      rintro _ _ w H7 ⟨g9,G,f,rfl,rfl,W,h0,l7,l8,l9,h1,d0,b3,m0,a8,b⟩ j z1 H8 z2 z3
      refine seqQ fun H9 z4 z5=>sR fun _ z6=>Ym (iV G) (eh a8) (Ym (iV r) (eh h0) (yY (ylss e0 e0) (wK z6 ?_)))
      refine cIf e0 j (fun z7 j=>?_) fun z7 j=>?_
      ·refine wp_skip (z4 _ _ (sQ fun _ z8=>blockQ fun _ z9=>bE j fun I0 h3 j=>bE j fun I2 h4 j=>bE j fun m1 m2 j=>bE j fun I3 h5 j=>bE j fun m3 m4 j=>bE j fun I4 h6 j=>bE j fun m5 m6 j=>bE j fun m7 A0 j=>bE j fun I5 m8 j=>bE j fun I6 A1 j=>?_))
       refine dR [0,0,3,7,0,0,0,96,224,0,992,2016,0,0,0,24576,57344,0,253952,516096,0,0,3145728,7340032,0,32505856,66060288,134217696,268435455,536870911] [27,29] 2 folM ?_
       replace b:=b.drew
       refine Dn [0,1,2,3,4,5,6,7,8,9,10,11,12,13,14,15,16,17,18,19,20,21,22,23,24,25,26] [] [27] (yR rfl (m_ c.v (eh W)) (yR rfl (m_ (iV x) (eh b3)) ?_))
       obtain ⟨I7,X⟩:=b.famI R1 h3
       refine yR rfl (yIa SLH_75 e0 e0 b rO0 X) (yR rfl (yF1 O_81 e0 b rO0 X rfl) (yR rfl (m_ (iV G) (eh a8)) (yR rfl (m_ c.v (eh W)) (yR rfl (m_ (iV x) (eh b3)) ?_))))
       obtain ⟨I8,d1⟩:=b.famI R1 h4
       refine yR rfl (yIa SLH_75 e0 e0 b rO0 d1) (yR rfl (yF1 O_81 e0 b rO0 d1 rfl) (yR rfl (m_ (iV G) (eh a8)) (yR rfl (yIa SL_81 e0 e0 b (rdF R1 d1 h4) m2) ?_)))
       obtain ⟨I9,J0,cc5522,b⟩:=b.ld (rdF R1 d1 h4) m2
       replace b:=b.eltP
       obtain ⟨J1,J2,rfl,b⟩:=b
       replace b:=b.eltB
       obtain ⟨rfl,b⟩:=b
       replace b:=b.eltP
       obtain ⟨J3,J4,rfl,b⟩:=b
       replace b:=b.eltS
       obtain ⟨A2,rfl,b⟩:=b
       replace b:=b.swf.eltP
       obtain ⟨J5,J6,rfl,b⟩:=b
       replace b:=b.eltB
       obtain ⟨rfl,b⟩:=b
       replace b:=b.eltS
       obtain ⟨A3,rfl,b⟩:=b
       refine yR rfl (yCn (cs:=[.bool m1.1,A2.v,.bool m1.2.2.1,A3.v]) ST_80 rfl e0 cc5522) (yR rfl (lbs_ [.bool y.1,a6.v,.bool y.2.2.1,a7.v] ST_80 (eh m0) b R7) (yR rfl (m_ c.v (eh W)) (yR rfl (m_ (iV (d.length:Int)) (eh d0)) ?_)))
       obtain ⟨J7,d2⟩:=b.famI R1 h5
       refine yR rfl (yIa SLH_75 e0 e0 b rO0 d2) (yR rfl (yF1 O_81 e0 b rO0 d2 rfl) (yR rfl (m_ (iV G) (eh a8)) (yR rfl (yIa SL_81 e0 e0 b (rdF R1 d2 h5) m4) ?_)))
       obtain ⟨J8,J9,cc5529,b⟩:=b.ld (rdF R1 d2 h5) m4
       replace b:=b.eltP
       obtain ⟨K0,K1,rfl,b⟩:=b
       replace b:=b.eltB
       obtain ⟨rfl,b⟩:=b
       replace b:=b.eltP
       obtain ⟨K2,K3,rfl,b⟩:=b
       replace b:=b.eltS
       obtain ⟨A4,rfl,b⟩:=b
       replace b:=b.swf.eltP
       obtain ⟨K4,K5,rfl,b⟩:=b
       replace b:=b.eltB
       obtain ⟨rfl,b⟩:=b
       replace b:=b.eltS
       obtain ⟨A5,rfl,b⟩:=b
       refine yR rfl (yCn (cs:=[.bool m3.1,A4.v,.bool m3.2.2.1,A5.v]) ST_80 rfl e0 cc5529) (yR rfl (m_ c.v (eh W)) (yR rfl (m_ (iV (d.length:Int)) (eh d0)) ?_))
       obtain ⟨K6,d3⟩:=b.famI R1 h6
       refine yR rfl (yIa SLH_75 e0 e0 b rO0 d3) (yR rfl (yF1 O_81 e0 b rO0 d3 rfl) (yR rfl (m_ (iV h) (eh h1)) (yR rfl (yIa SL_81 e0 e0 b (rdF R1 d3 h6) m6) ?_)))
       obtain ⟨K7,K8,cc5536,b⟩:=b.ld (rdF R1 d3 h6) m6
       replace b:=b.eltP
       obtain ⟨K9,L0,rfl,b⟩:=b
       replace b:=b.eltB
       obtain ⟨rfl,b⟩:=b
       replace b:=b.eltP
       obtain ⟨L1,L3,rfl,b⟩:=b
       replace b:=b.eltS
       obtain ⟨A6,rfl,b⟩:=b
       replace b:=b.swf.eltP
       obtain ⟨L4,L5,rfl,b⟩:=b
       replace b:=b.eltB
       obtain ⟨rfl,b⟩:=b
       replace b:=b.eltS
       obtain ⟨A7,rfl,b⟩:=b
       refine yR rfl (yCn (cs:=[.bool m5.1,A6.v,.bool m5.2.2.1,A7.v]) ST_80 rfl e0 cc5536) (Rn QSn ?_)
       refine Lc1 rfl ?_
       refine Lk wn (yCall FN_58 (a4 e0 e0 e0 e0)) (sparseref08_minus_ok A0 F5 F4 F6 F7 F3 F2 F1 F0 b) ?_
       rintro _ w ⟨A8,A9,rfl,b⟩
       refine ⟨_,rfl,?_⟩
       refine Dn [28] [0,1,2,3,4] [29] (yR rfl (yIs SL_81 e0 e0 b (rdF R3 X h3) m8) (Rn (yS rfl (m_ c.v (eh W)) (yS rfl (m_ (iV x) (eh b3)) (yS rfl (yIa SLH_75 e0 e0 b rO2 X) (yS rfl (yF1 O_81 e0 b rO2 X rfl) (yS rfl (m_ (iV G) (eh a8)) QSn))))) ?_))
       refine Lc1 rfl ?_
       replace b:=(b.fz.fz).k17
       refine LT wn (r_stn (cs:=[.bool m7.1,A8.v,.bool m7.2.2.1,A9.v]) (b.foc X h3) ST_80 e0 e0 rfl (mkP mkB (mkP (mkS F1) (mkP mkB (mkS F0)))) m8) fun w b=>?_
       replace b:=b.unfoc' X A1
       refine Dz [] [] (Rn QSn (z9 _ _ _ (z8 _ _ (wR (Ym (iV G) (eh a8) (yY (yadd e0 rfl) (Ya (iV (wa .i64 G 1)) e0 (wN ?_))))))))
       cases j
       exact z2 _ _ _ rfl ⟨_,_,_,rfl,rfl,W,h0,l7,l8,l9,h1,d0,b3,m0,rfl,((b.k2m).facts (allC F8 (allC F9 (allT (allT (allT (allT (allT (allT (allT (allT (allT (allT allI)))))))))))))⟩
      ·refine wp_exit (z5 _ _ _ rfl ?_)
       cases j
       exact z3 _ _ _ _ rfl rfl (y1 _ _ _ W h0 l7 l8 l9 h1 d0 b3 ((b.k2n).facts (allT (allT allI))) (z1 _ rfl))
     ·refine wp_exit (w8 _ _ _ rfl ?_)
      cases B
      exact w6 _ _ _ _ rfl rfl (v4 _ _ _ c7 l1 l2 l3 l4 c8 b (w4 _ rfl))
    rcases iteS i with ⟨h8,i⟩ | ⟨h8,i⟩
    ·exact condF e0 (nF (dT h8)) (wp_skip (k6 _ _ _ _ _ _ _ I f5 f6 b0 f7 f8 a3 b i))
    ·refine condT e0 (nT (dF h8)) (sQ fun _ B0=>bE i fun L6 m9 i=>bE i fun L7 n0 i=>bE i fun L8 i0 i=>bE i fun L9 n1 i=>dR [0,0,0,0,0,0,48,112,0,0,768,1792,4083,8179,16383,32767] [13,15] 2 folM ?_)
     replace b:=b.drew
     refine Dn [0,1,2,3,4,5,6,7,8,9,10,11,12] [] [13] (yR rfl (m_ c.v (eh I)) (yR rfl (m_ (iV U) (eh b9)) (yR rfl (m_ c.v (eh I)) (yR rfl (m_ (iV (d.length:Int)) (eh a3)) (yR rfl (m_ c.v (eh I)) (yR rfl (m_ (iV (d.length:Int)) (eh a3)) ?_))))))
     obtain ⟨n2,i1⟩:=b.famI R1 m9
     refine yR rfl (yIa SLH_75 e0 e0 b rO0 i1) (yR rfl (yF1 O_81 e0 b rO0 i1 rfl) (yR rfl (m_ c.v (eh I)) (yR rfl (m_ (iV U) (eh b9)) ?_)))
     obtain ⟨n3,i2⟩:=b.famI R1 n0
     refine yR rfl (yIa SLH_75 e0 e0 b rO0 i2) (yR rfl (yF1 O_81 e0 b rO0 i2 rfl) ?_)
     obtain ⟨M0,d4⟩:=setI_len (u:=n2) i0 (b.famL (mtR mhR))
     refine yR rfl (yIs SLH_75 e0 e0 b rO0 d4) (Rn QSn ?_)
     refine Lc1 rfl ?_
     refine LT wn (r_sti (cs:=[n2.v]) b O_81 rfl e0 e0 rfl (mkF rfl) d4) fun w b=>Dn [14] [2,3] [15] ?_
     obtain ⟨M1,i3⟩:=setI_len (u:=n3) n1 (swap_len i0 d4 (b.famL (mtR mhR)))
     refine yR rfl (yIs SLH_75 e0 e0 b rO0 i3) (Rn (yS rfl (m_ c.v (eh I)) (yS rfl (m_ (iV (d.length:Int)) (eh a3)) QSn)) ?_)
     refine Lc1 rfl ?_
     refine LT wn (r_sti (cs:=[n3.v]) b O_81 rfl e0 e0 rfl (mkF rfl) i3) fun w b=>?_
     replace b:=(b.k17).fswap i1 m9 i2 n0 d4 i0 i3 n1
     refine Dz [] [] (Rn QSn (B0 _ _ (wR (yY (yFb FL_80_0 (eh b0)) (yY (lbs_ [.bool T,D.v] ST_31 e0 b R5) (bE i fun n4 B1 i=>?_))))))
     replace b:=(b.k13).fz
     refine yC (yCall FN_71 (a1 e0)) (sparseref01_Neg_ok B1 F0 b) ?_
     rintro _ w ⟨n5,rfl,b⟩
     refine ⟨_,rfl,?_⟩
     exact yY (yFb FL_80_0 (eh b0)) (yT (r_stbn (vals':=[.bool n4.1,n5.v,.bool z,t.v]) (us:=[.bool n4.1,n5.v]) (b.k22) ST_31 e0 e0 rfl rfl (one_of rfl) rfl) fun w b=>wN (k6 _ _ _ _ _ _ _ I f5 f6 b0 f7 f8 a3 ((b.k2o).facts (allT allI)) i))
  refine loopQ (fun s a w=>∃ (J:Int) (f:FV),J=s∧a=fr 145 f∧f 0=c.v∧f 1=iV r∧f 5=(pB k)∧f 6=(pB m)∧f 7=o.v∧f 8=iV h∧f 9=iV (d.length:Int)∧f 10=iV J∧St w0 ros (row 81 rH c.v H::fam 80 (rP rB (rP (rS (rI .u32)) (rP rB (rS (rI .u32))))) H S::box k 80 [.bool false,hnil.v,.bool false,hnil.v]::row 103 (rI .u32) D.v a0::row 103 (rI .u32) t.v K::box m 80 [.bool T,D.v,.bool z,t.v]::row 3 I1 o.v d::rs) w) t1 ⟨_,_,rfl,rfl,q7,j5,j6,j7,e4,j8,rfl,rfl,b⟩ ?_
  rintro _ _ w M2 ⟨J,f,rfl,rfl,d5,n6,n7,n8,n9,i4,o0,d6,b⟩ Z B2 M3 B3 B4
  refine seqQ fun M4 B5 B6=>sR fun _ B7=>Ym (iV J) (eh d6) (Ym c.v (eh d5) (yY (yLenF SLH_75 e0 b rO0 R1) (yY (ylss e0 e0) (Ym (.bool (decide (J < (S.length:Int)))) e0 (bE Z fun B8 C Z=>?_)))))
  refine joinW 9 (fun f w=>f 0=c.v∧f 1=iV r∧f 5=(pB k)∧f 6=(pB m)∧f 7=o.v∧f 8=iV h∧f 9=iV (d.length:Int)∧f 10=iV J∧f 38=.bool B8∧St w0 ros (row 81 rH c.v H::fam 80 (rP rB (rP (rS (rI .u32)) (rP rB (rS (rI .u32))))) H S::box k 80 [.bool false,hnil.v,.bool false,hnil.v]::row 103 (rI .u32) D.v a0::row 103 (rI .u32) t.v K::box m 80 [.bool T,D.v,.bool z,t.v]::row 3 I1 o.v d::rs) w) (fun o1=>?_) ?_
  ·rcases iteS C with ⟨q,C⟩ | ⟨q,C⟩
   ·refine yG (dT q) (m_ c.v (eh d5)) (yG (dT q) (m_ (iV J) (eh d6)) (bE C fun M5 i5 C=>?_))
    obtain ⟨M6,d7⟩:=b.famI R1 i5
    refine yG (dT q) (yIa SLH_75 e0 e0 b rO0 d7) (yG (dT q) (yF1 O_81 e0 b rO0 d7 rfl) (yG (dT q) (m_ (iV h) (eh i4)) (bE C fun o2 o3 C=>yG (dT q) (yIa SL_81 e0 e0 b (rdF R1 d7 i5) o3) ?_)))
    obtain ⟨M7,M8,cc5575,b⟩:=b.ld (rdF R1 d7 i5) o3
    replace b:=b.eltP
    obtain ⟨M9,N0,rfl,b⟩:=b
    replace b:=b.eltB
    obtain ⟨rfl,b⟩:=b
    replace b:=b.eltP
    obtain ⟨N1,N2,rfl,b⟩:=b
    replace b:=b.eltS
    obtain ⟨B9,rfl,b⟩:=b
    replace b:=b.swf.eltP
    obtain ⟨N3,N4,rfl,b⟩:=b
    replace b:=b.eltB
    obtain ⟨rfl,b⟩:=b
    replace b:=b.eltS
    obtain ⟨C0,rfl,b⟩:=b
    refine yG (dT q) (yCn (cs:=[.bool o2.1,B9.v,.bool o2.2.2.1,C0.v]) ST_80 rfl e0 cc5575) (bE C fun C1 C2 C=>Yc (wG (dT q)) rfl (yCall FN_106 (a1 e0)) (sparseref08_zero_ok C2 F1 F0 b) ?_)
    rintro _ w ⟨rfl,b⟩
    refine ⟨_,rfl,?_⟩
    refine yY (pt_ (.bool C1) e0 (dT q) e0) ?_
    cases C
    exact o1 _ _ ⟨d5,n6,n7,n8,n9,i4,o0,d6,rfl,(b.facts (allT (allT allI)))⟩
   ·refine gN (dF q) (gN (dF q) (gN (dF q) (gN (dF q) (gN (dF q) (gN (dF q) (gN (dF q) (gN (dF q) (yY (pf_ (.bool false) e0 (dF q) rfl) ?_))))))))
    cases C
    exact o1 _ _ ⟨d5,n6,n7,n8,n9,i4,o0,d6,rfl,b⟩
  rintro f w ⟨o4,o5,o6,o7,o8,o9,p0,p1,C3,b⟩
  refine wK B7 (cB (eh C3) Z (fun C4 Z=>?_) fun C4 Z=>?_)
  ·refine wp_skip (B5 _ _ (blockQ fun _ C5=>wR (Ym (iV J) (eh p1) (yY (yadd e0 rfl) (Ya (iV (wa .i64 J 1)) e0 (wN (C5 _ _ _ ?_)))))))
   cases Z
   exact B3 _ _ _ rfl ⟨_,_,rfl,rfl,o4,o5,o6,o7,o8,o9,p0,rfl,b⟩
  ·refine wp_exit (B6 _ _ _ rfl ?_)
   cases Z
   exact B4 _ _ _ _ rfl rfl (t2 _ _ _ o4 o5 o6 o7 o8 o9 p0 p1 b (B2 _ rfl))
 ·refine wp_exit (r2 _ _ _ rfl ?_)
  cases i
  exact r0 _ _ _ _ rfl rfl (q4 _ _ _ _ _ _ _ _ _ _ _ _ j6 j7 e4 b (q8 _ rfl))
theorem sparseref08_Rank_ok {i:List (List (Bool×LI))} {d:Hdr} {out:Int} (c:sparseref08_Rank i=some out) (j:imm (rS (rP rB (rS (rI .u32)))) d.v i∈ros) (a:St w0 ros rs w):
  Calls Tryz.prog 38 #[d.v] w (fun e w=>e=.returned (iV out)∧St w0 ros rs w):=by
 refine enterQ Tryz.func38 rfl Tryz.ntmps38 rfl fun Q k=>sR fun _ l=>Ya (iV 0) rfl (wK l (sR fun _ m=>Ym d.v e0 (bE c fun r n c=>yC (yCall FN_56 (a1 e0)) (sparseref08_fracs_ok n j a) ?_)))
 rintro _ w ⟨s,t,rfl,a⟩
 refine ⟨_,rfl,?_⟩
 refine Ym d.v e0 (bE c fun u o c=>yC (yCall FN_13 (a1 e0)) (sparseref08_Cols_ok o j a) ?_)
 rintro _ w ⟨rfl,a⟩
 refine ⟨_,rfl,?_⟩
 refine bE c fun b p c=>yC (yCall FN_83 (a2 e0 e0)) (sparseref08_echelon_ok p a) ?_
 rintro _ w ⟨x,f,g,h,rfl,a⟩
 refine ⟨_,rfl,?_⟩
 refine Ym (.tuple #[f.v,.agg #[.bool b.2.2.1,g.v,.bool b.2.2.2.2.1,h.v]]) e0 (yY (x_ f.v e0) (yY (x_ (.agg #[.bool b.2.2.1,g.v,.bool b.2.2.2.2.1,h.v]) e0) (yBb (rAl a ZT_80) fun y w a=>Ya f.v e0 (yT (r_stbn (vals':=[.bool b.2.2.1,g.v,.bool b.2.2.2.2.1,h.v]) (us:=[.bool b.2.2.1,g.v,.bool b.2.2.2.2.1,h.v]) a ST_80 e0 e0 rfl rfl (one_of rfl) rfl) fun w a=>wK m (sR fun _ q=>Ym f.v e0 (yY (yLen SL_48 e0 a rO3) ?_))))))
 refine Ya (iV (b.2.1.length:Int)) e0 (wK q (wp_ret ?_))
 cases c
 exact k _ _ _ (fin1r Tryz.results38 ⟨rfl,rfl⟩ ⟨rfl,(a.k2p)⟩)
theorem sparseref08_Kernel_ok {j7:List (List (Bool×LI))} {d1:Hdr} {out:(List (Bool×LI))} (g:sparseref08_Kernel j7=some out) (j8:imm (rS (rP rB (rS (rI .u32)))) d1.v j7∈ros) (b:St w0 ros rs w):
  Calls Tryz.prog 39 #[d1.v] w (fun e w=>∃ (j9:Hdr),e=.returned (j9.v)∧St w0 ros (row 31 (rP rB (rS (rI .u32))) j9.v out::rs) w):=by
 refine enterQ Tryz.func39 rfl Tryz.ntmps39 rfl fun Q k0=>sR fun _ p5=>Ya hnil.v rfl (wK p5 (sR fun _ p6=>Ym d1.v e0 (bE g fun m p7 g=>yC (yCall FN_13 (a1 e0)) (sparseref08_Cols_ok p7 j8 b) ?_)))
 rintro _ w ⟨rfl,b⟩
 refine ⟨_,rfl,?_⟩
 refine Ya (iV m) e0 (wK p6 (sR fun _ p8=>Ym d1.v e0 (bE g fun I2 p9 g=>yC (yCall FN_56 (a1 e0)) (sparseref08_fracs_ok p9 j8 b) ?_)))
 rintro _ w ⟨j,I3,rfl,b⟩
 refine ⟨_,rfl,?_⟩
 refine Ya j.v e0 (wK p8 (sR fun _ q0=>Ym j.v e0 (Ym (iV m) e0 (bE g fun o q2 g=>yC (yCall FN_83 (a2 e0 e0)) (sparseref08_echelon_ok q2 b) ?_))))
 rintro _ w ⟨u,O,d2,d3,rfl,b⟩
 refine ⟨_,rfl,?_⟩
 refine Ym (.tuple #[O.v,.agg #[.bool o.2.2.1,d2.v,.bool o.2.2.2.2.1,d3.v]]) e0 (yY (x_ O.v e0) (yY (x_ (.agg #[.bool o.2.2.1,d2.v,.bool o.2.2.2.2.1,d3.v]) e0) (yBb (rAl b ZT_80) fun I4 w b=>Ya O.v e0 (yT (r_stbn (vals':=[.bool o.2.2.1,d2.v,.bool o.2.2.2.2.1,d3.v]) (us:=[.bool o.2.2.1,d2.v,.bool o.2.2.2.2.1,d3.v]) b ST_80 e0 e0 rfl rfl (one_of rfl) rfl) fun w b=>wK q0 (seqQ fun I5 q3 q4=>sR fun _ q5=>Ym O.v e0 ?_)))))
 refine yY (yLen SL_48 e0 b rO3) (Ym (iV m) e0 (yY (yeql e0 e0) (wK q5 ?_)))
 refine cIf e0 g (fun q6 g=>?_) fun q6 g=>?_
 ·refine sR fun _ q7=>Ya hnil.v rfl (wK q7 (wp_ret (q4 _ _ _ rfl ?_)))
  cases g
  replace b:=b.rowNh 31 (rP rB (rS (rI .u32)))
  exact k0 _ _ _ (fin1r Tryz.results39 ⟨rfl,rfl⟩ ⟨_,rfl,(b.k2c)⟩)
 ·refine wp_skip (q3 _ _ (sR fun _ q8=>Ya (iV 0) rfl (wK q8 (sQ fun _ q9=>blockQ fun r0 r1=>bE g fun r2 r5 g=>?_))))
  have r6:∀ (H:Int) (f:FV) w,f 3=iV m→f 4=j.v→f 7=iV H→St w0 ros (row 81 rH j.v u::fam 80 (rP rB (rP (rS (rI .u32)) (rP rB (rS (rI .u32))))) u o.1::rs) w→H=r2→r0 (.exit 0) (fr 178 f) w:=by
   intro H f w l0 r8 r9 b ho
   subst ho
   refine r1 _ _ _ (q9 _ _ (sR fun _ s0=>bE g fun p s1 g=>yC (yCall FN_84 (a1 rfl)) (sparseref01_FromInt_ok s1 b) ?_))
   rintro _ w ⟨q,rfl,b⟩
   refine ⟨_,rfl,?_⟩
   refine bE g fun r s2 g=>yC (yCall FN_84 (a1 rfl)) (sparseref01_FromInt_ok s2 b) ?_
   rintro _ w ⟨t,rfl,b⟩
   refine ⟨_,rfl,?_⟩
   refine yY (ybuild (us:=[.bool p.1,q.v,.bool r.1,t.v]) [(0,.agg #[.bool p.1,q.v]),(1,.agg #[.bool r.1,t.v])] SO_80 (bp2 e0 e0) rfl) (yBb (rAl b ZT_80) fun R w b=>yT (r_stbn (vals':=[.bool p.1,q.v,.bool r.1,t.v]) (us:=[.bool p.1,q.v,.bool r.1,t.v]) b ST_80 e0 e0 rfl rfl (one_of rfl) rfl) fun w b=>wK s0 (sR fun _ s3=>Ym (iV m) (eh l0) (bE g fun I6 s4 g=>yH (rMk b SL_81 e0 s4) fun c w b=>Ya c.v e0 ?_)))
   refine wK s3 (sQ fun _ s5=>sR fun _ s6=>Ya (iV 0) rfl (wK s6 (blockQ fun s7 s8=>bE g fun s9 t0 g=>?_)))
   have t1:∀ (f9:List (Bool×LI×Bool×LI)) (f:FV) w,f 3=iV m→f 4=j.v→f 7=iV H→f 8=(pB R)→f 9=c.v→St w0 ros (row 81 rH j.v u::fam 80 (rP rB (rP (rS (rI .u32)) (rP rB (rS (rI .u32))))) u o.1::row 103 (rI .u32) q.v p.2::row 103 (rI .u32) t.v r.2::box R 80 [.bool p.1,q.v,.bool r.1,t.v]::row 80 (rP rB (rP (rS (rI .u32)) (rP rB (rS (rI .u32))))) c.v f9::rs) w→f9=s9→s7 (.exit 2) (fr 178 f) w:=by
    intro f9 f w t2 t3 g0 l1 l2 b ho
    subst ho
    refine s8 _ _ _ (s5 _ _ (sR fun _ t4=>Ym c.v (eh l2) (Ym (iV H) (eh g0) (yY (lbs_ [.bool p.1,q.v,.bool r.1,t.v] ST_80 (eh l1) b R4) (bE g fun I7 l3 g=>yY (yIs SL_81 e0 e0 b rO5 l3) (yT (r_stn (cs:=[.bool p.1,q.v,.bool r.1,t.v]) (((((b.k1h).fz).k1h).fz).k13) ST_80 e0 e0 rfl (mkP mkB (mkP (mkS F1) (mkP mkB (mkS F0)))) l3) fun w b=>wK t4 (sQ fun _ t5=>?_)))))))
    refine sR fun _ t6=>Ym (iV H) (eh g0) (yY (ysub e0 rfl) (Ya (iV (ws .i64 H 1)) e0 (wK t6 (blockQ fun t7 t8=>bE g fun t9 u0 g=>?_))))
    have u1:∀ (Z:List (Bool×LI×Bool×LI)) (f:FV) w,f 3=iV m→f 9=c.v→St w0 ros (row 80 (rP rB (rP (rS (rI .u32)) (rP rB (rS (rI .u32))))) c.v Z::rs) w→Z=t9→t7 (.exit 4) (fr 178 f) w:=by
     intro Z f w u2 u3 b ho
     subst ho
     refine t8 _ _ _ (t5 _ _ (sR fun _ u4=>bE g fun l4 u5 g=>yC (yCall FN_84 (a1 rfl)) (sparseref01_FromInt_ok u5 b) ?_))
     rintro _ w ⟨l5,rfl,b⟩
     refine ⟨_,rfl,?_⟩
     refine yBb (rAl b ZT_31) fun S w b=>yT (r_stbn (vals':=[.bool l4.1,l5.v]) (us:=[.bool l4.1,l5.v]) b ST_31 e0 e0 rfl rfl (one_of rfl) rfl) fun w b=>wK u4 (sQ fun _ u6=>sR fun _ u7=>Ya (iV 0) rfl (wK u7 (blockQ fun u8 u9=>bE g fun v0 v1 g=>?_)))
     have v2:∀ (a5:Bool) (c0:LI) (W:Hdr) (f:FV) w,f 3=iV m→f 9=c.v→f 14=(pB S)→St w0 ros (row 80 (rP rB (rP (rS (rI .u32)) (rP rB (rS (rI .u32))))) c.v Z::row 103 (rI .u32) W.v c0::box S 31 [.bool a5,W.v]::rs) w→(a5,c0)=v0→u8 (.exit 8) (fr 178 f) w:=by
      intro a5 c0 W f w v3 v4 v5 b ho
      subst ho
      refine u9 _ _ _ (u6 _ _ (sR fun _ v6=>Ya hnil.v rfl (wK v6 (sQ fun _ v7=>sR fun _ v8=>Ya (iV 0) rfl (wK v8 (blockQ fun v9 w1=>?_))))))
      refine bE g fun w2 w3 g=>?_
      have w4:∀ (g1:List (Bool×LI)) (c1:Hdr) (f:FV) w,f 18=c1.v→St w0 ros (row 31 (rP rB (rS (rI .u32))) c1.v g1::rs) w→g1=w2→v9 (.exit 10) (fr 178 f) w:=by
       intro g1 c1 f w w5 b ho
       subst ho
       refine w1 _ _ _ (v7 _ _ (sR fun _ w6=>Ym c1.v (eh w5) (Ya c1.v e0 (wK w6 (wp_ret ?_)))))
       cases g
       exact k0 _ _ _ (fin1r Tryz.results39 ⟨rfl,rfl⟩ ⟨_,rfl,b⟩)
      replace b:=((b.k17).fz).rowNh 31 (rP rB (rS (rI .u32)))
      refine loopQ (fun s a w=>∃ (d4:List (Bool×LI)) (E:Int) (f:FV) (b1:Hdr),(d4,E)=s∧a=fr 178 f∧f 3=iV m∧f 9=c.v∧f 14=(pB S)∧f 18=b1.v∧f 19=iV E∧St w0 (imm (rI .u32) W.v c0::ros) (row 80 (rP rB (rP (rS (rI .u32)) (rP rB (rS (rI .u32))))) c.v Z::box S 31 [.bool a5,W.v]::row 31 (rP rB (rS (rI .u32))) b1.v d4::rs) w) w3 ⟨_,_,_,_,rfl,rfl,v3,v4,v5,rfl,rfl,(b.k1c)⟩ ?_
      rintro _ _ w I8 ⟨d4,E,f,b1,rfl,rfl,d5,T,c2,d6,I,b⟩ z w7 I9 w8 w9
      refine seqQ fun J0 x0 x2=>sR fun _ x3=>Ym (iV E) (eh I) (Ym (iV m) (eh d5) (yY (ylss e0 e0) (wK x3 ?_)))
      refine cIf e0 z (fun x4 z=>?_) fun x4 z=>?_
      ·refine wp_skip (x0 _ _ (sQ fun _ x5=>blockQ fun _ x6=>sQ fun _ x7=>bE z fun b2 g2 z=>bE z fun J1 l6 z=>bE z fun A b3 z=>bE z fun d g3 z=>?_))
       refine joinN (n:=178) (fun f w=>∃ (g4:Nat) (b4:Hdr),f 3=iV m∧f 9=c.v∧f 14=(pB S)∧f 18=b1.v∧f 19=iV E∧f 20=(pB g4)∧St w0 (imm (rI .u32) W.v c0::ros) (row 80 (rP rB (rP (rS (rI .u32)) (rP rB (rS (rI .u32))))) c.v Z::box S 31 [.bool a5,W.v]::row 31 (rP rB (rS (rI .u32))) b1.v d4::row 103 (rI .u32) b4.v d.2.1::box g4 31 [.bool d.1,b4.v]::rs) w) (fun g5=>?_) ?_
       ·refine dR [0,0,3,7,15,0,63,0,0,384,896,1920,4095,8191,16383,16383,0,98303,262143] [6,12,16,17,18] 5 folM ?_
        replace b:=b.drew
        refine Dn [0,1,2,3,4,5,7,8,9,10,11] [] [6,16] (yR rfl (m_ c.v (eh T)) (yR rfl (m_ (iV E) (eh I)) (yR rfl (yIa SL_81 e0 e0 b rO0 g2) (yR rfl (yFe FL_80_0 e0) ?_))))
        replace b:=b.pin0
        obtain ⟨J2,b⟩:=b.pinO g2
        obtain ⟨J3,J4,rfl,b⟩:=b.eltP
        obtain ⟨rfl,b⟩:=b.eltB
        obtain ⟨J5,J6,rfl,b⟩:=b.eltP
        obtain ⟨d7,rfl,b⟩:=b.eltS
        replace b:=b.swf
        obtain ⟨J7,J8,rfl,b⟩:=b.eltP
        obtain ⟨rfl,b⟩:=b.eltB
        obtain ⟨l7,rfl,b⟩:=b.eltS
        refine yR rfl (yCfn (cs:=[.bool b2.1,d7.v,.bool b2.2.2.1,l7.v]) (us:=[.bool b2.1,d7.v]) ST_31 e0 (b.cAtP R0 mhP) rfl rfl) (yR rfl (lbs_ [.bool a5,W.v] ST_31 (eh c2) b R1) (yR rfl (m_ c.v (eh T)) (yR rfl (m_ (iV E) (eh I)) (yR rfl (yIa SL_81 e0 e0 b (rdOP R0) b3) (yR rfl (yFe FL_80_1 e0) ?_)))))
        obtain ⟨J9,b⟩:=b.pinO b3
        obtain ⟨K0,K1,rfl,b⟩:=b.eltP
        obtain ⟨rfl,b⟩:=b.eltB
        obtain ⟨K2,K3,rfl,b⟩:=b.eltP
        obtain ⟨c3,rfl,b⟩:=b.eltS
        replace b:=b.swf
        obtain ⟨K4,K5,rfl,b⟩:=b.eltP
        obtain ⟨rfl,b⟩:=b.eltB
        obtain ⟨U,rfl,b⟩:=b.eltS
        refine yR rfl (yCfn (cs:=[.bool A.1,c3.v,.bool A.2.2.1,U.v]) (us:=[.bool A.2.2.1,U.v]) ST_31 e0 (b.cAtP R0 mhP) rfl rfl) (Rn QSn ?_)
        refine Lc rfl ?_ (Lc1 rfl ?_)
        ·refine Lk wn (yCall FN_86 (a2 e0 e0)) (sparseref01_Mul_ok l6 F3 F4 b) ?_
         rintro _ w ⟨x8,rfl,b⟩
         refine ⟨_,rfl,?_⟩
         refine Dn [] [7,8,9,10,11] [12,16] (Rn (yS rfl (m_ c.v (eh T)) (yS rfl (m_ (iV E) (eh I)) (yS rfl (yIa SL_81 e0 e0 b (rdOP R1) b3) (yS rfl (yFe FL_80_1 e0) (yS rfl (yCfn (cs:=[.bool A.1,c3.v,.bool A.2.2.1,U.v]) (us:=[.bool A.2.2.1,U.v]) ST_31 e0 (b.cAtP R1 mhP) rfl rfl) QSn))))) ?_)
         refine Lc rfl ?_ (Lc1 rfl ?_)
         ·replace b:=b.fz
          refine Lk wn (yCall FN_87 (a2 e0 e0)) (sparseref01_Quo_ok g3 F0 F1 b) ?_
          rintro _ w ⟨x,rfl,b⟩
          refine ⟨_,rfl,?_⟩
          refine Dn [13,14,15] [] [16] (yR rfl (m_ (.tuple #[.agg #[.bool d.1,x.v],.bool d.2.2]) e0) (yR rfl (x_ (.agg #[.bool d.1,x.v]) e0) (yR rfl (x_ (.bool d.2.2) e0) (Rn QSn ?_))))
          refine Lc1 rfl ?_
          refine LB wn (rAl b ZT_31) fun l8 w b=>Dn [] [13,14,15] [17] (Rn (yS rfl (m_ (.tuple #[.agg #[.bool d.1,x.v],.bool d.2.2]) e0) (yS rfl (x_ (.agg #[.bool d.1,x.v]) e0) (yS rfl (x_ (.bool d.2.2) e0) QSn))) ?_)
          refine Lc1 rfl ?_
          refine LT wn (r_stbn (vals':=[.bool d.1,x.v]) (us:=[.bool d.1,x.v]) b ST_31 e0 e0 rfl rfl (one_of rfl) rfl) fun w b=>Dn [] [15] [18] (Rn (yS rfl (x_ (.bool d.2.2) e0) QSn) ?_)
          refine Lc1 rfl ?_
          refine Ly wn (a_ (.bool d.2.2) e0) (Dz [] [] (Rn QSn ?_))
          replace b:=(b.k1h).unpin
          exact g5 _ _ ⟨_,_,d5,T,c2,d6,I,rfl,((b.k2q).facts (allC F5 (allT (allT (allT (allT (allT (allT allI))))))))⟩
         ·refine LB wn (rAl b ZT_31) fun l8 w b=>Dn [] [7,8,9,10,11] [12] (Rn (yS rfl (m_ c.v (eh T)) (yS rfl (m_ (iV E) (eh I)) (yS rfl (yIa SL_81 e0 e0 b (rdOP R2) b3) (yS rfl (yFe FL_80_1 e0) (yS rfl (yCfn (cs:=[.bool A.1,c3.v,.bool A.2.2.1,U.v]) (us:=[.bool A.2.2.1,U.v]) ST_31 e0 (b.cAtP R2 mhP) rfl rfl) QSn))))) ?_)
          refine Lc1 rfl ?_
          replace b:=(b.k17).fz
          refine Lk wn (yCall FN_87 (a2 e0 e0)) (sparseref01_Quo_ok g3 F0 F1 b) ?_
          rintro _ w ⟨x,rfl,b⟩
          refine ⟨_,rfl,?_⟩
          refine Dn [13,14,15] [] [17] (yR rfl (m_ (.tuple #[.agg #[.bool d.1,x.v],.bool d.2.2]) e0) (yR rfl (x_ (.agg #[.bool d.1,x.v]) e0) (yR rfl (x_ (.bool d.2.2) e0) (Rn QSn ?_))))
          refine Lc1 rfl ?_
          replace b:=b.k17
          refine LT wn (r_stbn (vals':=[.bool d.1,x.v]) (us:=[.bool d.1,x.v]) b ST_31 e0 e0 rfl rfl (one_of rfl) rfl) fun w b=>Dn [] [15] [18] (Rn (yS rfl (x_ (.bool d.2.2) e0) QSn) ?_)
          refine Lc1 rfl ?_
          refine Ly wn (a_ (.bool d.2.2) e0) (Dz [] [] (Rn QSn ?_))
          replace b:=(b.k1h).unpin
          exact g5 _ _ ⟨_,_,d5,T,c2,d6,I,rfl,((b.k2q).facts (allC F5 (allT (allT (allT (allT (allT (allT allI))))))))⟩
        ·refine LB wn (rAl b ZT_31) fun l8 w b=>Dn [] [0,1,2,3,4,5,7,8,9,10,11] [6] (Rn (yS rfl (m_ c.v (eh T)) (yS rfl (m_ (iV E) (eh I)) (yS rfl (yIa SL_81 e0 e0 b (rdOP R1) g2) (yS rfl (yFe FL_80_0 e0) (yS rfl (yCfn (cs:=[.bool b2.1,d7.v,.bool b2.2.2.1,l7.v]) (us:=[.bool b2.1,d7.v]) ST_31 e0 (b.cAtP R1 (mtP mhP)) rfl rfl) (yS rfl (lbs_ [.bool a5,W.v] ST_31 (eh c2) b R2) (yS rfl (m_ c.v (eh T)) (yS rfl (m_ (iV E) (eh I)) (yS rfl (yIa SL_81 e0 e0 b (rdOP R1) b3) (yS rfl (yFe FL_80_1 e0) (yS rfl (yCfn (cs:=[.bool A.1,c3.v,.bool A.2.2.1,U.v]) (us:=[.bool A.2.2.1,U.v]) ST_31 e0 (b.cAtP R1 mhP) rfl rfl) QSn))))))))))) ?_)
         refine Lc1 rfl ?_
         refine Lk wn (yCall FN_86 (a2 e0 e0)) (sparseref01_Mul_ok l6 F3 F4 b) ?_
         rintro _ w ⟨x8,rfl,b⟩
         refine ⟨_,rfl,?_⟩
         refine Dn [] [7,8,9,10,11] [12] (Rn (yS rfl (m_ c.v (eh T)) (yS rfl (m_ (iV E) (eh I)) (yS rfl (yIa SL_81 e0 e0 b (rdOP R2) b3) (yS rfl (yFe FL_80_1 e0) (yS rfl (yCfn (cs:=[.bool A.1,c3.v,.bool A.2.2.1,U.v]) (us:=[.bool A.2.2.1,U.v]) ST_31 e0 (b.cAtP R2 mhP) rfl rfl) QSn))))) ?_)
         refine Lc1 rfl ?_
         replace b:=b.fz
         refine Lk wn (yCall FN_87 (a2 e0 e0)) (sparseref01_Quo_ok g3 F0 F1 b) ?_
         rintro _ w ⟨x,rfl,b⟩
         refine ⟨_,rfl,?_⟩
         refine Dn [13,14,15] [] [17] (yR rfl (m_ (.tuple #[.agg #[.bool d.1,x.v],.bool d.2.2]) e0) (yR rfl (x_ (.agg #[.bool d.1,x.v]) e0) (yR rfl (x_ (.bool d.2.2) e0) (Rn QSn ?_))))
         refine Lc1 rfl ?_
         replace b:=b.k17
         refine LT wn (r_stbn (vals':=[.bool d.1,x.v]) (us:=[.bool d.1,x.v]) b ST_31 e0 e0 rfl rfl (one_of rfl) rfl) fun w b=>Dn [] [15] [18] (Rn (yS rfl (x_ (.bool d.2.2) e0) QSn) ?_)
         refine Lc1 rfl ?_
         refine Ly wn (a_ (.bool d.2.2) e0) (Dz [] [] (Rn QSn ?_))
         replace b:=(b.k1h).unpin
         exact g5 _ _ ⟨_,_,d5,T,c2,d6,I,rfl,((b.k2q).facts (allC F5 (allT (allT (allT (allT (allT (allT allI))))))))⟩
       rintro f w ⟨g4,b4,x9,y0,y1,y2,y3,y4,b⟩
       refine x7 _ _ (wR (Ym b1.v (eh y2) (yY (lbs_ [.bool d.1,b4.v] ST_31 (eh y4) b R4) (yH (rLt (n:=1) (l:=[(d.1,d.2.1)]) ((b.k13).fz) SL_32 [.agg #[.bool d.1,b4.v]] (bp1 e0) rfl rfl (mks1 (cs:=[.bool d.1,b4.v]) rfl (mkP mkB (mkS F0)) mks0)) fun K6 w b=>bE z fun K7 y5 z=>yH (rAp (b.k13) SL_32 e0 e0 rO1 y5) fun y7 w b=>Ya y7.v e0 (wN (x6 _ _ _ (x5 _ _ (wR ?_))))))))
       refine Ym (iV E) (eh y3) (yY (yadd e0 rfl) (Ya (iV (wa .i64 E 1)) e0 (wN ?_)))
       cases z
       exact w8 _ _ _ rfl ⟨_,_,_,_,rfl,rfl,x9,y0,y1,rfl,rfl,((b.k2r).facts (allC F1 (allT (allT allI))))⟩
      ·refine wp_exit (x2 _ _ _ rfl ?_)
       cases z
       exact w9 _ _ _ _ rfl rfl (w4 _ _ _ _ d6 ((b.k2s).facts (allT allI)) (w7 _ rfl))
     refine loopQ (fun s a w=>∃ (a6:Bool) (d8:LI) (F:Int) (f:FV) (a0:Hdr),(a6,d8,F)=s∧a=fr 178 f∧f 3=iV m∧f 9=c.v∧f 14=(pB S)∧f 15=iV F∧St w0 ros (row 80 (rP rB (rP (rS (rI .u32)) (rP rB (rS (rI .u32))))) c.v Z::row 103 (rI .u32) a0.v d8::box S 31 [.bool a6,a0.v]::rs) w) v1 ⟨_,_,_,_,_,rfl,rfl,u2,u3,rfl,rfl,(b.k1y)⟩ ?_
     rintro _ _ w K8 ⟨a6,d8,F,f,a0,rfl,rfl,c4,J,b5,K,b⟩ B y9 K9 z0 z1
     refine seqQ fun L0 z2 z3=>sR fun _ z4=>Ym (iV F) (eh K) (Ym (iV m) (eh c4) (yY (ylss e0 e0) (wK z4 ?_)))
     refine cIf e0 B (fun z6 B=>?_) fun z6 B=>?_
     ·refine wp_skip (z2 _ _ (sQ fun _ z7=>blockQ fun _ z8=>sQ fun _ z9=>bE B fun C b6 B=>bE B fun b7 g6 B=>bE B fun L1 l9 B=>bE B fun h g7 B=>?_))
      refine joinN (n:=178) (fun f w=>∃ (g8:Nat) (d9:Hdr),f 3=iV m∧f 9=c.v∧f 14=(pB S)∧f 15=iV F∧f 16=(pB g8)∧St w0 (imm (rI .u32) a0.v d8::ros) (row 80 (rP rB (rP (rS (rI .u32)) (rP rB (rS (rI .u32))))) c.v Z::box S 31 [.bool a6,a0.v]::row 103 (rI .u32) d9.v h.2.1::box g8 31 [.bool h.1,d9.v]::rs) w) (fun g9=>?_) ?_
      ·refine dR [0,0,3,7,15,0,0,0,192,448,960,2016,4095,8191,16383,16383,0,98303,262143] [11,12,16,17,18] 5 folM ?_
       replace b:=b.drew
       refine Dn [0,1,2,3,4,5,6,7,8,9,10] [] [11,16] (yR rfl (m_ c.v (eh J)) (yR rfl (m_ (iV F) (eh K)) (yR rfl (yIa SL_81 e0 e0 b rO0 b6) (yR rfl (yFe FL_80_1 e0) ?_))))
       replace b:=b.pin0
       obtain ⟨L3,b⟩:=b.pinO b6
       obtain ⟨L4,L5,rfl,b⟩:=b.eltP
       obtain ⟨rfl,b⟩:=b.eltB
       obtain ⟨L6,L7,rfl,b⟩:=b.eltP
       obtain ⟨c5,rfl,b⟩:=b.eltS
       replace b:=b.swf
       obtain ⟨L8,L9,rfl,b⟩:=b.eltP
       obtain ⟨rfl,b⟩:=b.eltB
       obtain ⟨V,rfl,b⟩:=b.eltS
       refine yR rfl (yCfn (cs:=[.bool C.1,c5.v,.bool C.2.2.1,V.v]) (us:=[.bool C.2.2.1,V.v]) ST_31 e0 (b.cAtP R0 mhP) rfl rfl) (yR rfl (lbs_ [.bool a6,a0.v] ST_31 (eh b5) b R2) (yR rfl (m_ c.v (eh J)) (yR rfl (m_ (iV F) (eh K)) (yR rfl (yIa SL_81 e0 e0 b (rdOP R0) g6) (yR rfl (yFe FL_80_1 e0) ?_)))))
       obtain ⟨M0,b⟩:=b.pinO g6
       obtain ⟨M1,M2,rfl,b⟩:=b.eltP
       obtain ⟨rfl,b⟩:=b.eltB
       obtain ⟨M3,M4,rfl,b⟩:=b.eltP
       obtain ⟨m0,rfl,b⟩:=b.eltS
       replace b:=b.swf
       obtain ⟨M5,M6,rfl,b⟩:=b.eltP
       obtain ⟨rfl,b⟩:=b.eltB
       obtain ⟨e1,rfl,b⟩:=b.eltS
       refine yR rfl (yCfn (cs:=[.bool b7.1,m0.v,.bool b7.2.2.1,e1.v]) (us:=[.bool b7.2.2.1,e1.v]) ST_31 e0 (b.cAtP R0 mhP) rfl rfl) (Rn QSn ?_)
       refine Lc rfl ?_ (Lc1 rfl ?_)
       ·replace b:=b.k17
        replace b:=b.fz
        refine Lk wn (yCall FN_88 (a2 e0 e0)) (sparseref01_GCD_ok l9 F0 F1 b) ?_
        rintro _ w ⟨A0,rfl,b⟩
        refine ⟨_,rfl,?_⟩
        refine Dn [] [0,1,2,3,4] [12,16] (Rn (yS rfl (m_ c.v (eh J)) (yS rfl (m_ (iV F) (eh K)) (yS rfl (yIa SL_81 e0 e0 b (rdOP R0) b6) (yS rfl (yFe FL_80_1 e0) (yS rfl (yCfn (cs:=[.bool C.1,c5.v,.bool C.2.2.1,V.v]) (us:=[.bool C.2.2.1,V.v]) ST_31 e0 (b.cAtP R0 (mtP mhP)) rfl rfl) QSn))))) ?_)
        refine Lc rfl ?_ (Lc1 rfl ?_)
        ·refine Lk wn (yCall FN_87 (a2 e0 e0)) (sparseref01_Quo_ok g7 F4 F0 b) ?_
         rintro _ w ⟨y,rfl,b⟩
         refine ⟨_,rfl,?_⟩
         refine Dn [13,14,15] [] [16] (yR rfl (m_ (.tuple #[.agg #[.bool h.1,y.v],.bool h.2.2]) e0) (yR rfl (x_ (.agg #[.bool h.1,y.v]) e0) (yR rfl (x_ (.bool h.2.2) e0) (Rn QSn ?_))))
         refine Lc1 rfl ?_
         refine LB wn (rAl b ZT_31) fun m1 w b=>Dn [] [13,14,15] [17] (Rn (yS rfl (m_ (.tuple #[.agg #[.bool h.1,y.v],.bool h.2.2]) e0) (yS rfl (x_ (.agg #[.bool h.1,y.v]) e0) (yS rfl (x_ (.bool h.2.2) e0) QSn))) ?_)
         refine Lc1 rfl ?_
         refine LT wn (r_stbn (vals':=[.bool h.1,y.v]) (us:=[.bool h.1,y.v]) b ST_31 e0 e0 rfl rfl (one_of rfl) rfl) fun w b=>Dn [] [15] [18] (Rn (yS rfl (x_ (.bool h.2.2) e0) QSn) ?_)
         refine Lc1 rfl ?_
         refine Ly wn (a_ (.bool h.2.2) e0) (Dz [] [] (Rn QSn ?_))
         replace b:=(b.k1h).unpin
         exact g9 _ _ ⟨_,_,c4,J,b5,K,rfl,((b.k2t).facts (allC F1 (allT (allT (allT (allT (allT (allT allI))))))))⟩
        ·refine LB wn (rAl b ZT_31) fun m1 w b=>Dn [] [0,1,2,3,4] [12] (Rn (yS rfl (m_ c.v (eh J)) (yS rfl (m_ (iV F) (eh K)) (yS rfl (yIa SL_81 e0 e0 b (rdOP R1) b6) (yS rfl (yFe FL_80_1 e0) (yS rfl (yCfn (cs:=[.bool C.1,c5.v,.bool C.2.2.1,V.v]) (us:=[.bool C.2.2.1,V.v]) ST_31 e0 (b.cAtP R1 (mtP mhP)) rfl rfl) QSn))))) ?_)
         refine Lc1 rfl ?_
         refine Lk wn (yCall FN_87 (a2 e0 e0)) (sparseref01_Quo_ok g7 F4 F0 b) ?_
         rintro _ w ⟨y,rfl,b⟩
         refine ⟨_,rfl,?_⟩
         refine Dn [13,14,15] [] [17] (yR rfl (m_ (.tuple #[.agg #[.bool h.1,y.v],.bool h.2.2]) e0) (yR rfl (x_ (.agg #[.bool h.1,y.v]) e0) (yR rfl (x_ (.bool h.2.2) e0) (Rn QSn ?_))))
         refine Lc1 rfl ?_
         replace b:=b.k17
         refine LT wn (r_stbn (vals':=[.bool h.1,y.v]) (us:=[.bool h.1,y.v]) b ST_31 e0 e0 rfl rfl (one_of rfl) rfl) fun w b=>Dn [] [15] [18] (Rn (yS rfl (x_ (.bool h.2.2) e0) QSn) ?_)
         refine Lc1 rfl ?_
         refine Ly wn (a_ (.bool h.2.2) e0) (Dz [] [] (Rn QSn ?_))
         replace b:=(b.k1h).unpin
         exact g9 _ _ ⟨_,_,c4,J,b5,K,rfl,((b.k2t).facts (allC F1 (allT (allT (allT (allT (allT (allT allI))))))))⟩
       ·refine LB wn (rAl b ZT_31) fun m1 w b=>Dn [] [0,1,2,3,4,5,6,7,8,9,10] [11] (Rn (yS rfl (m_ c.v (eh J)) (yS rfl (m_ (iV F) (eh K)) (yS rfl (yIa SL_81 e0 e0 b (rdOP R1) b6) (yS rfl (yFe FL_80_1 e0) (yS rfl (yCfn (cs:=[.bool C.1,c5.v,.bool C.2.2.1,V.v]) (us:=[.bool C.2.2.1,V.v]) ST_31 e0 (b.cAtP R1 (mtP mhP)) rfl rfl) (yS rfl (lbs_ [.bool a6,a0.v] ST_31 (eh b5) b R3) (yS rfl (m_ c.v (eh J)) (yS rfl (m_ (iV F) (eh K)) (yS rfl (yIa SL_81 e0 e0 b (rdOP R1) g6) (yS rfl (yFe FL_80_1 e0) (yS rfl (yCfn (cs:=[.bool b7.1,m0.v,.bool b7.2.2.1,e1.v]) (us:=[.bool b7.2.2.1,e1.v]) ST_31 e0 (b.cAtP R1 mhP) rfl rfl) QSn))))))))))) ?_)
        refine Lc1 rfl ?_
        replace b:=(b.k1h).fz
        refine Lk wn (yCall FN_88 (a2 e0 e0)) (sparseref01_GCD_ok l9 F0 F1 b) ?_
        rintro _ w ⟨A0,rfl,b⟩
        refine ⟨_,rfl,?_⟩
        refine Dn [] [0,1,2,3,4] [12] (Rn (yS rfl (m_ c.v (eh J)) (yS rfl (m_ (iV F) (eh K)) (yS rfl (yIa SL_81 e0 e0 b (rdOP R1) b6) (yS rfl (yFe FL_80_1 e0) (yS rfl (yCfn (cs:=[.bool C.1,c5.v,.bool C.2.2.1,V.v]) (us:=[.bool C.2.2.1,V.v]) ST_31 e0 (b.cAtP R1 (mtP mhP)) rfl rfl) QSn))))) ?_)
        refine Lc1 rfl ?_
        refine Lk wn (yCall FN_87 (a2 e0 e0)) (sparseref01_Quo_ok g7 F4 F0 b) ?_
        rintro _ w ⟨y,rfl,b⟩
        refine ⟨_,rfl,?_⟩
        refine Dn [13,14,15] [] [17] (yR rfl (m_ (.tuple #[.agg #[.bool h.1,y.v],.bool h.2.2]) e0) (yR rfl (x_ (.agg #[.bool h.1,y.v]) e0) (yR rfl (x_ (.bool h.2.2) e0) (Rn QSn ?_))))
        refine Lc1 rfl ?_
        replace b:=b.k17
        refine LT wn (r_stbn (vals':=[.bool h.1,y.v]) (us:=[.bool h.1,y.v]) b ST_31 e0 e0 rfl rfl (one_of rfl) rfl) fun w b=>Dn [] [15] [18] (Rn (yS rfl (x_ (.bool h.2.2) e0) QSn) ?_)
        refine Lc1 rfl ?_
        refine Ly wn (a_ (.bool h.2.2) e0) (Dz [] [] (Rn QSn ?_))
        replace b:=(b.k1h).unpin
        exact g9 _ _ ⟨_,_,c4,J,b5,K,rfl,((b.k2t).facts (allC F1 (allT (allT (allT (allT (allT (allT allI))))))))⟩
      rintro f w ⟨g8,d9,A1,A2,h0,A3,A4,b⟩
      refine z9 _ _ (wR (yY (lbs_ [.bool a6,a0.v] ST_31 (eh h0) b R1) (yY (lbs_ [.bool h.1,d9.v] ST_31 (eh A4) b R3) (bE B fun m2 A5 B=>?_))))
      replace b:=(b.k1h).fz
      refine yC (yCall FN_86 (a2 e0 e0)) (sparseref01_Mul_ok A5 F1 F0 b) ?_
      rintro _ w ⟨m3,rfl,b⟩
      refine ⟨_,rfl,?_⟩
      refine yT (r_stbn (vals':=[.bool m2.1,m3.v]) (us:=[.bool m2.1,m3.v]) (b.k1h) ST_31 (eh h0) e0 rfl rfl (one_of rfl) rfl) fun w b=>wN (z8 _ _ _ (z7 _ _ (wR (Ym (iV F) (eh A3) (yY (yadd e0 rfl) (Ya (iV (wa .i64 F 1)) e0 (wN ?_)))))))
      cases B
      exact z0 _ _ _ rfl ⟨_,_,_,_,_,rfl,rfl,A1,A2,h0,rfl,((b.k2u).facts (allT (allT allI)))⟩
     ·refine wp_exit (z3 _ _ _ rfl ?_)
      cases B
      exact z1 _ _ _ _ rfl rfl (v2 _ _ _ _ _ c4 J b5 b (y9 _ rfl))
    refine loopQ (fun s a w=>∃ (c6:List (Bool×LI×Bool×LI)) (k:Int) (f:FV),(c6,k)=s∧a=fr 178 f∧f 3=iV m∧f 4=j.v∧f 7=iV H∧f 8=(pB R)∧f 9=c.v∧f 11=iV k∧St w0 (imm (rI .u32) q.v p.2::imm (rI .u32) t.v r.2::ros) (row 81 rH j.v u::fam 80 (rP rB (rP (rS (rI .u32)) (rP rB (rS (rI .u32))))) u o.1::box R 80 [.bool p.1,q.v,.bool r.1,t.v]::row 80 (rP rB (rP (rS (rI .u32)) (rP rB (rS (rI .u32))))) c.v c6::rs) w) u0 ⟨_,_,_,rfl,rfl,t2,t3,g0,l1,l2,rfl,((b.k1q).facts (allC F1 (allC F0 (allT (allT allI)))))⟩ ?_
    rintro _ _ w M7 ⟨c6,k,f,rfl,rfl,m4,A6,A7,A8,h1,e2,b⟩ i A9 M8 B0 B1
    refine seqQ fun M9 B2 B3=>sR fun _ B4=>Ym (iV k) (eh e2) (yY (ygeq e0 rfl) (wK B4 ?_))
    refine cIf e0 i (fun B5 i=>?_) fun B5 i=>?_
    ·refine wp_skip (B2 _ _ (sQ fun _ B6=>blockQ fun _ B7=>sR fun _ B8=>Ym c.v (eh h1) (Ym (iV k) (eh e2) (bE i fun b8 m5 i=>yY (yIa SL_81 e0 e0 b rO3 m5) ?_))))
     obtain ⟨N0,N1,cc555,b⟩:=b.ld rO3 m5
     replace b:=b.eltP
     obtain ⟨N2,N3,rfl,b⟩:=b
     replace b:=b.eltB
     obtain ⟨rfl,b⟩:=b
     replace b:=b.eltP
     obtain ⟨N4,N5,rfl,b⟩:=b
     replace b:=b.eltS
     obtain ⟨h3,rfl,b⟩:=b
     replace b:=b.swf.eltP
     obtain ⟨N6,N7,rfl,b⟩:=b
     replace b:=b.eltB
     obtain ⟨rfl,b⟩:=b
     replace b:=b.eltS
     obtain ⟨h4,rfl,b⟩:=b
     refine yY (yCn (cs:=[.bool b8.1,h3.v,.bool b8.2.2.1,h4.v]) ST_80 rfl e0 cc555) (yBb (rAl b ZT_80) fun e3 w b=>yT (r_stbn (vals':=[.bool b8.1,h3.v,.bool b8.2.2.1,h4.v]) (us:=[.bool b8.1,h3.v,.bool b8.2.2.1,h4.v]) b ST_80 e0 e0 rfl rfl (one_of rfl) rfl) fun w b=>wK B8 (sQ fun _ B9=>sR fun _ C0=>Ym (iV k) (eh e2) (yY (yadd e0 rfl) (Ya (iV (wa .i64 k 1)) e0 (wN ?_)))))
     refine C0 _ _ (blockQ fun C1 C2=>bE i fun C3 C4 i=>?_)
     have C5:∀ (e4:Bool) (h6:LI) (c7:Bool) (h7:LI) (e5 c8:Hdr) (f:FV) w,f 3=iV m→f 4=j.v→f 7=iV H→f 8=(pB R)→f 9=c.v→f 11=iV k→f 12=(pB e3)→St w0 (imm (rI .u32) q.v p.2::imm (rI .u32) t.v r.2::imm (rI .u32) e5.v h6::imm (rI .u32) c8.v h7::ros) (row 81 rH j.v u::fam 80 (rP rB (rP (rS (rI .u32)) (rP rB (rS (rI .u32))))) u o.1::box R 80 [.bool p.1,q.v,.bool r.1,t.v]::row 80 (rP rB (rP (rS (rI .u32)) (rP rB (rS (rI .u32))))) c.v c6::box e3 80 [.bool e4,e5.v,.bool c7,c8.v]::rs) w→(e4,h6,c7,h7)=C3→C1 (.exit 6) (fr 178 f) w:=by
      intro e4 h6 c7 h7 e5 c8 f w C6 e6 C7 C8 c9 L h8 b ho
      subst ho
      refine C2 _ _ _ (B9 _ _ (bE i fun N8 i0 i=>bE i fun i1 m6 i=>bE i fun N9 C9 i=>bE i fun O0 e7 i=>bE i fun b9 i2 i=>bE i fun O1 D0 i=>bE i fun m7 D1 i=>bE i fun O2 m8 i=>dR [0,0,0,4,0,0,48,112,0,496,1008,2032,4092,0,8192,0,0,98304,229376,0,1015808,2064384,4161536,8388604,16777212,33554431,67108863] [12,23,24,26] 4 folM ?_))
      replace b:=b.drew
      refine Dn [0,1,2,3,4,5,6,7,8,9,10,11,13,14,15,16,17,18,19,20,21,22] [] [12] (yR rfl (m_ c.v (eh c9)) (yR rfl (m_ (iV k) (eh L)) (yR rfl (yFb FL_80_0 (eh h8)) (yR rfl (lbs_ [.bool e4,e5.v] ST_31 e0 b R4) (yR rfl (m_ j.v (eh e6)) (yR rfl (m_ (iV k) (eh L)) ?_))))))
      obtain ⟨O3,e8⟩:=b.famI R1 i0
      refine yR rfl (yIa SLH_75 e0 e0 b rO0 e8) (yR rfl (yF1 O_81 e0 b rO0 e8 rfl) (yR rfl (m_ (iV k) (eh L)) (yR rfl (yIa SL_81 e0 e0 b (rdF R1 e8 i0) m6) (yR rfl (yFe FL_80_1 e0) ?_))))
      obtain ⟨O4,O5,cc653,b⟩:=b.ld (rdF R1 e8 i0) m6
      replace b:=b.eltP
      obtain ⟨O6,O7,rfl,b⟩:=b
      replace b:=b.eltB
      obtain ⟨rfl,b⟩:=b
      replace b:=b.eltP
      obtain ⟨O8,O9,rfl,b⟩:=b
      replace b:=b.eltS
      obtain ⟨D2,rfl,b⟩:=b
      replace b:=b.swf.eltP
      obtain ⟨P0,P1,rfl,b⟩:=b
      replace b:=b.eltB
      obtain ⟨rfl,b⟩:=b
      replace b:=b.eltS
      obtain ⟨m9,rfl,b⟩:=b
      refine yR rfl (yCfn (cs:=[.bool i1.1,D2.v,.bool i1.2.2.1,m9.v]) (us:=[.bool i1.2.2.1,m9.v]) ST_31 e0 cc653 rfl rfl) (yR rfl (yFb FL_80_1 (eh h8)) (yR rfl (lbs_ [.bool c7,c8.v] ST_31 e0 b R4) (yR rfl (m_ j.v (eh e6)) (yR rfl (m_ (iV k) (eh L)) ?_))))
      obtain ⟨P2,a7⟩:=b.famI R1 e7
      refine yR rfl (yIa SLH_75 e0 e0 b rO0 a7) (yR rfl (yF1 O_81 e0 b rO0 a7 rfl) (yR rfl (m_ (iV k) (eh L)) (yR rfl (yIa SL_81 e0 e0 b (rdF R1 a7 e7) i2) (yR rfl (yFe FL_80_0 e0) ?_))))
      replace b:=(b.k17).pin0
      obtain ⟨P3,b⟩:=St.pinF a7 e7 b i2
      obtain ⟨P4,P5,rfl,b⟩:=b.eltP
      obtain ⟨rfl,b⟩:=b.eltB
      obtain ⟨P6,P7,rfl,b⟩:=b.eltP
      obtain ⟨e9,rfl,b⟩:=b.eltS
      replace b:=b.swf
      obtain ⟨P8,P9,rfl,b⟩:=b.eltP
      obtain ⟨rfl,b⟩:=b.eltB
      obtain ⟨n0,rfl,b⟩:=b.eltS
      refine yR rfl (yCfn (cs:=[.bool b9.1,e9.v,.bool b9.2.2.1,n0.v]) (us:=[.bool b9.1,e9.v]) ST_31 e0 (b.cAtP R0 mhP) rfl rfl) (Rn QSn ?_)
      refine Lc1 rfl ?_
      refine Lk wn (yCall FN_86 (a2 e0 e0)) (sparseref01_Mul_ok C9 F6 F2 b) ?_
      rintro _ w ⟨Q0,rfl,b⟩
      refine ⟨_,rfl,?_⟩
      refine Dn [] [0,1,13,14,15,16,17,18,19,20,21,22] [23] (Rn (yS rfl (m_ c.v (eh c9)) (yS rfl (m_ (iV k) (eh L)) (yS rfl (yFb FL_80_1 (eh h8)) (yS rfl (lbs_ [.bool c7,c8.v] ST_31 e0 b R5) (yS rfl (m_ j.v (eh e6)) (yS rfl (m_ (iV k) (eh L)) (yS rfl (yIa SLH_75 e0 e0 b rO2 a7) (yS rfl (yF1 O_81 e0 b rO2 a7 rfl) (yS rfl (m_ (iV k) (eh L)) (yS rfl (yIa SL_81 e0 e0 b (rdFP R1 a7 e7) i2) (yS rfl (yFe FL_80_0 e0) (yS rfl (yCfn (cs:=[.bool b9.1,e9.v,.bool b9.2.2.1,n0.v]) (us:=[.bool b9.1,e9.v]) ST_31 e0 (b.cAtP R1 mhP) rfl rfl) QSn)))))))))))) ?_)
      refine Lc1 rfl ?_
      refine Lk wn (yCall FN_86 (a2 e0 e0)) (sparseref01_Mul_ok D0 F7 F1 b) ?_
      rintro _ w ⟨Q1,rfl,b⟩
      refine ⟨_,rfl,?_⟩
      refine Dn [] [0,1] [24] (Rn (yS rfl (m_ c.v (eh c9)) (yS rfl (m_ (iV k) (eh L)) QSn)) ?_)
      refine Lc1 rfl ?_
      replace b:=((b.k17).fz).fz
      refine Lk wn (yCall FN_85 (a2 e0 e0)) (sparseref08_frac_ok D1 F1 F0 b) ?_
      rintro _ w ⟨D3,D4,rfl,b⟩
      refine ⟨_,rfl,?_⟩
      refine Dn [25] [0,1] [26] (yR rfl (yIs SL_81 e0 e0 b rO5 m8) (Rn (yS rfl (m_ c.v (eh c9)) (yS rfl (m_ (iV k) (eh L)) QSn)) ?_))
      refine Lc1 rfl ?_
      replace b:=(b.fz.fz).k13
      refine LT wn (r_stn (cs:=[.bool m7.1,D3.v,.bool m7.2.2.1,D4.v]) b ST_80 e0 e0 rfl (mkP mkB (mkP (mkS F1) (mkP mkB (mkS F0)))) m8) fun w b=>Dz [] [] (Rn QSn ?_)
      replace b:=(b.k17).unpin
      refine B7 _ _ _ (B6 _ _ (wR (Ym (iV k) (eh L) (yY (ysub e0 rfl) (Ya (iV (ws .i64 k 1)) e0 (wN ?_))))))
      cases i
      exact B0 _ _ _ rfl ⟨_,_,_,rfl,rfl,C6,e6,C7,C8,c9,rfl,((b.k2v).facts (allC F8 (allC F9 (allT (allT (allT (allT (allT (allT (allT (allT (allT (allT (allT (allT allI)))))))))))))))⟩
     refine loopQ (fun s a w=>∃ (f0:Bool) (i3:LI) (f1:Bool) (i4:LI) (a3:Int) (f:FV) (f2 f3:Hdr),(f0,i3,f1,i4,a3)=s∧a=fr 178 f∧f 3=iV m∧f 4=j.v∧f 7=iV H∧f 8=(pB R)∧f 9=c.v∧f 11=iV k∧f 12=(pB e3)∧f 13=iV a3∧St w0 (imm (rI .u32) q.v p.2::imm (rI .u32) t.v r.2::imm (rI .u32) f2.v i3::imm (rI .u32) f3.v i4::ros) (row 81 rH j.v u::fam 80 (rP rB (rP (rS (rI .u32)) (rP rB (rS (rI .u32))))) u o.1::box R 80 [.bool p.1,q.v,.bool r.1,t.v]::row 80 (rP rB (rP (rS (rI .u32)) (rP rB (rS (rI .u32))))) c.v c6::box e3 80 [.bool f0,f2.v,.bool f1,f3.v]::rs) w) C4 ⟨_,_,_,_,_,_,_,_,rfl,rfl,m4,A6,A7,A8,h1,e2,rfl,rfl,((b.k1n).facts (allC F2 (allC F3 (allC F1 (allC F0 (allT (allT (allT (allT allI)))))))))⟩ ?_
     rintro _ _ w Q2 ⟨f0,i3,f1,i4,a3,f,f2,f3,rfl,rfl,n1,i5,i6,i7,i8,i9,f4,f5,b⟩ G D5 Q3 D6 D7
     refine seqQ fun Q4 D8 D9=>sR fun _ E0=>Ym (iV a3) (eh f5) (Ym (iV H) (eh i6) (yY (yleq e0 e0) (wK E0 ?_)))
     refine cIf e0 G (fun E1 G=>?_) fun E1 G=>?_
     ·refine wp_skip (D8 _ _ (sQ fun _ E2=>blockQ fun _ E3=>bE G fun Q6 j0 G=>bE G fun n2 n5 G=>bE G fun n6 n8 G=>bE G fun f6 E4 G=>dR [0,0,0,6,14,0,62,126,0,0,768,1792,0,8191,16383] [13,14] 2 folM ?_))
      replace b:=b.drew
      refine Dn [0,1,2,3,4,5,6,7,8,9,10,11,12] [] [13] (yR rfl (lbs_ [.bool f0,f2.v,.bool f1,f3.v] ST_80 (eh f4) b R4) (yR rfl (m_ j.v (eh i5)) (yR rfl (m_ (iV k) (eh i9)) ?_)))
      obtain ⟨Q7,f7⟩:=b.famI R1 j0
      refine yR rfl (yIa SLH_75 e0 e0 b rO0 f7) (yR rfl (yF1 O_81 e0 b rO0 f7 rfl) (yR rfl (m_ (iV a3) (eh f5)) (yR rfl (yIa SL_81 e0 e0 b (rdF R1 f7 j0) n5) ?_)))
      obtain ⟨Q8,Q9,cc679,b⟩:=b.ld (rdF R1 f7 j0) n5
      replace b:=b.eltP
      obtain ⟨R6,R7,rfl,b⟩:=b
      replace b:=b.eltB
      obtain ⟨rfl,b⟩:=b
      replace b:=b.eltP
      obtain ⟨R8,R9,rfl,b⟩:=b
      replace b:=b.eltS
      obtain ⟨E5,rfl,b⟩:=b
      replace b:=b.swf.eltP
      obtain ⟨S0,S3,rfl,b⟩:=b
      replace b:=b.eltB
      obtain ⟨rfl,b⟩:=b
      replace b:=b.eltS
      obtain ⟨E6,rfl,b⟩:=b
      refine yR rfl (yCn (cs:=[.bool n2.1,E5.v,.bool n2.2.2.1,E6.v]) ST_80 rfl e0 cc679) (yR rfl (m_ c.v (eh i8)) (yR rfl (m_ (iV a3) (eh f5)) (yR rfl (yIa SL_81 e0 e0 b rO3 n8) ?_)))
      obtain ⟨S4,S5,cc686,b⟩:=b.ld rO3 n8
      replace b:=b.eltP
      obtain ⟨S6,S7,rfl,b⟩:=b
      replace b:=b.eltB
      obtain ⟨rfl,b⟩:=b
      replace b:=b.eltP
      obtain ⟨S8,S9,rfl,b⟩:=b
      replace b:=b.eltS
      obtain ⟨E7,rfl,b⟩:=b
      replace b:=b.swf.eltP
      obtain ⟨T0,T1,rfl,b⟩:=b
      replace b:=b.eltB
      obtain ⟨rfl,b⟩:=b
      replace b:=b.eltS
      obtain ⟨E8,rfl,b⟩:=b
      refine yR rfl (yCn (cs:=[.bool n6.1,E7.v,.bool n6.2.2.1,E8.v]) ST_80 rfl e0 cc686) (yR rfl (lbs_ [.bool p.1,q.v,.bool r.1,t.v] ST_80 (eh i7) b R2) (Rn QSn ?_))
      refine Lc1 rfl ?_
      refine Lk wn (yCall FN_58 (a4 e0 e0 e0 e0)) (sparseref08_minus_ok E4 F6 F7 F3 F2 F1 F0 F4 F5 b) ?_
      rintro _ w ⟨n9,o0,rfl,b⟩
      refine ⟨_,rfl,?_⟩
      refine Dn [] [] [14] (Rn QSn ?_)
      refine Lc1 rfl ?_
      replace b:=b.k25
      refine LT wn (r_stbn (vals':=[.bool f6.1,n9.v,.bool f6.2.2.1,o0.v]) (us:=[.bool f6.1,n9.v,.bool f6.2.2.1,o0.v]) b ST_80 (eh f4) e0 rfl rfl (one_of rfl) rfl) fun w b=>Dz [] [] (Rn QSn (E3 _ _ _ (E2 _ _ (wR (Ym (iV a3) (eh f5) (yY (yadd e0 rfl) (Ya (iV (wa .i64 a3 1)) e0 (wN ?_))))))))
      replace b:=(((b.k17).fz).k17).fz
      cases G
      exact D6 _ _ _ rfl ⟨_,_,_,_,_,_,_,_,rfl,rfl,n1,i5,i6,i7,i8,i9,f4,rfl,((b.k1n).facts (allC F6 (allC F7 (allC F1 (allC F0 (allT (allT (allT (allT (allT (allT (allT (allT (allT (allT allI)))))))))))))))⟩
     ·refine wp_exit (D9 _ _ _ rfl ?_)
      cases G
      exact D7 _ _ _ _ rfl rfl (C5 _ _ _ _ _ _ _ _ n1 i5 i6 i7 i8 i9 f4 b (D5 _ rfl))
    ·refine wp_exit (B3 _ _ _ rfl ?_)
     cases i
     exact B1 _ _ _ _ rfl rfl (u1 _ _ _ m4 h1 ((b.k2w).facts (allT (allT allI))) (A9 _ rfl))
   refine loopQ (fun s a w=>∃ (j1:List (Bool×LI×Bool×LI)) (a8:Int) (f:FV),(j1,a8)=s∧a=fr 178 f∧f 3=iV m∧f 4=j.v∧f 7=iV H∧f 8=(pB R)∧f 9=c.v∧f 10=iV a8∧St w0 ros (row 81 rH j.v u::fam 80 (rP rB (rP (rS (rI .u32)) (rP rB (rS (rI .u32))))) u o.1::row 103 (rI .u32) q.v p.2::row 103 (rI .u32) t.v r.2::box R 80 [.bool p.1,q.v,.bool r.1,t.v]::row 80 (rP rB (rP (rS (rI .u32)) (rP rB (rS (rI .u32))))) c.v j1::rs) w) t0 ⟨_,_,_,rfl,rfl,l0,r8,r9,rfl,rfl,rfl,(b.k2x)⟩ ?_
   rintro _ _ w T2 ⟨j1,a8,f,rfl,rfl,j2,o1,o2,o5,j3,j4,b⟩ X E9 T3 G0 G1
   refine seqQ fun T4 G2 G3=>sR fun _ G4=>Ym (iV a8) (eh j4) (Ym (iV m) (eh j2) (yY (ylss e0 e0) (wK G4 ?_)))
   refine cIf e0 X (fun G5 X=>?_) fun G5 X=>?_
   ·refine wp_skip (G2 _ _ (sQ fun _ G6=>blockQ fun _ G7=>wR (Ym c.v (eh j3) (Ym (iV a8) (eh j4) (yY (ybuild (us:=[.bool false,hnil.v]) [] SO_31 bp0 rfl) (bE X fun j5 G8 X=>yC (yCall FN_84 (a1 rfl)) (sparseref01_FromInt_ok G8 b) ?_))))))
    rintro _ w ⟨j6,rfl,b⟩
    refine ⟨_,rfl,?_⟩
    refine yY (ybuild (us:=[.bool false,hnil.v,.bool j5.1,j6.v]) [(0,.agg #[.bool false,hnil.v]),(1,.agg #[.bool j5.1,j6.v])] SO_80 (bp2 e0 e0) rfl) (bE X fun T5 o6 X=>yY (yIs SL_81 e0 e0 b rO6 o6) (yT (r_stn (cs:=[.bool false,hnil.v,.bool j5.1,j6.v]) (b.fz.k22) ST_80 e0 e0 rfl (mkP mkB (mkP mkSn (mkP mkB (mkS F0)))) o6) fun w b=>wN (G7 _ _ _ (G6 _ _ (wR (Ym (iV a8) (eh j4) (yY (yadd e0 rfl) (Ya (iV (wa .i64 a8 1)) e0 (wN ?_)))))))))
    cases X
    exact G0 _ _ _ rfl ⟨_,_,_,rfl,rfl,j2,o1,o2,o5,j3,rfl,((b.k2y).facts (allT allI))⟩
   ·refine wp_exit (G3 _ _ _ rfl ?_)
    cases X
    exact G1 _ _ _ _ rfl rfl (t1 _ _ _ j2 o1 o2 o5 j3 b (E9 _ rfl))
  refine loopQ (fun s a w=>∃ (N:Int) (f:FV),N=s∧a=fr 178 f∧f 3=iV m∧f 4=j.v∧f 5=O.v∧f 7=iV N∧St w0 ros (row 81 rH j.v u::fam 80 (rP rB (rP (rS (rI .u32)) (rP rB (rS (rI .u32))))) u o.1::row 3 I1 O.v o.2.1::rs) w) r5 ⟨_,_,rfl,rfl,rfl,rfl,rfl,rfl,(b.k2z)⟩ ?_
  rintro _ _ w T6 ⟨N,f,rfl,rfl,o8,o9,f8,d0,b⟩ a9 G9 T7 H0 H1
  refine seqQ fun T8 H2 H3=>sR fun _ H4=>Ym (iV N) (eh d0) (Ym O.v (eh f8) (yY (yLen SL_48 e0 b rO2) (yY (ylss e0 e0) (Ym (.bool (decide (N < (o.2.1.length:Int)))) e0 (bE a9 fun H5 b0 a9=>?_)))))
  refine joinW 7 (fun f w=>f 3=iV m∧f 4=j.v∧f 5=O.v∧f 7=iV N∧f 47=.bool H5∧St w0 ros (row 81 rH j.v u::fam 80 (rP rB (rP (rS (rI .u32)) (rP rB (rS (rI .u32))))) u o.1::row 3 I1 O.v o.2.1::rs) w) (fun p0=>?_) ?_
  ·rcases iteS b0 with ⟨D,b0⟩ | ⟨D,b0⟩
   ·refine yG (dT D) (m_ O.v (eh f8)) (yG (dT D) (m_ (iV N) (eh d0)) (bE b0 fun H6 p1 b0=>yG (dT D) (yIa SL_48 e0 e0 b rO2 p1) (yG (dT D) (yI O_3 e0 b rO2 p1) (yG (dT D) (m_ (iV N) (eh d0)) (yG (dT D) (yeql e0 e0) (yY (pt_ (.bool (decide (H6=N))) e0 (dT D) e0) ?_))))))
    cases b0
    exact p0 _ _ ⟨o8,o9,f8,d0,rfl,b⟩
   ·refine gN (dF D) (gN (dF D) (gN (dF D) (gN (dF D) (gN (dF D) (gN (dF D) (yY (pf_ (.bool false) e0 (dF D) rfl) ?_))))))
    cases b0
    exact p0 _ _ ⟨o8,o9,f8,d0,rfl,b⟩
  rintro f w ⟨p2,p3,H7,p4,H8,b⟩
  refine wK H4 (cB (eh H8) a9 (fun H9 a9=>?_) fun H9 a9=>?_)
  ·refine wp_skip (H2 _ _ (blockQ fun _ I0=>wR (Ym (iV N) (eh p4) (yY (yadd e0 rfl) (Ya (iV (wa .i64 N 1)) e0 (wN (I0 _ _ _ ?_)))))))
   cases a9
   exact H0 _ _ _ rfl ⟨_,_,rfl,rfl,p2,p3,H7,rfl,b⟩
  ·refine wp_exit (H3 _ _ _ rfl ?_)
   cases a9
   exact H1 _ _ _ _ rfl rfl (r6 _ _ _ p2 p3 p4 (b.k29) (G9 _ rfl))
theorem sparseref08_Dot_ok {y z:List (Bool×LI)} {i m:Hdr} {out:Bool×LI} (q:sparseref08_Dot y z=some out) (r:imm (rP rB (rS (rI .u32))) i.v y∈ros) (A:imm (rP rB (rS (rI .u32))) m.v z∈ros) (b:St w0 ros rs w):
  Calls Tryz.prog 74 #[i.v,m.v] w (fun e w=>∃ (B:Hdr),e=.returned (.agg #[.bool out.1,B.v])∧St w0 ros (row 103 (rI .u32) B.v out.2::rs) w):=by
 refine enterQ Tryz.func74 rfl Tryz.ntmps74 rfl fun Q J=>sR fun _ K=>yBb (rAl b ZT_31) fun n w b=>wK K (sR fun _ L=>yY (ybuild (us:=[.bool false,hnil.v]) [] SO_31 bp0 rfl) (yBb (rAl b ZT_31) fun o w b=>yT (r_stbn (vals':=[.bool false,hnil.v]) (us:=[.bool false,hnil.v]) b ST_31 e0 e0 rfl rfl (one_of rfl) rfl) fun w b=>?_))
 refine wK L (sQ fun _ N=>sR fun _ O=>Ya (iV 0) rfl (wK O (blockQ fun R S=>bE q fun T U q=>?_)))
 have V:∀ (g:Bool) (t:LI) (h:Hdr) (f:FV) w,f 4=(pB n)→f 5=(pB o)→St w0 ros (box n 31 [.bool false,hnil.v]::row 103 (rI .u32) h.v t::box o 31 [.bool g,h.v]::rs) w→(g,t)=T→R (.exit 0) (fr 26 f) w:=by
  intro g t h f w C W b ho
  subst ho
  refine S _ _ _ (N _ _ (sR fun _ X=>yY (lbs_ [.bool g,h.v] ST_31 (eh W) b R2) (yT (r_stbn (vals':=[.bool g,h.v]) (us:=[.bool g,h.v]) b ST_31 (eh C) e0 rfl rfl (one_of rfl) rfl) fun w b=>wK X (wp_ret ?_))))
  cases q
  exact J _ _ _ (fin1r Tryz.results74 (rcs2 rfl C b R0 ST_31 rfl) ⟨_,rfl,(b.k11)⟩)
 replace b:=b.rowNh 103 (rI .u32)
 refine loopQ (fun s a w=>∃ (j:Bool) (u:LI) (d:Int) (f:FV) (k:Hdr),(j,u,d)=s∧a=fr 26 f∧f 0=i.v∧f 1=m.v∧f 4=(pB n)∧f 5=(pB o)∧f 6=iV d∧St w0 ros (box n 31 [.bool false,hnil.v]::row 103 (rI .u32) k.v u::box o 31 [.bool j,k.v]::rs) w) U ⟨_,_,_,_,_,rfl,rfl,rfl,rfl,rfl,rfl,rfl,(b.k1h)⟩ ?_
 rintro _ _ w b7 ⟨j,u,d,f,k,rfl,rfl,x,D,E,l,p,b⟩ c Z b8 a0 a1
 refine seqQ fun b9 a3 a4=>sR fun _ a5=>Ym (iV d) (eh p) (Ym i.v (eh x) (yY (yLen SL_32 e0 b (rdI r)) (yY (ylss e0 e0) (wK a5 ?_))))
 refine cIf e0 c (fun a6 c=>?_) fun a6 c=>?_
 ·refine wp_skip (a3 _ _ (sQ fun _ a7=>blockQ fun _ a8=>bE c fun a9 F c=>bE c fun b0 G c=>bE c fun c0 b1 c=>bE c fun H b2 c=>dR [0,0,0,6,14,0,0,96,224,510,1023,2047] [9,10,11] 3 folM ?_))
  replace b:=b.drew
  refine Dn [0,1,2,3,4,5,6,7,8] [] [9] (yR rfl (lbs_ [.bool j,k.v] ST_31 (eh l) b R2) (yR rfl (m_ i.v (eh x)) (yR rfl (m_ (iV d) (eh p)) (yR rfl (yIa SL_32 e0 e0 b (rdI r) F) ?_))))
  obtain ⟨c1,c2,b⟩:=iLd b r F
  obtain ⟨c3,c4,rfl,b⟩:=b.eltP
  obtain ⟨rfl,b⟩:=b.eltB
  obtain ⟨b3,rfl,b⟩:=b.eltS
  refine yR rfl (yCtn (cs:=[.bool a9.1,b3.v]) ST_31 rfl e0 b F1) (yR rfl (m_ m.v (eh D)) (yR rfl (m_ (iV d) (eh p)) (yR rfl (yIa SL_32 e0 e0 b (rdI (F_2 A)) G) ?_)))
  obtain ⟨c5,c6,b⟩:=iLd b (F_2 A) G
  obtain ⟨c7,c8,rfl,b⟩:=b.eltP
  obtain ⟨rfl,b⟩:=b.eltB
  obtain ⟨b4,rfl,b⟩:=b.eltS
  refine yR rfl (yCtn (cs:=[.bool b0.1,b4.v]) ST_31 rfl e0 b F1) (Rn QSn ?_)
  refine Lc1 rfl ?_
  refine Lk wn (yCall FN_86 (a2 e0 e0)) (sparseref01_Mul_ok b1 F2 F0 b) ?_
  rintro _ w ⟨c9,rfl,b⟩
  refine ⟨_,rfl,?_⟩
  refine Dn [] [0] [10] (Rn (yS rfl (lbs_ [.bool j,k.v] ST_31 (eh l) b R3) QSn) ?_)
  refine Lc1 rfl ?_
  replace b:=((b.k1h).fz).fz
  refine Lk wn (yCall FN_111 (a2 e0 e0)) (sparseref01_Add_ok b2 F1 F0 b) ?_
  rintro _ w ⟨I,rfl,b⟩
  refine ⟨_,rfl,?_⟩
  refine Dn [] [] [11] (Rn QSn ?_)
  refine Lc1 rfl ?_
  replace b:=b.k1h
  refine LT wn (r_stbn (vals':=[.bool H.1,I.v]) (us:=[.bool H.1,I.v]) b ST_31 (eh l) e0 rfl rfl (one_of rfl) rfl) fun w b=>Dz [] [] (Rn QSn (a8 _ _ _ (a7 _ _ (wR (Ym (iV d) (eh p) (yY (yadd e0 rfl) (Ya (iV (wa .i64 d 1)) e0 (wN ?_))))))))
  cases c
  exact a0 _ _ _ rfl ⟨_,_,_,_,_,rfl,rfl,x,D,E,l,rfl,((b.k1y).facts (allT (allT (allT (allT (allT (allT allI)))))))⟩
 ·refine wp_exit (a4 _ _ _ rfl ?_)
  cases c
  exact a1 _ _ _ _ rfl rfl (V _ _ _ _ _ E l b (Z _ rfl))
theorem sparseref08_Bound_ok {x:List (List (Bool×LI))} {g:Hdr} {out:Bool×LI} (j:sparseref08_Bound x=some out) (k:imm (rS (rP rB (rS (rI .u32)))) g.v x∈ros) (b:St w0 ros rs w):
  Calls Tryz.prog 40 #[g.v] w (fun e w=>∃ (y:Hdr),e=.returned (.agg #[.bool out.1,y.v])∧St w0 ros (row 103 (rI .u32) y.v out.2::rs) w):=by
 refine enterQ Tryz.func40 rfl Tryz.ntmps40 rfl fun Q H=>sR fun _ I=>yBb (rAl b ZT_31) fun o w b=>wK I (sR fun _ J=>bE j fun z K j=>yC (yCall FN_84 (a1 rfl)) (sparseref01_FromInt_ok K b) ?_)
 rintro _ w ⟨A,rfl,b⟩
 refine ⟨_,rfl,?_⟩
 refine yBb (rAl b ZT_31) fun p w b=>yT (r_stbn (vals':=[.bool z.1,A.v]) (us:=[.bool z.1,A.v]) b ST_31 e0 e0 rfl rfl (one_of rfl) rfl) fun w b=>wK J (sQ fun _ L=>sR fun _ N=>Ya (iV 0) rfl (wK N (blockQ fun O R=>bE j fun S T j=>?_)))
 have U:∀ (h:Bool) (t:LI) (i:Hdr) (f:FV) w,f 2=(pB o)→f 3=(pB p)→St w0 ros (box o 31 [.bool false,hnil.v]::row 103 (rI .u32) i.v t::box p 31 [.bool h,i.v]::rs) w→(h,t)=S→O (.exit 0) (fr 24 f) w:=by
  intro h t i f w B V b ho
  subst ho
  refine R _ _ _ (L _ _ (sR fun _ W=>yY (lbs_ [.bool h,i.v] ST_31 (eh V) b R2) (yT (r_stbn (vals':=[.bool h,i.v]) (us:=[.bool h,i.v]) b ST_31 (eh B) e0 rfl rfl (one_of rfl) rfl) fun w b=>wK W (wp_ret ?_))))
  cases j
  exact H _ _ _ (fin1r Tryz.results40 (rcs2 rfl B b R0 ST_31 rfl) ⟨_,rfl,(b.k11)⟩)
 refine loopQ (fun s a w=>∃ (l:Bool) (u:LI) (d:Int) (f:FV) (m:Hdr),(l,u,d)=s∧a=fr 24 f∧f 0=g.v∧f 2=(pB o)∧f 3=(pB p)∧f 4=iV d∧St w0 ros (box o 31 [.bool false,hnil.v]::row 103 (rI .u32) m.v u::box p 31 [.bool l,m.v]::rs) w) T ⟨_,_,_,_,_,rfl,rfl,rfl,rfl,rfl,rfl,(b.k1y)⟩ ?_
 rintro _ _ w b1 ⟨l,u,d,f,m,rfl,rfl,q,C,n,r,b⟩ c X b2 Z a0
 refine seqQ fun b4 a3 a4=>sR fun _ a5=>Ym (iV d) (eh r) (Ym g.v (eh q) (yY (yLen SL_22 e0 b (rdI k)) (yY (ylss e0 e0) (wK a5 ?_))))
 refine cIf e0 c (fun a6 c=>?_) fun a6 c=>?_
 ·refine wp_skip (a3 _ _ (sQ fun _ a7=>blockQ fun _ a8=>bE c fun b5 D c=>bE c fun b7 E c=>bE c fun b8 a9 c=>bE c fun F b0 c=>dR [0,0,0,6,14,0,0,96,224,510,1023,2047] [9,10,11] 3 folM ?_))
  replace b:=b.drew
  refine Dn [0,1,2,3,4,5,6,7,8] [] [9] (yR rfl (lbs_ [.bool l,m.v] ST_31 (eh n) b R2) (yR rfl (m_ g.v (eh q)) (yR rfl (m_ (iV d) (eh r)) (yR rfl (yIa SL_22 e0 e0 b (rdI k) D) ?_))))
  obtain ⟨b9,b⟩:=iLs b k D
  refine yR rfl (yCt O_32 e0 b F1 rfl) (yR rfl (m_ g.v (eh q)) (yR rfl (m_ (iV d) (eh r)) (yR rfl (yIa SL_22 e0 e0 b (rdI (F_2 k)) E) ?_)))
  obtain ⟨c0,b⟩:=iLs b (F_2 k) E
  refine yR rfl (yCt O_32 e0 b F1 rfl) (Rn QSn ?_)
  refine Lc1 rfl ?_
  refine Lk wn (yCall FN_74 (a2 e0 e0)) (sparseref08_Dot_ok a9 F2 F0 b) ?_
  rintro _ w ⟨c1,rfl,b⟩
  refine ⟨_,rfl,?_⟩
  refine Dn [] [0] [10] (Rn (yS rfl (lbs_ [.bool l,m.v] ST_31 (eh n) b R3) QSn) ?_)
  refine Lc1 rfl ?_
  replace b:=((b.k1h).fz).fz
  refine Lk wn (yCall FN_86 (a2 e0 e0)) (sparseref01_Mul_ok b0 F1 F0 b) ?_
  rintro _ w ⟨G,rfl,b⟩
  refine ⟨_,rfl,?_⟩
  refine Dn [] [] [11] (Rn QSn ?_)
  refine Lc1 rfl ?_
  replace b:=b.k1h
  refine LT wn (r_stbn (vals':=[.bool F.1,G.v]) (us:=[.bool F.1,G.v]) b ST_31 (eh n) e0 rfl rfl (one_of rfl) rfl) fun w b=>Dz [] [] (Rn QSn (a8 _ _ _ (a7 _ _ (wR (Ym (iV d) (eh r) (yY (yadd e0 rfl) (Ya (iV (wa .i64 d 1)) e0 (wN ?_))))))))
  cases c
  exact Z _ _ _ rfl ⟨_,_,_,_,_,rfl,rfl,q,C,n,rfl,((b.k1y).facts (allT (allT (allT (allT (allT (allT allI)))))))⟩
 ·refine wp_exit (a4 _ _ _ rfl ?_)
  cases c
  exact a0 _ _ _ _ rfl rfl (U _ _ _ _ _ C n b (X _ rfl))
theorem sparseref08_Det_ok {j:List (List (Bool×LI))} {f:Hdr} {out:Bool×LI} (c:sparseref08_Det j=some out) (i:imm (rS (rP rB (rS (rI .u32)))) f.v j∈ros) (a:St w0 ros rs w):
  Calls Tryz.prog 41 #[f.v] w (fun e w=>∃ (k:Hdr),e=.returned (.agg #[.bool out.1,k.v])∧St w0 ros (row 103 (rI .u32) k.v out.2::rs) w):=by
 refine enterQ Tryz.func41 rfl Tryz.ntmps41 rfl fun Q l=>sR fun _ m=>yBb (rAl a ZT_31) fun y w a=>wK m (sR fun _ n=>Ym f.v e0 (bE c fun z o c=>yC (yCall FN_56 (a1 e0)) (sparseref08_fracs_ok o i a) ?_))
 rintro _ w ⟨A,B,rfl,a⟩
 refine ⟨_,rfl,?_⟩
 refine Ym f.v e0 (yY (yLen SL_22 e0 a (rdI i)) (bE c fun b p c=>yC (yCall FN_83 (a2 e0 e0)) (sparseref08_echelon_ok p a) ?_))
 rintro _ w ⟨C,g,d,h,rfl,a⟩
 refine ⟨_,rfl,?_⟩
 refine Ym (.tuple #[g.v,.agg #[.bool b.2.2.1,d.v,.bool b.2.2.2.2.1,h.v]]) e0 (yY (x_ g.v e0) (yY (x_ (.agg #[.bool b.2.2.1,d.v,.bool b.2.2.2.2.1,h.v]) e0) (yBb (rAl a ZT_80) fun D w a=>Ya g.v e0 (yT (r_stbn (vals':=[.bool b.2.2.1,d.v,.bool b.2.2.2.2.1,h.v]) (us:=[.bool b.2.2.1,d.v,.bool b.2.2.2.2.1,h.v]) a ST_80 e0 e0 rfl rfl (one_of rfl) rfl) fun w a=>wK n (seqQ fun E q r=>sR fun _ s=>Ym g.v e0 ?_)))))
 refine yY (yLen SL_48 e0 a rO3) (Ym f.v e0 (yY (yLen SL_22 e0 a (rdI i)) (yY (ylss e0 e0) (wK s ?_))))
 refine cIf e0 c (fun t c=>?_) fun t c=>?_
 ·refine sR fun _ u=>yY (ybuild (us:=[.bool false,hnil.v]) [] SO_31 bp0 rfl) (yT (r_stbn (vals':=[.bool false,hnil.v]) (us:=[.bool false,hnil.v]) (a.k25) ST_31 e0 e0 rfl rfl (one_of rfl) rfl) fun w a=>wK u (wp_ret (r _ _ _ rfl ?_)))
  cases c
  replace a:=a.rowNh 103 (rI .u32)
  exact l _ _ _ (fin1r Tryz.results41 (rcs2 rfl rfl a R1 ST_31 rfl) ⟨_,rfl,(a.k30)⟩)
 ·refine wp_skip (q _ _ (sR fun _ x=>yY (yFb FL_80_0 e0) (yY (lbs_ [.bool b.2.2.1,d.v] ST_31 e0 a R0) (yT (r_stbn (vals':=[.bool b.2.2.1,d.v]) (us:=[.bool b.2.2.1,d.v]) (a.k25) ST_31 e0 e0 rfl rfl (one_of rfl) rfl) fun w a=>wK x (wp_ret ?_)))))
  cases c
  exact l _ _ _ (fin1r Tryz.results41 (rcs2 rfl rfl a R0 ST_31 rfl) ⟨_,rfl,(a.k31)⟩)
theorem sparselaw08_num_ok {b:Int} {out:Bool×LI} (c:sparselaw08_num b=some out) (a:St w0 ros rs w):
  Calls Tryz.prog 50 #[iV b] w (fun e w=>∃ (d:Hdr),e=.returned (.agg #[.bool out.1,d.v])∧St w0 ros (row 103 (rI .u32) d.v out.2::rs) w):=by
 refine enterQ Tryz.func50 rfl Tryz.ntmps50 rfl fun Q h=>sR fun _ i=>yBb (rAl a ZT_31) fun l w a=>wK i (sR fun _ j=>Ym (iV b) e0 (bE c fun f k c=>yC (yCall FN_84 (a1 e0)) (sparseref01_FromInt_ok k a) ?_))
 rintro _ w ⟨g,rfl,a⟩
 refine ⟨_,rfl,?_⟩
 refine yT (r_stbn (vals':=[.bool f.1,g.v]) (us:=[.bool f.1,g.v]) (a.k17) ST_31 e0 e0 rfl rfl (one_of rfl) rfl) fun w a=>wK j (wp_ret ?_)
 cases c
 exact h _ _ _ (fin1r Tryz.results50 (rcs2 rfl rfl a R0 ST_31 rfl) ⟨_,rfl,(a.k20)⟩)
theorem exact_Solve_ok {B:List (List (Bool×LI))} {C:List (Bool×LI)} {h r:Hdr} {out:(List (Bool×LI))×Bool×LI×Int} (c:exact_Solve B C=some out) (m:imm (rS (rP rB (rS (rI .u32)))) h.v B∈ros) (K:imm (rP rB (rS (rI .u32))) r.v C∈ros) (b:St w0 ros rs w):
  Calls Tryz.prog 19 #[h.v,r.v] w (fun e w=>∃ (L N:Hdr),e=.returned (.tuple #[L.v,.agg #[.bool out.2.1,N.v],iV out.2.2.2])∧St w0 (imm (rI .u32) N.v out.2.2.1::ros) (row 31 (rP rB (rS (rI .u32))) L.v out.1::rs) w):=by
 refine enterQ Tryz.func19 rfl Tryz.ntmps19 rfl fun Q t=>sR fun _ a5=>Ya hnil.v rfl (yBb (rAl b ZT_31) fun u w b=>Ya (iV 0) rfl (wK a5 (sR fun _ a6=>Ym h.v e0 (bE c fun p a7 c=>yC (yCall FN_52 (a1 e0)) (exact_square_ok a7 m b) ?_))))
 rintro _ w ⟨rfl,b⟩
 refine ⟨_,rfl,?_⟩
 refine Ya (iV p) e0 (wK a6 (seqQ fun f1 a8 O=>blockQ fun _ D=>sR fun _ a9=>Ym (iV p) e0 (yY (yneq e0 rfl) (Ya (.bool (!(decide (p=0)))) e0 (wK a9 ?_)))))
 rcases iteS c with ⟨E,c⟩ | ⟨E,c⟩
 ·refine condF e0 (nF (dT E)) (sR fun _ b0=>Ym r.v e0 (yY (yLen SL_32 e0 b (rdI K)) (Ym h.v e0 (yY (yLen SL_22 e0 b (rdI m)) (yY (yneq e0 e0) (Ya (.bool (!(decide ((C.length:Int)=(B.length:Int))))) e0 (wK b0 ?_)))))))
  rcases iteS c with ⟨F,c⟩ | ⟨F,c⟩
  ·refine condF e0 (nF (dT F)) (wp_skip (D _ _ _ (a8 _ _ (sR fun _ b1=>Ym h.v e0 (Ym r.v e0 (bE c fun f2 b2 c=>yC (yCall FN_54 (a2 e0 e0)) (exact_twin_ok b2 m K b) ?_))))))
   rintro _ w ⟨i,f3,rfl,b⟩
   refine ⟨_,rfl,?_⟩
   refine Ym h.v e0 (yY (yLen SL_22 e0 b (rdI m)) (bE c fun d b3 c=>yC (yCall FN_61 (a2 e0 e0)) (exact_eliminate_ok b3 b) ?_))
   rintro _ w ⟨f4,j,k,rfl,b⟩
   refine ⟨_,rfl,?_⟩
   refine yBb (rAl b ZT_86) fun x w b=>yT (r_stbn (vals':=[i.v,j.v,.bool d.2.2.1,k.v,iV d.2.2.2.2]) (us:=[i.v,j.v,.bool d.2.2.1,k.v,iV d.2.2.2.2]) b ST_86 e0 e0 rfl rfl (one_of rfl) rfl) fun w b=>wK b1 (seqQ fun f5 b4 b6=>sR fun _ b7=>yY (yFb FL_86_1 e0) (yY (lb_ j.v O_48 e0 b R0) (yY (yLen SL_48 e0 b rO3) (Ym h.v e0 (yY (yLen SL_22 e0 b (rdI (mtF m))) ?_)))))
   refine yY (ylss e0 e0) (wK b7 ?_)
   refine cIf e0 c (fun b8 c=>?_) fun b8 c=>?_
   ·refine sR fun _ b9=>yY (ybuild (us:=[.bool false,hnil.v]) [] SO_31 bp0 rfl) (Ya hnil.v rfl (yT (r_stbn (vals':=[.bool false,hnil.v]) (us:=[.bool false,hnil.v]) (b.k14) ST_31 e0 e0 rfl rfl (one_of rfl) rfl) fun w b=>Ya (iV 9) rfl (wK b9 (wp_ret (b6 _ _ _ rfl ?_)))))
    cases c
    replace b:=(b.rowNh 31 (rP rB (rS (rI .u32)))).immNh (rI .u32)
    exact t _ _ _ (fin3r Tryz.results19 ⟨rfl,rfl⟩ (rcs2 rfl rfl b R1 ST_31 rfl) ⟨rfl,rfl⟩ ⟨_,_,rfl,((b.k32).facts (allC F0 (allT (allT allI))))⟩)
   ·refine wp_skip (b4 _ _ (sQ fun _ c0=>sR fun _ c1=>yY (yFb FL_86_0 e0) (yY (lb_ i.v O_22 e0 b R0) (yY (yLenF SLH_22 e0 b rO1 R2) (Ym (iV 0) rfl (wK c1 (blockQ fun c2 c3=>bE c fun c4 c5 c=>?_)))))))
    have c6:∀ (G:List (Bool×LI)) (q:Hdr) (f:FV) w,f 4=q.v→f 5=(pB u)→f 7=(pB x)→St w0 (imm (rS (rP rB (rS (rI .u32)))) i.v d.1::imm I1 j.v d.2.1::imm (rI .u32) k.v d.2.2.2.1::ros) (row 31 (rP rB (rS (rI .u32))) q.v G::box u 31 [.bool false,hnil.v]::box x 86 [i.v,j.v,.bool d.2.2.1,k.v,iV d.2.2.2.2]::rs) w→G=c4→c2 (.exit 1) (fr 59 f) w:=by
     intro G q f w c9 R d0 b ho
     subst ho
     refine c3 _ _ _ (c0 _ _ (sR fun _ d1=>Ym q.v (eh c9) (yY (yFb FL_86_2 (eh d0)) (yY (lbs_ [.bool d.2.2.1,k.v] ST_31 e0 b R2) (bE c fun S d2 c=>yC (yCall FN_63 (a1 e0)) (integer_Abs_ok d2 F2 b) ?_)))))
     rintro _ w ⟨T,rfl,b⟩
     refine ⟨_,rfl,?_⟩
     refine Ya q.v e0 (yT (r_stbn (vals':=[.bool S.1,T.v]) (us:=[.bool S.1,T.v]) (b.k17) ST_31 (eh R) e0 rfl rfl (one_of rfl) rfl) fun w b=>Ya (iV 0) rfl (wK d1 (wp_ret ?_)))
     cases c
     exact t _ _ _ (fin3r Tryz.results19 ⟨rfl,rfl⟩ (rcs2 rfl R b R0 ST_31 rfl) ⟨rfl,rfl⟩ ⟨_,_,rfl,((b.k11).facts (allC F0 (allT (allT (allT (allT allI))))))⟩)
    replace b:=((((b.rowNh 31 (rP rB (rS (rI .u32)))).k1x).ffz).k1h).fz
    refine loopQ (fun s a w=>∃ (H:List (Bool×LI)) (y:Int) (f:FV) (o:Hdr),(H,y)=s∧a=fr 59 f∧f 0=h.v∧f 4=o.v∧f 5=(pB u)∧f 7=(pB x)∧f 38=i.v∧f 39=iV (d.1.length:Int)∧f 40=iV y∧St w0 (imm (rS (rP rB (rS (rI .u32)))) i.v d.1::imm I1 j.v d.2.1::imm (rI .u32) k.v d.2.2.2.1::ros) (row 31 (rP rB (rS (rI .u32))) o.v H::box u 31 [.bool false,hnil.v]::box x 86 [i.v,j.v,.bool d.2.2.1,k.v,iV d.2.2.2.2]::rs) w) c5 ⟨_,_,_,_,rfl,rfl,rfl,rfl,rfl,rfl,rfl,rfl,rfl,((b.k33).facts (allC F1 (allC F0 (allC F2 (allT (allT (allT allI)))))))⟩ ?_
    rintro _ _ w f6 ⟨H,y,f,o,rfl,rfl,U,z,V,I,W,X,J,b⟩ g d3 f7 d4 d5
    refine sR fun _ d6=>yY (ylss (eh J) (eh X)) (wK d6 (seqQ fun f8 d7 d8=>?_))
    refine cIf e0 g (fun d9 g=>?_) fun d9 g=>?_
    ·refine wp_skip (d7 _ _ (sQ fun _ e1=>blockQ fun _ e2=>sR fun _ e3=>bE g fun f9 Z g=>yY (yIa SL_22 (eh W) (eh J) b (rdI F0) Z) ?_))
     obtain ⟨a0,b⟩:=iLs b F0 Z
     refine yY (yCt O_32 e0 b F1 rfl) (Ya a0.v e0 (wK e3 (bE g fun e4 a3 g=>bE g fun A e5 g=>bE g fun g0 e6 g=>dR [0,0,0,0,8,28,60,126,254,511,1023] [7,8,9,10] 4 folM ?_)))
     replace b:=b.drew
     refine Dn [0,1,2,3,4,5,6] [] [7] (yR rfl (m_ o.v (eh z)) (yR rfl (lbs_ [i.v,j.v,.bool d.2.2.1,k.v,iV d.2.2.2.2] ST_86 (eh I) b R2) (yR rfl (m_ a0.v e0) (yR rfl (m_ h.v (eh U)) (yR rfl (yLen SL_22 e0 b (rdI (F_5 m))) (yR rfl (yIa SL_32 e0 e0 b (rdI F0) a3) ?_))))))
     obtain ⟨g1,g2,b⟩:=iLd b F0 a3
     obtain ⟨g3,g4,rfl,b⟩:=b.eltP
     obtain ⟨rfl,b⟩:=b.eltB
     obtain ⟨e7,rfl,b⟩:=b.eltS
     refine yR rfl (yCtn (cs:=[.bool e4.1,e7.v]) ST_31 rfl e0 b F1) (Rn QSn ?_)
     refine Lc1 rfl ?_
     refine Lk wn (yCall FN_62 (a2 e0 e0)) (exact_reduced_turned_ok e5 F4 F5 F6 F0 b) ?_
     rintro _ w ⟨a4,rfl,b⟩
     refine ⟨_,rfl,?_⟩
     refine Dn [] [0] [8] (Rn (yS rfl (m_ o.v (eh z)) QSn) ?_)
     refine Lc1 rfl ?_
     refine LH wn (rLt (n:=1) (l:=[(A.1,A.2)]) b SL_32 [.agg #[.bool A.1,a4.v]] (bp1 e0) rfl rfl (mks1 (cs:=[.bool A.1,a4.v]) rfl (mkP mkB (mkS F0)) mks0)) fun g5 w b=>Dn [] [0] [9] (Rn (yS rfl (m_ o.v (eh z)) QSn) ?_)
     refine Lc1 rfl ?_
     replace b:=b.k17
     refine LH wn (rAp b SL_32 e0 e0 rO1 e6) fun e8 w b=>Dn [] [] [10] (Rn QSn ?_)
     refine Lc1 rfl ?_
     refine Ly wn (a_ e8.v e0) (Dz [] [] (Rn QSn (e2 _ _ _ (e1 _ _ (wR (yY (yadd (eh J) rfl) (Ym (iV (wa .i64 y 1)) e0 (wN ?_))))))))
     cases g
     exact d4 _ _ _ rfl ⟨_,_,_,_,rfl,rfl,U,rfl,V,I,W,X,rfl,((b.k34).facts (allC F5 (allC F6 (allC F7 (allT (allT (allT (allT (allT (allT (allT (allT allI))))))))))))⟩
    ·refine wp_exit (d8 _ _ _ rfl ?_)
     cases g
     exact d5 _ _ _ _ rfl rfl (c6 _ _ _ _ z V I b (d3 _ rfl))
  ·refine condT e0 (nT (dF F)) (sR fun _ e9=>yY (ybuild (us:=[.bool false,hnil.v]) [] SO_31 bp0 rfl) (Ya hnil.v rfl (yT (r_stbn (vals':=[.bool false,hnil.v]) (us:=[.bool false,hnil.v]) b ST_31 e0 e0 rfl rfl (one_of rfl) rfl) fun w b=>Ya (iV 2) rfl (wK e9 (wp_ret (D _ _ _ (O _ _ _ rfl ?_)))))))
   cases c
   replace b:=(b.rowNh 31 (rP rB (rS (rI .u32)))).immNh (rI .u32)
   exact t _ _ _ (fin3r Tryz.results19 ⟨rfl,rfl⟩ (rcs2 rfl rfl b R1 ST_31 rfl) ⟨rfl,rfl⟩ ⟨_,_,rfl,(b.k18)⟩)
 ·refine condT e0 (nT (dF E)) (sR fun _ f0=>yY (ybuild (us:=[.bool false,hnil.v]) [] SO_31 bp0 rfl) (Ym (iV p) e0 (Ya hnil.v rfl (yT (r_stbn (vals':=[.bool false,hnil.v]) (us:=[.bool false,hnil.v]) b ST_31 e0 e0 rfl rfl (one_of rfl) rfl) fun w b=>Ya (iV p) e0 (wK f0 (wp_ret (D _ _ _ (O _ _ _ rfl ?_))))))))
  cases c
  replace b:=(b.rowNh 31 (rP rB (rS (rI .u32)))).immNh (rI .u32)
  exact t _ _ _ (fin3r Tryz.results19 ⟨rfl,rfl⟩ (rcs2 rfl rfl b R1 ST_31 rfl) ⟨rfl,rfl⟩ ⟨_,_,rfl,(b.k18)⟩)
theorem integer_Cmp_ok {i:Bool} {l:LI} {f:Bool} {m:LI} {g d:Hdr} {out:Int} (b:integer_Cmp i l f m=some out) (n:imm (rI .u32) g.v l∈ros) (o:imm (rI .u32) d.v m∈ros) (a:St w0 ros rs w):
  Calls Tryz.prog 47 #[.agg #[.bool i,g.v],.agg #[.bool f,d.v]] w (fun e w=>e=.returned (iV out)∧St w0 ros rs w):=by
 refine enterQ Tryz.func47 rfl Tryz.ntmps47 rfl fun Q j=>sR fun _ q=>yBb (r_box (vals:=[.bool i,g.v]) a e0 rfl) fun I w a=>yBb (r_box (vals:=[.bool f,d.v]) a e0 rfl) fun J w a=>Ya (iV 0) rfl (wK q (sQ fun _ r=>bE b fun c s b=>bE b fun h t b=>dR [0,1,0,7,15,31] [1,3,4,5] 4 folM ?_))
 replace a:=a.drew
 refine Dn [0,2] [] [1] (yR rfl (lbs_ [.bool i,g.v] ST_31 e0 a R1) (yR rfl (lbs_ [.bool f,d.v] ST_31 e0 a R0) (Rn QSn ?_)))
 refine Lc1 rfl ?_
 refine Lk wn (yCall FN_29 (a1 e0)) (integer_Sign_ok s n a) ?_
 rintro _ w ⟨rfl,a⟩
 refine ⟨_,rfl,?_⟩
 refine Dn [] [2] [3] (Rn (yS rfl (lbs_ [.bool f,d.v] ST_31 e0 a R0) QSn) ?_)
 refine Lc1 rfl ?_
 refine Lk wn (yCall FN_29 (a1 e0)) (integer_Sign_ok t o a) ?_
 rintro _ w ⟨rfl,a⟩
 refine ⟨_,rfl,?_⟩
 refine Dn [] [] [4] (Rn QSn ?_)
 refine Lc1 rfl ?_
 refine Ly wn (a_ (iV c) e0) (Dn [] [] [5] (Rn QSn ?_))
 refine Lc1 rfl ?_
 refine Ly wn (a_ (iV h) e0) (Dz [] [] (Rn QSn (r _ _ (seqQ fun K u p=>blockQ fun _ k=>sR fun _ x=>Ym (iV c) e0 (Ym (iV h) e0 (yY (ylss e0 e0) (Ya (.bool (decide (c < h))) e0 (wK x ?_))))))))
 refine cIf e0 b (fun y b=>?_) fun y b=>?_
 ·refine sR fun _ z=>Ya (iV (-1)) rfl (wK z (wp_ret (k _ _ _ (p _ _ _ rfl ?_))))
  cases b
  exact j _ _ _ (fin1r Tryz.results47 ⟨rfl,rfl⟩ ⟨rfl,(a.k19)⟩)
 ·refine sR fun _ A=>Ym (iV c) e0 (Ym (iV h) e0 (yY (ygtr e0 e0) (Ya (.bool (decide (h < c))) e0 (wK A ?_))))
  refine cIf e0 b (fun B b=>?_) fun B b=>?_
  ·refine sR fun _ C=>Ya (iV 1) rfl (wK C (wp_ret (k _ _ _ (p _ _ _ rfl ?_))))
   cases b
   exact j _ _ _ (fin1r Tryz.results47 ⟨rfl,rfl⟩ ⟨rfl,(a.k19)⟩)
  ·refine wp_skip (k _ _ _ (u _ _ (sQ fun _ D=>bE b fun L E b=>bE b fun N F b=>bE b fun G H b=>dR [0,0,2,6,0,16,62,126,255,511] [3,6,7,9] 4 folM ?_)))
   replace a:=a.drew
   refine Dn [0,1,2,4,5] [] [3] (yR rfl (m_ (iV c) e0) (yR rfl (yFb FL_31_1 e0) (yR rfl (lb_ g.v O_29 e0 a R1) (yR rfl (yFb FL_31_1 e0) (yR rfl (lb_ d.v O_29 e0 a R0) (Rn QSn ?_))))))
   refine Lc1 rfl ?_
   refine Lk wn (yCall FN_73 (a1 e0)) (integer_trim_ok E n a) ?_
   rintro _ w ⟨O,rfl,a⟩
   refine ⟨_,rfl,?_⟩
   refine Dn [] [0,4,5] [6] (Rn (yS rfl (m_ (iV c) e0) (yS rfl (yFb FL_31_1 e0) (yS rfl (lb_ d.v O_29 e0 a R0) QSn))) ?_)
   refine Lc1 rfl ?_
   refine Lk wn (yCall FN_73 (a1 e0)) (integer_trim_ok F (mtF o) a) ?_
   rintro _ w ⟨R,rfl,a⟩
   refine ⟨_,rfl,?_⟩
   refine Dn [] [0] [7] (Rn (yS rfl (m_ (iV c) e0) QSn) ?_)
   refine Lc1 rfl ?_
   refine Lk wn (yCall FN_99 (a2 e0 e0)) (integer_compare_ok H F1 F0 a) ?_
   rintro _ w ⟨rfl,a⟩
   refine ⟨_,rfl,?_⟩
   refine Dn [8] [0] [9] (yR rfl (ymul e0 e0) (Rn (yS rfl (m_ (iV c) e0) QSn) ?_))
   refine Lc1 rfl ?_
   refine Ly wn (a_ (iV (wm .i64 c G)) e0) (Dz [] [] (Rn QSn (D _ _ (wp_ret ?_))))
   cases b
   exact j _ _ _ (fin1r Tryz.results47 ⟨rfl,rfl⟩ ⟨rfl,((a.k19).facts (allT (allT allI)))⟩)
theorem exact_product_v2_ok {u o:List (List (Bool×LI))} {q d:Hdr} {c:List Hdr} {out:(List (List (Bool×LI)))} (S:exact_product_v2 u o=some out) (T:imm (rS (rP rB (rS (rI .u32)))) q.v u∈ros) (b:St w0 ros (row 32 rH d.v c::fam 31 (rP rB (rS (rI .u32))) c o::rs) w):
  Calls Tryz.prog 103 #[q.v,d.v] w (fun e w=>∃ (a3:Hdr) (a4:List Hdr),e=.returned (a3.v)∧St w0 ros (row 32 rH d.v c::fam 31 (rP rB (rS (rI .u32))) c o::row 32 rH a3.v a4::fam 31 (rP rB (rS (rI .u32))) a4 out::rs) w):=by
 refine enterQ Tryz.func103 rfl Tryz.ntmps103 rfl fun Q d3=>sR fun _ d4=>Ya hnil.v rfl (wK d4 (sR fun _ d5=>Ya hnil.v rfl (wK d5 (sQ fun _ d6=>sR fun _ d7=>?_))))
 refine Ym q.v e0 (yY (yLen SL_22 e0 b (rdI T)) (Ym (iV 0) rfl (wK d7 (blockQ fun d8 d9=>bE S fun e1 e2 S=>?_))))
 have e3:∀ (U:List (List (Bool×LI))) (D:Hdr) (V:List Hdr) (f:FV) w,f 5=D.v→St w0 ros (row 32 rH d.v c::fam 31 (rP rB (rS (rI .u32))) c o::row 32 rH D.v V::fam 31 (rP rB (rS (rI .u32))) V U::rs) w→U=e1→d8 (.exit 0) (fr 54 f) w:=by
  intro U D V f w e4 b ho
  subst ho
  refine d9 _ _ _ (d6 _ _ (sR fun _ e5=>Ym D.v (eh e4) (Ya D.v e0 (wK e5 (wp_ret ?_)))))
  cases S
  exact d3 _ _ _ (fin1r Tryz.results103 ⟨rfl,rfl⟩ ⟨_,_,rfl,b⟩)
 replace b:=((b.rowNh 32 rH).fNew 31 (rP rB (rS (rI .u32)))).k17
 refine loopQ (fun s a w=>∃ (x:List (List (Bool×LI))) (r:Int) (f:FV) (h:Hdr) (i:List Hdr),(x,r)=s∧a=fr 54 f∧f 1=d.v∧f 5=h.v∧f 13=q.v∧f 14=iV (u.length:Int)∧f 15=iV r∧St w0 ros (row 32 rH d.v c::fam 31 (rP rB (rS (rI .u32))) c o::row 32 rH h.v i::fam 31 (rP rB (rS (rI .u32))) i x::rs) w) e2 ⟨_,_,_,_,_,rfl,rfl,rfl,rfl,rfl,rfl,rfl,(b.k1x)⟩ ?_
 rintro _ _ w m3 ⟨x,r,f,h,i,rfl,rfl,e6,a5,a6,a7,W,b⟩ j e7 m4 e8 e9
 refine sR fun _ f0=>yY (ylss (eh W) (eh a7)) (wK f0 (seqQ fun m5 f1 f2=>?_))
 refine cIf e0 j (fun f3 j=>?_) fun f3 j=>?_
 ·refine wp_skip (f1 _ _ (sQ fun _ f4=>blockQ fun _ f5=>sR fun _ f6=>bE j fun y a8 j=>yY (yIa SL_22 (eh a6) (eh W) b (rdI T) a8) ?_))
  obtain ⟨k,b⟩:=iLs b T a8
  refine yY (yCt O_32 e0 b F1 rfl) (Ya k.v e0 (wK f6 (sR fun _ f7=>Ya hnil.v rfl (wK f7 (sQ fun _ f8=>sR fun _ f9=>Ym k.v e0 (yY (yLen SL_32 e0 b (rdI F0)) ?_))))))
  refine Ym (iV 0) rfl (wK f9 (blockQ fun g0 g1=>bE j fun g2 g3 j=>?_))
  have g4:∀ (I:List (Bool×LI)) (z:Hdr) (f:FV) w,f 1=d.v→f 5=h.v→f 8=z.v→f 13=q.v→f 14=iV (u.length:Int)→f 15=iV r→St w0 ros (row 32 rH d.v c::fam 31 (rP rB (rS (rI .u32))) c o::row 32 rH h.v i::fam 31 (rP rB (rS (rI .u32))) i x::row 31 (rP rB (rS (rI .u32))) z.v I::rs) w→I=g2→g0 (.exit 2) (fr 54 f) w:=by
   intro I z f w g5 g6 g7 g8 g9 h0 b ho
   subst ho
   refine g1 _ _ _ (f8 _ _ (wR (Ym h.v (eh g6) (Ym z.v (eh g7) (yH (rLt (n:=1) (l:=[z]) b SLH_22 [z.v] (bp1 e0) rfl rfl (mks1 rfl (mkF rfl) mks0)) fun m6 w b=>bE j fun m7 a9 j=>?_)))))
   replace b:=b.k13
   obtain ⟨m8,ey624,h1⟩:=app_rep a9 (b.famL R4) (show [z].length=[I].length from rfl)
   refine yH (rAp b SLH_22 e0 e0 rO1 h1) fun h3 w b=>?_
   replace b:=(b.k36).fPush
   rw [← ey624,← (app_some a9).1] at b
   refine Ya h3.v e0 (wN (f5 _ _ _ (f4 _ _ (wR (yY (yadd (eh h0) rfl) (Ym (iV (wa .i64 r 1)) e0 (wN ?_)))))))
   cases j
   exact e8 _ _ _ rfl ⟨_,_,_,_,_,rfl,rfl,g5,rfl,g8,g9,rfl,(b.k15)⟩
  replace b:=b.rowNh 31 (rP rB (rS (rI .u32)))
  refine loopQ (fun s a w=>∃ (E:List (Bool×LI)) (m:Int) (f:FV) (t:Hdr),(E,m)=s∧a=fr 54 f∧f 1=d.v∧f 5=h.v∧f 7=k.v∧f 8=t.v∧f 13=q.v∧f 14=iV (u.length:Int)∧f 15=iV r∧f 20=iV (y.length:Int)∧f 21=iV m∧St w0 (imm (rP rB (rS (rI .u32))) k.v y::ros) (row 32 rH d.v c::fam 31 (rP rB (rS (rI .u32))) c o::row 32 rH h.v i::fam 31 (rP rB (rS (rI .u32))) i x::row 31 (rP rB (rS (rI .u32))) t.v E::rs) w) g3 ⟨_,_,_,_,rfl,rfl,e6,a5,rfl,rfl,a6,a7,W,rfl,rfl,((b.k1n).facts (allC F0 (allT (allT allI))))⟩ ?_
  rintro _ _ w m9 ⟨E,m,f,t,rfl,rfl,b0,b1,b2,b3,b4,b5,b6,b7,X,b⟩ p h5 n0 h6 h7
  refine sR fun _ h8=>yY (ylss (eh X) (eh b7)) (wK h8 (seqQ fun n1 h9 i0=>?_))
  refine cIf e0 p (fun i1 p=>?_) fun i1 p=>?_
  ·refine wp_skip (h9 _ _ (sQ fun _ i2=>blockQ fun _ i3=>sR fun _ i4=>Ym (iV m) (eh X) (Ya (iV m) e0 (wK i4 (sR fun _ i5=>yBb (rAl b ZT_31) fun J w b=>?_)))))
   refine wK i5 (sQ fun _ i6=>sR fun _ i7=>Ym k.v (eh b2) (yY (yLen SL_32 e0 b (rdI F0)) (Ym (iV 0) rfl (wK i7 (blockQ fun i8 i9=>bE p fun j0 j1 p=>?_)))))
   have j2:∀ (A:Bool) (K:LI) (C:Hdr) (f:FV) w,f 1=d.v→f 5=h.v→f 7=k.v→f 8=t.v→f 10=(pB J)→f 13=q.v→f 14=iV (u.length:Int)→f 15=iV r→f 20=iV (y.length:Int)→f 21=iV m→St w0 (imm (rP rB (rS (rI .u32))) k.v y::imm (rI .u32) C.v K::ros) (row 32 rH d.v c::fam 31 (rP rB (rS (rI .u32))) c o::row 32 rH h.v i::fam 31 (rP rB (rS (rI .u32))) i x::row 31 (rP rB (rS (rI .u32))) t.v E::box J 31 [.bool A,C.v]::rs) w→(A,K)=j0→i8 (.exit 4) (fr 54 f) w:=by
    intro A K C f w j3 j4 j5 j6 j7 j8 j9 k0 k5 k6 b ho
    subst ho
    refine i9 _ _ _ (i6 _ _ (wR (Ym t.v (eh j6) (yY (lbs_ [.bool A,C.v] ST_31 (eh j7) b R5) (yH (rLt (n:=1) (l:=[(A,K)]) b SL_32 [.agg #[.bool A,C.v]] (bp1 e0) rfl rfl (mks1 (cs:=[.bool A,C.v]) rfl (mkP mkB (mkS F1)) mks0)) fun n2 w b=>bE p fun n3 k7 p=>yH (rAp (b.k22) SL_32 e0 e0 rO1 k7) fun k8 w b=>Ya k8.v e0 (wN (i3 _ _ _ (i2 _ _ ?_))))))))
    refine wR (yY (yadd (eh k6) rfl) (Ym (iV (wa .i64 m 1)) e0 (wN ?_)))
    cases p
    exact h6 _ _ _ rfl ⟨_,_,_,_,rfl,rfl,j3,j4,j5,rfl,j8,j9,k0,k5,rfl,((b.k37).facts (allC F0 (allT (allT allI))))⟩
   replace b:=b.immNh (rI .u32)
   refine loopQ (fun s a w=>∃ (F:Bool) (Z:LI) (B:Int) (f:FV) (G:Hdr),(F,Z,B)=s∧a=fr 54 f∧f 1=d.v∧f 5=h.v∧f 7=k.v∧f 8=t.v∧f 9=iV m∧f 10=(pB J)∧f 13=q.v∧f 14=iV (u.length:Int)∧f 15=iV r∧f 20=iV (y.length:Int)∧f 21=iV m∧f 24=k.v∧f 25=iV (y.length:Int)∧f 26=iV B∧St w0 (imm (rP rB (rS (rI .u32))) k.v y::imm (rI .u32) G.v Z::ros) (row 32 rH d.v c::fam 31 (rP rB (rS (rI .u32))) c o::row 32 rH h.v i::fam 31 (rP rB (rS (rI .u32))) i x::row 31 (rP rB (rS (rI .u32))) t.v E::box J 31 [.bool F,G.v]::rs) w) j1 ⟨_,_,_,_,_,rfl,rfl,b0,b1,b2,b3,rfl,rfl,b4,b5,b6,b7,X,rfl,rfl,rfl,((b.k2y).facts (allC F1 (allC F0 (allT (allT allI)))))⟩ ?_
   rintro _ _ w n4 ⟨F,Z,B,f,G,rfl,rfl,a0,b8,b9,c0,c1,H,c2,c3,c4,c5,c6,c7,c8,L,b⟩ g k9 n5 l0 l1
   refine sR fun _ l2=>yY (ylss (eh L) (eh c8)) (wK l2 (seqQ fun n6 l3 l4=>?_))
   refine cIf e0 g (fun l5 g=>?_) fun l5 g=>?_
   ·refine wp_skip (l3 _ _ (sQ fun _ l6=>blockQ fun _ l7=>sR fun _ l8=>Ym (iV B) (eh L) (bE g fun N c9 g=>yY (yIa SL_32 (eh c7) (eh L) b (rdI F0) c9) ?_)))
    obtain ⟨n7,n8,b⟩:=iLd b F0 c9
    obtain ⟨o0,o1,rfl,b⟩:=b.eltP
    obtain ⟨rfl,b⟩:=b.eltB
    obtain ⟨O,rfl,b⟩:=b.eltS
    refine yY (yCtn (cs:=[.bool N.1,O.v]) ST_31 rfl e0 b F1) (yBb (rAl b ZT_31) fun o2 w b=>Ya (iV B) e0 (yT (r_stbn (vals':=[.bool N.1,O.v]) (us:=[.bool N.1,O.v]) b ST_31 e0 e0 rfl rfl (one_of rfl) rfl) fun w b=>wK l8 (bE g fun o3 a1 g=>bE g fun l9 d0 g=>bE g fun o4 m0 g=>bE g fun d1 m1 g=>dR [0,0,0,0,12,28,0,124,252,510,1023,2047] [9,10,11] 3 folM ?_)))
    replace b:=b.drew
    refine Dn [0,1,2,3,4,5,6,7,8] [] [9] (yR rfl (lbs_ [.bool F,G.v] ST_31 (eh H) b R6) (yR rfl (lbs_ [.bool N.1,O.v] ST_31 e0 b R0) (yR rfl (m_ d.v (eh a0)) (yR rfl (m_ (iV B) e0) ?_))))
    obtain ⟨o5,R⟩:=b.famI R2 a1
    refine yR rfl (yIa SLH_22 e0 e0 b rO1 R) (yR rfl (yF1 O_32 e0 b rO1 R rfl) (yR rfl (m_ (iV m) (eh c1)) (yR rfl (yIa SL_32 e0 e0 b (rdF R2 R a1) d0) ?_)))
    obtain ⟨o6,o7,cc692,b⟩:=b.ld (rdF R2 R a1) d0
    replace b:=b.eltP
    obtain ⟨o8,p0,rfl,b⟩:=b
    replace b:=b.eltB
    obtain ⟨rfl,b⟩:=b
    replace b:=b.eltS
    obtain ⟨m2,rfl,b⟩:=b
    refine yR rfl (yCn (cs:=[.bool l9.1,m2.v]) ST_31 rfl e0 cc692) (Rn QSn ?_)
    refine Lc1 rfl ?_
    refine Lk wn (yCall FN_32 (a2 e0 e0)) (integer_Mul_ok m0 F1 F0 b) ?_
    rintro _ w ⟨p1,rfl,b⟩
    refine ⟨_,rfl,?_⟩
    refine Dn [] [0] [10] (Rn (yS rfl (lbs_ [.bool F,G.v] ST_31 (eh H) b R6) QSn) ?_)
    refine Lc1 rfl ?_
    refine Lk wn (yCall FN_75 (a2 e0 e0)) (integer_Add_ok m1 F5 F0 b) ?_
    rintro _ w ⟨d2,rfl,b⟩
    refine ⟨_,rfl,?_⟩
    refine Dn [] [] [11] (Rn QSn ?_)
    refine Lc1 rfl ?_
    replace b:=b.k25
    refine LT wn (r_stbn (vals':=[.bool d1.1,d2.v]) (us:=[.bool d1.1,d2.v]) b ST_31 (eh H) e0 rfl rfl (one_of rfl) rfl) fun w b=>Dz [] [] (Rn QSn (l7 _ _ _ (l6 _ _ (wR (yY (yadd (eh L) rfl) (Ym (iV (wa .i64 B 1)) e0 (wN ?_)))))))
    cases g
    exact l0 _ _ _ rfl ⟨_,_,_,_,_,rfl,rfl,a0,b8,b9,c0,c1,H,c2,c3,c4,c5,c6,c7,c8,rfl,((b.k38).facts (allC F5 (allC F0 (allT (allT (allT (allT (allT (allT (allT allI))))))))))⟩
   ·refine wp_exit (l4 _ _ _ rfl ?_)
    cases g
    exact l1 _ _ _ _ rfl rfl (j2 _ _ _ _ _ a0 b8 b9 c0 H c2 c3 c4 c5 c6 b (k9 _ rfl))
  ·refine wp_exit (i0 _ _ _ rfl ?_)
   cases p
   exact h7 _ _ _ _ rfl rfl (g4 _ _ _ _ b0 b1 b3 b4 b5 b6 (b.facts (allT allI)) (h5 _ rfl))
 ·refine wp_exit (f2 _ _ _ rfl ?_)
  cases j
  exact e9 _ _ _ _ rfl rfl (e3 _ _ _ _ _ a5 b (e7 _ rfl))
theorem exact_characteristic_ok {i:List (List (Bool×LI))} {m:Hdr} {out:(List (Bool×LI))} (l:exact_characteristic i=some out) (c7:imm (rS (rP rB (rS (rI .u32)))) m.v i∈ros) (b:St w0 ros rs w):
  Calls Tryz.prog 53 #[m.v] w (fun e w=>∃ (c8:Hdr),e=.returned (c8.v)∧St w0 ros (row 31 (rP rB (rS (rI .u32))) c8.v out::rs) w):=by
 refine enterQ Tryz.func53 rfl Tryz.ntmps53 rfl fun Q g1=>sR fun _ g2=>Ya hnil.v rfl (wK g2 (sR fun _ g3=>Ym m.v e0 (yY (yLen SL_22 e0 b (rdI c7)) (Ya (iV (i.length:Int)) e0 (wK g3 (sQ fun _ g4=>?_))))))
 refine wR (Ym (iV (i.length:Int)) e0 (yY (yadd e0 rfl) (bE l fun t5 g5 l=>yH (rMk b SL_32 e0 g5) fun d w b=>Ya d.v e0 (wK g4 (sR fun _ g6=>Ym d.v e0 (Ym (iV (i.length:Int)) e0 (bE l fun g7 g8 l=>?_)))))))
 refine yC (yCall FN_82 (a1 rfl)) (integer_FromInt_ok g8 b) ?_
 rintro _ w ⟨g9,rfl,b⟩
 refine ⟨_,rfl,?_⟩
 refine bE l fun c9 d0 l=>yY (yIs SL_32 e0 e0 b rO0 d0) (yT (r_stn (cs:=[.bool g7.1,g9.v]) b ST_31 e0 e0 rfl (mkP mkB (mkS F0)) d0) fun w b=>wK g6 (sR fun _ h0=>Ym (iV (i.length:Int)) e0 (bE l fun h1 h4 l=>?_)))
 obtain ⟨h5,em10,h6⟩:=mkL_rep h4 hnil
 refine yH (rMk b SLH_22 e0 h6) fun B w b=>?_
 replace b:=(b.fReps 31 (rP rB (rS (rI .u32))) h5).k17
 rw [← em10] at b
 refine Ya B.v e0 (wK h0 (sQ fun _ h8=>sR fun _ i0=>Ym B.v e0 (yY (yLenF SLH_22 e0 b rO0 R1) (Ym (iV 0) rfl (wK i0 (blockQ fun i1 i2=>bE l fun i3 i4 l=>?_))))))
 have i5:∀ (V:List (List (Bool×LI))) (W:List Hdr) (f:FV) w,f 0=m.v→f 3=iV (i.length:Int)→f 4=d.v→f 5=B.v→St w0 ros (row 31 (rP rB (rS (rI .u32))) d.v c9::row 32 rH B.v W::fam 31 (rP rB (rS (rI .u32))) W V::rs) w→V=i3→i1 (.exit 0) (fr 102 f) w:=by
  intro V W f w i6 i7 i8 i9 b ho
  subst ho
  refine i2 _ _ _ (h8 _ _ (sQ fun _ j0=>sR fun _ j1=>Ya (iV 1) rfl (wK j1 (blockQ fun j2 j3=>bE l fun j4 j5 l=>?_))))
  have j6:∀ (X:List (Bool×LI)) (f:FV) w,f 4=d.v→St w0 ros (row 31 (rP rB (rS (rI .u32))) d.v X::rs) w→X=j4→j2 (.exit 2) (fr 102 f) w:=by
   intro X f w j7 b ho
   subst ho
   refine j3 _ _ _ (j0 _ _ (sR fun _ j8=>Ym d.v (eh j7) (Ya d.v e0 (wK j8 (wp_ret ?_)))))
   cases l
   exact g1 _ _ _ (fin1r Tryz.results53 ⟨rfl,rfl⟩ ⟨_,rfl,b⟩)
  refine loopQ (fun s a w=>∃ (x:List (Bool×LI)) (J:List (List (Bool×LI))) (k:Int) (f:FV) (o:Hdr) (C:List Hdr),(x,J,k)=s∧a=fr 102 f∧f 0=m.v∧f 3=iV (i.length:Int)∧f 4=d.v∧f 5=o.v∧f 7=iV k∧St w0 ros (row 31 (rP rB (rS (rI .u32))) d.v x::row 32 rH o.v C::fam 31 (rP rB (rS (rI .u32))) C J::rs) w) j5 ⟨_,_,_,_,_,_,rfl,rfl,i6,i7,i8,i9,rfl,b⟩ ?_
  rintro _ _ w t6 ⟨x,J,k,f,o,C,rfl,rfl,j9,d1,d2,d3,d4,b⟩ g k0 t7 k8 k9
  refine seqQ fun t8 l0 l1=>sR fun _ l2=>Ym (iV k) (eh d4) (Ym (iV (i.length:Int)) (eh d1) (yY (yleq e0 e0) (wK l2 ?_)))
  refine cIf e0 g (fun l3 g=>?_) fun l3 g=>?_
  ·refine wp_skip (l0 _ _ (sQ fun _ l4=>blockQ fun _ l5=>sQ fun _ l6=>sR fun _ l7=>Ym o.v (eh d3) (yY (yLenF SLH_22 e0 b rO1 R2) (Ym (iV 0) rfl (wK l7 (blockQ fun l8 l9=>bE g fun m0 m1 g=>?_))))))
   have m2:∀ (Z:List (List (Bool×LI))) (f:FV) w,f 0=m.v→f 3=iV (i.length:Int)→f 4=d.v→f 5=o.v→f 7=iV k→St w0 ros (row 31 (rP rB (rS (rI .u32))) d.v x::row 32 rH o.v C::fam 31 (rP rB (rS (rI .u32))) C Z::rs) w→Z=m0→l8 (.exit 4) (fr 102 f) w:=by
    intro Z f w d5 m3 m4 m5 m6 b ho
    subst ho
    refine l9 _ _ _ (l6 _ _ (sR fun _ m7=>Ym m.v (eh d5) (Ym o.v (eh m5) (bE g fun K m8 g=>?_))))
    replace b:=b.k1c
    refine yC (yCall FN_103 (a2 e0 e0)) (exact_product_v2_ok m8 c7 b) ?_
    rintro _ w ⟨q,F,rfl,b⟩
    refine ⟨_,rfl,?_⟩
    refine Ya q.v e0 (wK m7 (sR fun _ m9=>yBb (rAl b ZT_31) fun L w b=>wK m9 (sQ fun _ n0=>sR fun _ n2=>Ym q.v e0 (yY (yLenF SLH_22 e0 b rO3 R4) ?_))))
    refine Ym (iV 0) rfl (wK n2 (blockQ fun n3 n4=>bE g fun n5 n6 g=>?_))
    have n7:∀ (y:Bool) (a0:LI) (z:Hdr) (f:FV) w,f 0=m.v→f 3=iV (i.length:Int)→f 4=d.v→f 7=iV k→f 9=q.v→f 10=(pB L)→St w0 (imm (rI .u32) z.v a0::ros) (row 31 (rP rB (rS (rI .u32))) d.v x::row 32 rH q.v F::fam 31 (rP rB (rS (rI .u32))) F K::box L 31 [.bool y,z.v]::rs) w→(y,a0)=n5→n3 (.exit 6) (fr 102 f) w:=by
     intro y a0 z f w a3 a4 a5 G a6 H b ho
     subst ho
     refine n4 _ _ _ (n0 _ _ (sQ fun _ o0=>bE g fun t9 d6 g=>bE g fun c a7 g=>?_))
     refine joinN (n:=102) (fun f w=>∃ (a8:Nat) (N:Hdr),f 0=m.v∧f 3=iV (i.length:Int)∧f 4=d.v∧f 7=iV k∧f 9=q.v∧f 12=(pB a8)∧St w0 (imm (rI .u32) N.v c.2.1::ros) (row 31 (rP rB (rS (rI .u32))) d.v x::row 32 rH q.v F::fam 31 (rP rB (rS (rI .u32))) F K::box a8 31 [.bool c.1,N.v]::rs) w) (fun a9=>?_) ?_
     ·refine dR [0,0,2,7,15,31,31,0,191,511] [2,3,7,8,9] 5 folM ?_
      replace b:=b.drew
      refine Dn [0,1] [] [2,7] (yR rfl (lbs_ [.bool y,z.v] ST_31 (eh H) b R3) (yR rfl (m_ (iV k) (eh G)) (Rn QSn ?_)))
      refine Lc rfl ?_ (Lc1 rfl ?_)
      ·refine Lk wn (yCall FN_82 (a1 e0)) (integer_FromInt_ok d6 b) ?_
       rintro _ w ⟨o2,rfl,b⟩
       refine ⟨_,rfl,?_⟩
       refine Dn [] [0] [3,7] (Rn (yS rfl (lbs_ [.bool y,z.v] ST_31 (eh H) b R3) QSn) ?_)
       refine Lc rfl ?_ (Lc1 rfl ?_)
       ·refine Lk wn (yCall FN_81 (a2 e0 e0)) (integer_Quo_ok a7 F1 F0 b) ?_
        rintro _ w ⟨j,rfl,b⟩
        refine ⟨_,rfl,?_⟩
        refine Dn [4,5,6] [] [7] (yR rfl (m_ (.tuple #[.agg #[.bool c.1,j.v],iV c.2.2]) e0) (yR rfl (x_ (.agg #[.bool c.1,j.v]) e0) (yR rfl (x_ (iV c.2.2) e0) (Rn QSn ?_))))
        refine Lc1 rfl ?_
        refine LB wn (rAl b ZT_31) fun d7 w b=>Dn [] [4,5,6] [8] (Rn (yS rfl (m_ (.tuple #[.agg #[.bool c.1,j.v],iV c.2.2]) e0) (yS rfl (x_ (.agg #[.bool c.1,j.v]) e0) (yS rfl (x_ (iV c.2.2) e0) QSn))) ?_)
        refine Lc1 rfl ?_
        refine LT wn (r_stbn (vals':=[.bool c.1,j.v]) (us:=[.bool c.1,j.v]) b ST_31 e0 e0 rfl rfl (one_of rfl) rfl) fun w b=>Dn [] [6] [9] (Rn (yS rfl (x_ (iV c.2.2) e0) QSn) ?_)
        refine Lc1 rfl ?_
        exact Ly wn (a_ (iV c.2.2) e0) (Dz [] [] (Rn QSn (a9 _ _ ⟨_,_,a3,a4,a5,G,a6,rfl,((b.k39).facts (allC F0 (allT (allT (allT allI)))))⟩)))
       ·refine LB wn (rAl b ZT_31) fun d7 w b=>Dn [] [0] [3] (Rn (yS rfl (lbs_ [.bool y,z.v] ST_31 (eh H) b R4) QSn) ?_)
        refine Lc1 rfl ?_
        refine Lk wn (yCall FN_81 (a2 e0 e0)) (integer_Quo_ok a7 F1 F0 b) ?_
        rintro _ w ⟨j,rfl,b⟩
        refine ⟨_,rfl,?_⟩
        refine Dn [4,5,6] [] [8] (yR rfl (m_ (.tuple #[.agg #[.bool c.1,j.v],iV c.2.2]) e0) (yR rfl (x_ (.agg #[.bool c.1,j.v]) e0) (yR rfl (x_ (iV c.2.2) e0) (Rn QSn ?_))))
        refine Lc1 rfl ?_
        refine LT wn (r_stbn (vals':=[.bool c.1,j.v]) (us:=[.bool c.1,j.v]) b ST_31 e0 e0 rfl rfl (one_of rfl) rfl) fun w b=>Dn [] [6] [9] (Rn (yS rfl (x_ (iV c.2.2) e0) QSn) ?_)
        refine Lc1 rfl ?_
        exact Ly wn (a_ (iV c.2.2) e0) (Dz [] [] (Rn QSn (a9 _ _ ⟨_,_,a3,a4,a5,G,a6,rfl,((b.k39).facts (allC F0 (allT (allT (allT allI)))))⟩)))
      ·refine LB wn (rAl b ZT_31) fun d7 w b=>Dn [] [0,1] [2] (Rn (yS rfl (lbs_ [.bool y,z.v] ST_31 (eh H) b R4) (yS rfl (m_ (iV k) (eh G)) QSn)) ?_)
       refine Lc1 rfl ?_
       refine Lk wn (yCall FN_82 (a1 e0)) (integer_FromInt_ok d6 b) ?_
       rintro _ w ⟨o2,rfl,b⟩
       refine ⟨_,rfl,?_⟩
       refine Dn [] [0] [3] (Rn (yS rfl (lbs_ [.bool y,z.v] ST_31 (eh H) b R4) QSn) ?_)
       refine Lc1 rfl ?_
       refine Lk wn (yCall FN_81 (a2 e0 e0)) (integer_Quo_ok a7 F1 F0 b) ?_
       rintro _ w ⟨j,rfl,b⟩
       refine ⟨_,rfl,?_⟩
       refine Dn [4,5,6] [] [8] (yR rfl (m_ (.tuple #[.agg #[.bool c.1,j.v],iV c.2.2]) e0) (yR rfl (x_ (.agg #[.bool c.1,j.v]) e0) (yR rfl (x_ (iV c.2.2) e0) (Rn QSn ?_))))
       refine Lc1 rfl ?_
       refine LT wn (r_stbn (vals':=[.bool c.1,j.v]) (us:=[.bool c.1,j.v]) b ST_31 e0 e0 rfl rfl (one_of rfl) rfl) fun w b=>Dn [] [6] [9] (Rn (yS rfl (x_ (iV c.2.2) e0) QSn) ?_)
       refine Lc1 rfl ?_
       exact Ly wn (a_ (iV c.2.2) e0) (Dz [] [] (Rn QSn (a9 _ _ ⟨_,_,a3,a4,a5,G,a6,rfl,((b.k39).facts (allC F0 (allT (allT (allT allI)))))⟩)))
     rintro f w ⟨a8,N,o3,d8,d9,e1,o4,o5,b⟩
     refine o0 _ _ (wR (Ym d.v (eh d9) (Ym (iV (i.length:Int)) (eh d8) (Ym (iV k) (eh e1) (yY (ysub e0 e0) (yY (lbs_ [.bool c.1,N.v] ST_31 (eh o5) b R3) (bE g fun o6 o7 g=>yC (yCall FN_80 (a1 e0)) (integer_Neg_ok o7 F0 b) ?_)))))))
     rintro _ w ⟨p0,rfl,b⟩
     refine ⟨_,rfl,?_⟩
     refine Ym q.v (eh o4) (bE g fun u0 e2 g=>yY (yIs SL_32 e0 e0 b rO0 e2) (yT (r_stn (cs:=[.bool o6.1,p0.v]) b ST_31 e0 e0 rfl (mkP mkB (mkS F0)) e2) fun w b=>Ya q.v e0 (wN (l5 _ _ _ (l4 _ _ (wR (Ym (iV k) (eh e1) (yY (yadd e0 rfl) (Ya (iV (wa .i64 k 1)) e0 (wN ?_))))))))))
     cases g
     exact k8 _ _ _ rfl ⟨_,_,_,_,_,_,rfl,rfl,o3,d8,d9,rfl,rfl,((b.k3a).facts (allT (allT allI)))⟩
    replace b:=b.immNh (rI .u32)
    refine loopQ (fun s a w=>∃ (O:Bool) (b0:LI) (A:Int) (f:FV) (R:Hdr),(O,b0,A)=s∧a=fr 102 f∧f 0=m.v∧f 3=iV (i.length:Int)∧f 4=d.v∧f 7=iV k∧f 9=q.v∧f 10=(pB L)∧f 72=iV (K.length:Int)∧f 73=iV A∧St w0 (imm (rI .u32) R.v b0::ros) (row 31 (rP rB (rS (rI .u32))) d.v x::row 32 rH q.v F::fam 31 (rP rB (rS (rI .u32))) F K::box L 31 [.bool O,R.v]::rs) w) n6 ⟨_,_,_,_,_,rfl,rfl,d5,m3,m4,m6,rfl,rfl,rfl,rfl,(b.k3b)⟩ ?_
    rintro _ _ w u1 ⟨O,b0,A,f,R,rfl,rfl,e3,e4,e5,e6,b1,S,e7,b2,b⟩ r p1 u2 p2 p3
    refine sR fun _ p4=>yY (ylss (eh b2) (eh e7)) (wK p4 (seqQ fun u3 p5 p6=>?_))
    refine cIf e0 r (fun p7 r=>?_) fun p7 r=>?_
    ·refine wp_skip (p5 _ _ (sQ fun _ p8=>blockQ fun _ p9=>sR fun _ q0=>Ym (iV A) (eh b2) (Ya (iV A) e0 (wK q0 (bE r fun u4 b3 r=>bE r fun q2 e8 r=>bE r fun e9 q3 r=>dR [0,0,0,6,14,0,62,126,255,511] [8,9] 2 folM ?_)))))
     replace b:=b.drew
     refine Dn [0,1,2,3,4,5,6,7] [] [8] (yR rfl (lbs_ [.bool O,R.v] ST_31 (eh S) b R3) (yR rfl (m_ q.v (eh b1)) (yR rfl (m_ (iV A) e0) ?_)))
     obtain ⟨u5,T⟩:=b.famI R2 b3
     refine yR rfl (yIa SLH_22 e0 e0 b rO1 T) (yR rfl (yF1 O_32 e0 b rO1 T rfl) (yR rfl (m_ (iV A) e0) (yR rfl (yIa SL_32 e0 e0 b (rdF R2 T b3) e8) ?_)))
     obtain ⟨u6,u7,cc378,b⟩:=b.ld (rdF R2 T b3) e8
     replace b:=b.eltP
     obtain ⟨u8,u9,rfl,b⟩:=b
     replace b:=b.eltB
     obtain ⟨rfl,b⟩:=b
     replace b:=b.eltS
     obtain ⟨q4,rfl,b⟩:=b
     refine yR rfl (yCn (cs:=[.bool q2.1,q4.v]) ST_31 rfl e0 cc378) (Rn QSn ?_)
     refine Lc1 rfl ?_
     refine Lk wn (yCall FN_75 (a2 e0 e0)) (integer_Add_ok q3 F1 F0 b) ?_
     rintro _ w ⟨f0,rfl,b⟩
     refine ⟨_,rfl,?_⟩
     refine Dn [] [] [9] (Rn QSn ?_)
     refine Lc1 rfl ?_
     replace b:=b.k13
     refine LT wn (r_stbn (vals':=[.bool e9.1,f0.v]) (us:=[.bool e9.1,f0.v]) b ST_31 (eh S) e0 rfl rfl (one_of rfl) rfl) fun w b=>Dz [] [] (Rn QSn (p9 _ _ _ (p8 _ _ (wR (yY (yadd (eh b2) rfl) (Ym (iV (wa .i64 A 1)) e0 (wN ?_)))))))
     cases r
     exact p2 _ _ _ rfl ⟨_,_,_,_,_,rfl,rfl,e3,e4,e5,e6,b1,S,e7,rfl,((b.k1q).facts (allC F0 (allT (allT (allT allI)))))⟩
    ·refine wp_exit (p6 _ _ _ rfl ?_)
     cases r
     exact p3 _ _ _ _ rfl rfl (n7 _ _ _ _ _ e3 e4 e5 e6 b1 S b (p1 _ rfl))
   refine loopQ (fun s a w=>∃ (b4:List (List (Bool×LI))) (p:Int) (f:FV),(b4,p)=s∧a=fr 102 f∧f 0=m.v∧f 3=iV (i.length:Int)∧f 4=d.v∧f 5=o.v∧f 7=iV k∧f 42=iV (J.length:Int)∧f 43=iV p∧St w0 ros (row 31 (rP rB (rS (rI .u32))) d.v x::row 32 rH o.v C::fam 31 (rP rB (rS (rI .u32))) C b4::rs) w) m1 ⟨_,_,_,rfl,rfl,j9,d1,d2,d3,d4,rfl,rfl,b⟩ ?_
   rintro _ _ w v0 ⟨b4,p,f,rfl,rfl,f1,b5,b6,I,b7,f2,b8,b⟩ h q5 v1 q6 q7
   refine sR fun _ q8=>yY (ylss (eh b8) (eh f2)) (wK q8 (seqQ fun v2 q9 r0=>?_))
   refine cIf e0 h (fun r1 h=>?_) fun r1 h=>?_
   ·refine wp_skip (q9 _ _ (sQ fun _ r2=>blockQ fun _ r3=>sR fun _ r4=>Ym (iV p) (eh b8) (Ya (iV p) e0 (wK r4 (bE h fun v3 b9 h=>bE h fun v4 c0 h=>bE h fun r5 f3 h=>bE h fun r7 f4 h=>?_)))))
    refine bE h fun r8 r9 h=>bE h fun v5 f5 h=>bE h fun v6 s0 h=>dR [0,0,3,7,0,0,0,96,224,0,992,2016,0,0,0,24576,57344,126976,258048,524256,1048575,2097151] [19,21] 2 folM ?_
    replace b:=b.drew
    refine Dn [0,1,2,3,4,5,6,7,8,9,10,11,12,13,14,15,16,17,18] [] [19] (yR rfl (m_ o.v (eh I)) (yR rfl (m_ (iV p) e0) ?_))
    obtain ⟨v7,D⟩:=b.famI R2 b9
    refine yR rfl (yIa SLH_22 e0 e0 b rO1 D) (yR rfl (yF1 O_32 e0 b rO1 D rfl) (yR rfl (m_ (iV p) e0) (yR rfl (m_ o.v (eh I)) (yR rfl (m_ (iV p) e0) ?_))))
    obtain ⟨v8,U⟩:=b.famI R2 c0
    refine yR rfl (yIa SLH_22 e0 e0 b rO1 U) (yR rfl (yF1 O_32 e0 b rO1 U rfl) (yR rfl (m_ (iV p) e0) (yR rfl (yIa SL_32 e0 e0 b (rdF R2 U c0) f3) ?_)))
    obtain ⟨v9,w1,cc394,b⟩:=b.ld (rdF R2 U c0) f3
    replace b:=b.eltP
    obtain ⟨w2,w3,rfl,b⟩:=b
    replace b:=b.eltB
    obtain ⟨rfl,b⟩:=b
    replace b:=b.eltS
    obtain ⟨s1,rfl,b⟩:=b
    refine yR rfl (yCn (cs:=[.bool r5.1,s1.v]) ST_31 rfl e0 cc394) (yR rfl (m_ d.v (eh b6)) (yR rfl (m_ (iV (i.length:Int)) (eh b5)) (yR rfl (m_ (iV k) (eh b7)) (yR rfl (ysub e0 e0) (yR rfl (yadd e0 rfl) (yR rfl (yIa SL_32 e0 e0 b rO0 f4) ?_))))))
    obtain ⟨w4,w5,cc397,b⟩:=b.ld rO0 f4
    replace b:=b.eltP
    obtain ⟨w6,w7,rfl,b⟩:=b
    replace b:=b.eltB
    obtain ⟨rfl,b⟩:=b
    replace b:=b.eltS
    obtain ⟨s2,rfl,b⟩:=b
    refine yR rfl (yCn (cs:=[.bool r7.1,s2.v]) ST_31 rfl e0 cc397) (Rn QSn ?_)
    refine Lc1 rfl ?_
    refine Lk wn (yCall FN_75 (a2 e0 e0)) (integer_Add_ok r9 F1 F0 b) ?_
    rintro _ w ⟨s3,rfl,b⟩
    refine ⟨_,rfl,?_⟩
    refine Dn [20] [0,1,2,3,4] [21] (yR rfl (yIs SL_32 e0 e0 b (rdF R2 D b9) f5) (Rn (yS rfl (m_ o.v (eh I)) (yS rfl (m_ (iV p) e0) (yS rfl (yIa SLH_22 e0 e0 b rO1 D) (yS rfl (yF1 O_32 e0 b rO1 D rfl) (yS rfl (m_ (iV p) e0) QSn))))) ?_))
    refine Lc1 rfl ?_
    replace b:=b.k1h
    refine LT wn (r_stn (cs:=[.bool r8.1,s3.v]) (b.foc D b9) ST_31 e0 e0 rfl (mkP mkB (mkS F0)) f5) fun w b=>?_
    replace b:=b.unfoc' D s0
    refine Dz [] [] (Rn QSn (r3 _ _ _ (r2 _ _ (wR (yY (yadd (eh b8) rfl) (Ym (iV (wa .i64 p 1)) e0 (wN ?_)))))))
    cases h
    exact q6 _ _ _ rfl ⟨_,_,_,rfl,rfl,f1,b5,b6,I,b7,f2,rfl,((b.k1c).facts (allT (allT (allT allI))))⟩
   ·refine wp_exit (r0 _ _ _ rfl ?_)
    cases h
    exact q7 _ _ _ _ rfl rfl (m2 _ _ _ f1 b5 b6 I b7 b (q5 _ rfl))
  ·refine wp_exit (l1 _ _ _ rfl ?_)
   cases g
   exact k9 _ _ _ _ rfl rfl (j6 _ _ _ d2 (b.k1v) (k0 _ rfl))
 refine loopQ (fun s a w=>∃ (c1:List (List (Bool×LI))) (E:Int) (f:FV) (c2:List Hdr),(c1,E)=s∧a=fr 102 f∧f 0=m.v∧f 3=iV (i.length:Int)∧f 4=d.v∧f 5=B.v∧f 26=iV (h1.length:Int)∧f 27=iV E∧St w0 ros (row 31 (rP rB (rS (rI .u32))) d.v c9::row 32 rH B.v c2::fam 31 (rP rB (rS (rI .u32))) c2 c1::rs) w) i4 ⟨_,_,_,_,rfl,rfl,rfl,rfl,rfl,rfl,rfl,rfl,((b.k1h).facts (allT allI))⟩ ?_
 rintro _ _ w w8 ⟨c1,E,f,c2,rfl,rfl,f6,c3,f7,c4,f8,c5,b⟩ t s4 w9 s5 s6
 refine sR fun _ s7=>yY (ylss (eh c5) (eh f8)) (wK s7 (seqQ fun x0 s8 s9=>?_))
 refine cIf e0 t (fun t0 t=>?_) fun t0 t=>?_
 ·refine wp_skip (s8 _ _ (sQ fun _ t1=>blockQ fun _ t2=>sR fun _ t3=>Ym (iV E) (eh c5) (Ya (iV E) e0 (wK t3 (wR (Ym B.v (eh c4) (Ym (iV E) e0 (Ym (iV (i.length:Int)) (eh c3) ?_))))))))
  refine bE t fun x2 t4 t=>yH (rMk b SL_32 e0 t4) fun f9 w b=>bE t fun x3 g0 t=>?_
  obtain ⟨x4,c6⟩:=setI_len (u:=f9) g0 (b.famL (mtR (mtR (mtR mhR))))
  refine yY (yIs SLH_22 e0 e0 b rO2 c6) (yT (r_sti (cs:=[f9.v]) (b.k1h) O_32 rfl e0 e0 rfl (mkF rfl) c6) fun w b=>?_)
  replace b:=(b.k3c).fput c6 g0
  refine wN (t2 _ _ _ (t1 _ _ (wR (yY (yadd (eh c5) rfl) (Ym (iV (wa .i64 E 1)) e0 (wN ?_))))))
  cases t
  exact s5 _ _ _ rfl ⟨_,_,_,_,rfl,rfl,f6,c3,f7,c4,f8,rfl,(b.k1y)⟩
 ·refine wp_exit (s9 _ _ _ rfl ?_)
  cases t
  exact s6 _ _ _ _ rfl rfl (i5 _ _ _ _ f6 c3 f7 c4 b (s4 _ rfl))
end Go.Proofs.YtpfmbaidflhamaaGreatDoor
