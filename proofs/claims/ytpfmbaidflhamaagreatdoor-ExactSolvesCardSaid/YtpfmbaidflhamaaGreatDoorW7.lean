/- Walks: each function computes its model, printed. -/
import Derived.Test.YtpfmbaidflhamaaGreatDoorW6
namespace Go.Proofs.YtpfmbaidflhamaaGreatDoor
open Go Sx M
set_option maxRecDepth 100000
set_option maxHeartbeats 40000000
set_option linter.unusedVariables false
attribute [local irreducible] wpList Code.wp Calls DR QR QS LA LS St
variable {w0:World} {ros:List Fact} {rs:List Res} {w:World}
theorem sparseref08_minus_ok {z:Bool} {V:LI} {o:Bool} {W:LI} {A:Bool} {X:LI} {j:Bool} {Z:LI} {B:Bool} {a0:LI} {k:Bool} {a1:LI} {d:Bool} {a3:LI} {q:Bool} {a4:LI} {C p D l E m g r:Hdr} {out:Bool×LI×Bool×LI} (c:sparseref08_minus z V o W A X j Z B a0 k a1 d a3 q a4=some out) (b7:imm (rI .u32) C.v V∈ros) (a5:imm (rI .u32) p.v W∈ros) (a6:imm (rI .u32) D.v X∈ros) (J:imm (rI .u32) l.v Z∈ros) (a7:imm (rI .u32) E.v a0∈ros) (K:imm (rI .u32) m.v a1∈ros) (F:imm (rI .u32) g.v a3∈ros) (R:imm (rI .u32) r.v a4∈ros) (a:St w0 ros rs w):
  Calls Tryz.prog 58 #[.agg #[.bool z,C.v,.bool o,p.v],.agg #[.bool A,D.v,.bool j,l.v],.agg #[.bool B,E.v,.bool k,m.v],.agg #[.bool d,g.v,.bool q,r.v]] w (fun e w=>∃ (a8 a9:Hdr),e=.returned (.agg #[.bool out.1,a8.v,.bool out.2.2.1,a9.v])∧St w0 ros (row 103 (rI .u32) a8.v out.2.1::row 103 (rI .u32) a9.v out.2.2.2::rs) w):=by
 refine enterQ Tryz.func58 rfl Tryz.ntmps58 rfl fun Q b8=>sR fun _ b9=>yBb (r_box (vals:=[.bool z,C.v,.bool o,p.v]) a e0 rfl) fun b0 w a=>yBb (r_box (vals:=[.bool A,D.v,.bool j,l.v]) a e0 rfl) fun c8 w a=>yBb (r_box (vals:=[.bool B,E.v,.bool k,m.v]) a e0 rfl) fun c9 w a=>yBb (r_box (vals:=[.bool d,g.v,.bool q,r.v]) a e0 rfl) fun d0 w a=>yBb (rAl a ZT_80) fun b1 w a=>wN ?_
 refine b9 _ _ (sQ fun _ c0=>bE c fun d1 b2 c=>bE c fun d2 S c=>bE c fun d3 L c=>bE c fun d4 G c=>bE c fun b x c=>?_)
 refine joinN (n:=44) (fun f w=>∃ (T:Nat) (H s:Hdr),f 4=(pB b0)∧f 8=(pB b1)∧f 9=(pB T)∧St w0 ros (box b0 80 [.bool z,C.v,.bool o,p.v]::box b1 80 [.bool false,hnil.v,.bool false,hnil.v]::row 103 (rI .u32) H.v b.2.1::row 103 (rI .u32) s.v b.2.2.2::box T 80 [.bool b.1,H.v,.bool b.2.2.1,s.v]::rs) w) (fun y=>?_) ?_
 ·refine dR [0,1,0,4,15,0,32,127,0,256,0,1024,4095,0,8192,32767,65535,0,262143] [4,7,12,15,16,17,18] 7 folM ?_
  replace a:=a.drew
  refine Dn [0,1,2,3,5,6,8,9,10,11,13,14] [] [4,17] (yR rfl (yFb FL_80_0 e0) (yR rfl (lbs_ [.bool A,D.v] ST_31 e0 a R3) (yR rfl (yFb FL_80_0 e0) (yR rfl (lbs_ [.bool B,E.v] ST_31 e0 a R2) (yR rfl (yFb FL_80_1 e0) (yR rfl (lbs_ [.bool q,r.v] ST_31 e0 a R1) (yR rfl (yFb FL_80_1 e0) (yR rfl (lbs_ [.bool j,l.v] ST_31 e0 a R3) (yR rfl (yFb FL_80_1 e0) (yR rfl (lbs_ [.bool k,m.v] ST_31 e0 a R2) (yR rfl (yFb FL_80_0 e0) (yR rfl (lbs_ [.bool d,g.v] ST_31 e0 a R1) (Rn QSn ?_)))))))))))))
  refine Lc rfl ?_ (Lc1 rfl ?_)
  ·refine Lk wn (yCall FN_86 (a2 e0 e0)) (sparseref01_Mul_ok b2 a6 a7 a) ?_
   rintro _ w ⟨c1,rfl,a⟩
   refine ⟨_,rfl,?_⟩
   refine Dn [] [5,6,8,9,10,11,13,14] [7,17] (Rn (yS rfl (yFb FL_80_1 e0) (yS rfl (lbs_ [.bool q,r.v] ST_31 e0 a R2) (yS rfl (yFb FL_80_1 e0) (yS rfl (lbs_ [.bool j,l.v] ST_31 e0 a R4) (yS rfl (yFb FL_80_1 e0) (yS rfl (lbs_ [.bool k,m.v] ST_31 e0 a R3) (yS rfl (yFb FL_80_0 e0) (yS rfl (lbs_ [.bool d,g.v] ST_31 e0 a R2) QSn)))))))) ?_)
   refine Lc rfl ?_ (Lc1 rfl ?_)
   ·replace a:=a.fz
    refine Lk wn (yCall FN_86 (a2 e0 e0)) (sparseref01_Mul_ok S F0 (mtF R) a) ?_
    rintro _ w ⟨b3,rfl,a⟩
    refine ⟨_,rfl,?_⟩
    refine Dn [] [8,9,10,11,13,14] [12,17] (Rn (yS rfl (yFb FL_80_1 e0) (yS rfl (lbs_ [.bool j,l.v] ST_31 e0 a R4) (yS rfl (yFb FL_80_1 e0) (yS rfl (lbs_ [.bool k,m.v] ST_31 e0 a R3) (yS rfl (yFb FL_80_0 e0) (yS rfl (lbs_ [.bool d,g.v] ST_31 e0 a R2) QSn)))))) ?_)
    refine Lc rfl ?_ (Lc1 rfl ?_)
    ·refine Lk wn (yCall FN_86 (a2 e0 e0)) (sparseref01_Mul_ok L (mtF J) (mtF K) a) ?_
     rintro _ w ⟨U,rfl,a⟩
     refine ⟨_,rfl,?_⟩
     refine Dn [] [13,14] [15,17] (Rn (yS rfl (yFb FL_80_0 e0) (yS rfl (lbs_ [.bool d,g.v] ST_31 e0 a R3) QSn)) ?_)
     refine Lc rfl ?_ (Lc1 rfl ?_)
     ·replace a:=a.fz
      refine Lk wn (yCall FN_86 (a2 e0 e0)) (sparseref01_Mul_ok G F0 (F_2 F) a) ?_
      rintro _ w ⟨N,rfl,a⟩
      refine ⟨_,rfl,?_⟩
      refine Dn [] [] [16,17] (Rn QSn ?_)
      refine Lc rfl ?_ (Lc1 rfl ?_)
      ·replace a:=a.k11
       replace a:=a.fz.fz
       refine Lk wn (yCall FN_85 (a2 e0 e0)) (sparseref08_frac_ok x F1 F0 a) ?_
       rintro _ w ⟨h,i,rfl,a⟩
       refine ⟨_,rfl,?_⟩
       refine Dn [] [] [17] (Rn QSn ?_)
       refine Lc1 rfl ?_
       refine LB wn (rAl a ZT_80) fun I w a=>Dn [] [] [18] (Rn QSn ?_)
       refine Lc1 rfl ?_
       exact LT wn (r_stbn (vals':=[.bool b.1,h.v,.bool b.2.2.1,i.v]) (us:=[.bool b.1,h.v,.bool b.2.2.1,i.v]) a ST_80 e0 e0 rfl rfl (one_of rfl) rfl) fun w a=>Dz [] [] (Rn QSn (y _ _ ⟨_,_,_,rfl,rfl,rfl,((a.k30).facts (allT (allT (allT (allT allI)))))⟩))
      ·refine LB wn (rAl a ZT_80) fun I w a=>Dn [] [] [16] (Rn QSn ?_)
       refine Lc1 rfl ?_
       replace a:=(((a.k1f).fz).k11).fz
       refine Lk wn (yCall FN_85 (a2 e0 e0)) (sparseref08_frac_ok x F1 F0 a) ?_
       rintro _ w ⟨h,i,rfl,a⟩
       refine ⟨_,rfl,?_⟩
       refine Dn [] [] [18] (Rn QSn ?_)
       refine Lc1 rfl ?_
       replace a:=a.k1f
       exact LT wn (r_stbn (vals':=[.bool b.1,h.v,.bool b.2.2.1,i.v]) (us:=[.bool b.1,h.v,.bool b.2.2.1,i.v]) a ST_80 e0 e0 rfl rfl (one_of rfl) rfl) fun w a=>Dz [] [] (Rn QSn (y _ _ ⟨_,_,_,rfl,rfl,rfl,((a.k30).facts (allT (allT (allT (allT allI)))))⟩))
     ·refine LB wn (rAl a ZT_80) fun I w a=>Dn [] [13,14] [15] (Rn (yS rfl (yFb FL_80_0 e0) (yS rfl (lbs_ [.bool d,g.v] ST_31 e0 a R4) QSn)) ?_)
      refine Lc1 rfl ?_
      replace a:=(a.k11).fz
      refine Lk wn (yCall FN_86 (a2 e0 e0)) (sparseref01_Mul_ok G F0 (F_2 F) a) ?_
      rintro _ w ⟨N,rfl,a⟩
      refine ⟨_,rfl,?_⟩
      refine Dn [] [] [16] (Rn QSn ?_)
      refine Lc1 rfl ?_
      replace a:=((a.k1f).fz).fz
      refine Lk wn (yCall FN_85 (a2 e0 e0)) (sparseref08_frac_ok x F1 F0 a) ?_
      rintro _ w ⟨h,i,rfl,a⟩
      refine ⟨_,rfl,?_⟩
      refine Dn [] [] [18] (Rn QSn ?_)
      refine Lc1 rfl ?_
      replace a:=a.k1f
      exact LT wn (r_stbn (vals':=[.bool b.1,h.v,.bool b.2.2.1,i.v]) (us:=[.bool b.1,h.v,.bool b.2.2.1,i.v]) a ST_80 e0 e0 rfl rfl (one_of rfl) rfl) fun w a=>Dz [] [] (Rn QSn (y _ _ ⟨_,_,_,rfl,rfl,rfl,((a.k30).facts (allT (allT (allT (allT allI)))))⟩))
    ·refine LB wn (rAl a ZT_80) fun I w a=>Dn [] [8,9,10,11,13,14] [12] (Rn (yS rfl (yFb FL_80_1 e0) (yS rfl (lbs_ [.bool j,l.v] ST_31 e0 a R5) (yS rfl (yFb FL_80_1 e0) (yS rfl (lbs_ [.bool k,m.v] ST_31 e0 a R4) (yS rfl (yFb FL_80_0 e0) (yS rfl (lbs_ [.bool d,g.v] ST_31 e0 a R3) QSn)))))) ?_)
     refine Lc1 rfl ?_
     refine Lk wn (yCall FN_86 (a2 e0 e0)) (sparseref01_Mul_ok L (mtF J) (mtF K) a) ?_
     rintro _ w ⟨U,rfl,a⟩
     refine ⟨_,rfl,?_⟩
     refine Dn [] [13,14] [15] (Rn (yS rfl (yFb FL_80_0 e0) (yS rfl (lbs_ [.bool d,g.v] ST_31 e0 a R4) QSn)) ?_)
     refine Lc1 rfl ?_
     replace a:=a.fz
     refine Lk wn (yCall FN_86 (a2 e0 e0)) (sparseref01_Mul_ok G F0 (F_2 F) a) ?_
     rintro _ w ⟨N,rfl,a⟩
     refine ⟨_,rfl,?_⟩
     refine Dn [] [] [16] (Rn QSn ?_)
     refine Lc1 rfl ?_
     replace a:=((a.k1f).fz).fz
     refine Lk wn (yCall FN_85 (a2 e0 e0)) (sparseref08_frac_ok x F1 F0 a) ?_
     rintro _ w ⟨h,i,rfl,a⟩
     refine ⟨_,rfl,?_⟩
     refine Dn [] [] [18] (Rn QSn ?_)
     refine Lc1 rfl ?_
     replace a:=a.k1f
     exact LT wn (r_stbn (vals':=[.bool b.1,h.v,.bool b.2.2.1,i.v]) (us:=[.bool b.1,h.v,.bool b.2.2.1,i.v]) a ST_80 e0 e0 rfl rfl (one_of rfl) rfl) fun w a=>Dz [] [] (Rn QSn (y _ _ ⟨_,_,_,rfl,rfl,rfl,((a.k30).facts (allT (allT (allT (allT allI)))))⟩))
   ·refine LB wn (rAl a ZT_80) fun I w a=>Dn [] [5,6,8,9,10,11,13,14] [7] (Rn (yS rfl (yFb FL_80_1 e0) (yS rfl (lbs_ [.bool q,r.v] ST_31 e0 a R3) (yS rfl (yFb FL_80_1 e0) (yS rfl (lbs_ [.bool j,l.v] ST_31 e0 a R5) (yS rfl (yFb FL_80_1 e0) (yS rfl (lbs_ [.bool k,m.v] ST_31 e0 a R4) (yS rfl (yFb FL_80_0 e0) (yS rfl (lbs_ [.bool d,g.v] ST_31 e0 a R3) QSn)))))))) ?_)
    refine Lc1 rfl ?_
    replace a:=(a.k11).fz
    refine Lk wn (yCall FN_86 (a2 e0 e0)) (sparseref01_Mul_ok S F0 (mtF R) a) ?_
    rintro _ w ⟨b3,rfl,a⟩
    refine ⟨_,rfl,?_⟩
    refine Dn [] [8,9,10,11,13,14] [12] (Rn (yS rfl (yFb FL_80_1 e0) (yS rfl (lbs_ [.bool j,l.v] ST_31 e0 a R5) (yS rfl (yFb FL_80_1 e0) (yS rfl (lbs_ [.bool k,m.v] ST_31 e0 a R4) (yS rfl (yFb FL_80_0 e0) (yS rfl (lbs_ [.bool d,g.v] ST_31 e0 a R3) QSn)))))) ?_)
    refine Lc1 rfl ?_
    refine Lk wn (yCall FN_86 (a2 e0 e0)) (sparseref01_Mul_ok L (mtF J) (mtF K) a) ?_
    rintro _ w ⟨U,rfl,a⟩
    refine ⟨_,rfl,?_⟩
    refine Dn [] [13,14] [15] (Rn (yS rfl (yFb FL_80_0 e0) (yS rfl (lbs_ [.bool d,g.v] ST_31 e0 a R4) QSn)) ?_)
    refine Lc1 rfl ?_
    replace a:=a.fz
    refine Lk wn (yCall FN_86 (a2 e0 e0)) (sparseref01_Mul_ok G F0 (F_2 F) a) ?_
    rintro _ w ⟨N,rfl,a⟩
    refine ⟨_,rfl,?_⟩
    refine Dn [] [] [16] (Rn QSn ?_)
    refine Lc1 rfl ?_
    replace a:=((a.k11).fz).fz
    refine Lk wn (yCall FN_85 (a2 e0 e0)) (sparseref08_frac_ok x F1 F0 a) ?_
    rintro _ w ⟨h,i,rfl,a⟩
    refine ⟨_,rfl,?_⟩
    refine Dn [] [] [18] (Rn QSn ?_)
    refine Lc1 rfl ?_
    replace a:=a.k1f
    exact LT wn (r_stbn (vals':=[.bool b.1,h.v,.bool b.2.2.1,i.v]) (us:=[.bool b.1,h.v,.bool b.2.2.1,i.v]) a ST_80 e0 e0 rfl rfl (one_of rfl) rfl) fun w a=>Dz [] [] (Rn QSn (y _ _ ⟨_,_,_,rfl,rfl,rfl,((a.k30).facts (allT (allT (allT (allT allI)))))⟩))
  ·refine LB wn (rAl a ZT_80) fun I w a=>Dn [] [0,1,2,3,5,6,8,9,10,11,13,14] [4] (Rn (yS rfl (yFb FL_80_0 e0) (yS rfl (lbs_ [.bool A,D.v] ST_31 e0 a R4) (yS rfl (yFb FL_80_0 e0) (yS rfl (lbs_ [.bool B,E.v] ST_31 e0 a R3) (yS rfl (yFb FL_80_1 e0) (yS rfl (lbs_ [.bool q,r.v] ST_31 e0 a R2) (yS rfl (yFb FL_80_1 e0) (yS rfl (lbs_ [.bool j,l.v] ST_31 e0 a R4) (yS rfl (yFb FL_80_1 e0) (yS rfl (lbs_ [.bool k,m.v] ST_31 e0 a R3) (yS rfl (yFb FL_80_0 e0) (yS rfl (lbs_ [.bool d,g.v] ST_31 e0 a R2) QSn)))))))))))) ?_)
   refine Lc1 rfl ?_
   refine Lk wn (yCall FN_86 (a2 e0 e0)) (sparseref01_Mul_ok b2 a6 a7 a) ?_
   rintro _ w ⟨c1,rfl,a⟩
   refine ⟨_,rfl,?_⟩
   refine Dn [] [5,6,8,9,10,11,13,14] [7] (Rn (yS rfl (yFb FL_80_1 e0) (yS rfl (lbs_ [.bool q,r.v] ST_31 e0 a R3) (yS rfl (yFb FL_80_1 e0) (yS rfl (lbs_ [.bool j,l.v] ST_31 e0 a R5) (yS rfl (yFb FL_80_1 e0) (yS rfl (lbs_ [.bool k,m.v] ST_31 e0 a R4) (yS rfl (yFb FL_80_0 e0) (yS rfl (lbs_ [.bool d,g.v] ST_31 e0 a R3) QSn)))))))) ?_)
   refine Lc1 rfl ?_
   replace a:=a.fz
   refine Lk wn (yCall FN_86 (a2 e0 e0)) (sparseref01_Mul_ok S F0 (mtF R) a) ?_
   rintro _ w ⟨b3,rfl,a⟩
   refine ⟨_,rfl,?_⟩
   refine Dn [] [8,9,10,11,13,14] [12] (Rn (yS rfl (yFb FL_80_1 e0) (yS rfl (lbs_ [.bool j,l.v] ST_31 e0 a R5) (yS rfl (yFb FL_80_1 e0) (yS rfl (lbs_ [.bool k,m.v] ST_31 e0 a R4) (yS rfl (yFb FL_80_0 e0) (yS rfl (lbs_ [.bool d,g.v] ST_31 e0 a R3) QSn)))))) ?_)
   refine Lc1 rfl ?_
   refine Lk wn (yCall FN_86 (a2 e0 e0)) (sparseref01_Mul_ok L (mtF J) (mtF K) a) ?_
   rintro _ w ⟨U,rfl,a⟩
   refine ⟨_,rfl,?_⟩
   refine Dn [] [13,14] [15] (Rn (yS rfl (yFb FL_80_0 e0) (yS rfl (lbs_ [.bool d,g.v] ST_31 e0 a R4) QSn)) ?_)
   refine Lc1 rfl ?_
   replace a:=a.fz
   refine Lk wn (yCall FN_86 (a2 e0 e0)) (sparseref01_Mul_ok G F0 (F_2 F) a) ?_
   rintro _ w ⟨N,rfl,a⟩
   refine ⟨_,rfl,?_⟩
   refine Dn [] [] [16] (Rn QSn ?_)
   refine Lc1 rfl ?_
   replace a:=((a.k11).fz).fz
   refine Lk wn (yCall FN_85 (a2 e0 e0)) (sparseref08_frac_ok x F1 F0 a) ?_
   rintro _ w ⟨h,i,rfl,a⟩
   refine ⟨_,rfl,?_⟩
   refine Dn [] [] [18] (Rn QSn ?_)
   refine Lc1 rfl ?_
   replace a:=a.k1f
   exact LT wn (r_stbn (vals':=[.bool b.1,h.v,.bool b.2.2.1,i.v]) (us:=[.bool b.1,h.v,.bool b.2.2.1,i.v]) a ST_80 e0 e0 rfl rfl (one_of rfl) rfl) fun w a=>Dz [] [] (Rn QSn (y _ _ ⟨_,_,_,rfl,rfl,rfl,((a.k30).facts (allT (allT (allT (allT allI)))))⟩))
 rintro f w ⟨T,H,s,t,b4,u,a⟩
 refine c0 _ _ (sQ fun _ c2=>bE c fun d5 c3 c=>bE c fun d6 c4 c=>bE c fun d7 c5 c=>bE c fun d8 c6 c=>bE c fun O c7 c=>dR [0,1,0,4,15,0,32,0,128,511,1023,0,2048,0,8192,32767,65535,131071] [4,9,10,15,16,17] 6 folM ?_)
 replace a:=a.drew
 refine Dn [0,1,2,3,5,6,7,8,11,12,13,14] [] [4] (yR rfl (yFb FL_80_0 (eh t)) (yR rfl (lbs_ [.bool z,C.v] ST_31 e0 a R0) (yR rfl (yFb FL_80_1 (eh u)) (yR rfl (lbs_ [.bool b.2.2.1,s.v] ST_31 e0 a R4) (yR rfl (yFb FL_80_0 (eh u)) (yR rfl (lbs_ [.bool b.1,H.v] ST_31 e0 a R4) (yR rfl (yFb FL_80_1 (eh t)) (yR rfl (lbs_ [.bool o,p.v] ST_31 e0 a R0) (yR rfl (yFb FL_80_1 (eh t)) (yR rfl (lbs_ [.bool o,p.v] ST_31 e0 a R0) (yR rfl (yFb FL_80_1 (eh u)) (yR rfl (lbs_ [.bool b.2.2.1,s.v] ST_31 e0 a R4) (Rn QSn ?_)))))))))))))
 refine Lc1 rfl ?_
 replace a:=(a.k17).fz
 refine Lk wn (yCall FN_86 (a2 e0 e0)) (sparseref01_Mul_ok c3 (mtF b7) F0 a) ?_
 rintro _ w ⟨d9,rfl,a⟩
 refine ⟨_,rfl,?_⟩
 refine Dn [] [5,6,7,8,11,12,13,14] [9] (Rn (yS rfl (yFb FL_80_0 (eh u)) (yS rfl (lbs_ [.bool b.1,H.v] ST_31 e0 a R4) (yS rfl (yFb FL_80_1 (eh t)) (yS rfl (lbs_ [.bool o,p.v] ST_31 e0 a R1) (yS rfl (yFb FL_80_1 (eh t)) (yS rfl (lbs_ [.bool o,p.v] ST_31 e0 a R1) (yS rfl (yFb FL_80_1 (eh u)) (yS rfl (lbs_ [.bool b.2.2.1,s.v] ST_31 e0 a R4) QSn)))))))) ?_)
 refine Lc1 rfl ?_
 replace a:=(a.k17).fz
 refine Lk wn (yCall FN_86 (a2 e0 e0)) (sparseref01_Mul_ok c4 F0 (F_2 a5) a) ?_
 rintro _ w ⟨e1,rfl,a⟩
 refine ⟨_,rfl,?_⟩
 refine Dn [] [11,12,13,14] [10] (Rn (yS rfl (yFb FL_80_1 (eh t)) (yS rfl (lbs_ [.bool o,p.v] ST_31 e0 a R2) (yS rfl (yFb FL_80_1 (eh u)) (yS rfl (lbs_ [.bool b.2.2.1,s.v] ST_31 e0 a R4) QSn)))) ?_)
 refine Lc1 rfl ?_
 replace a:=((a.k11).fz).fz
 refine Lk wn (yCall FN_105 (a2 e0 e0)) (sparseref01_Sub_ok c5 F1 F0 a) ?_
 rintro _ w ⟨e2,rfl,a⟩
 refine ⟨_,rfl,?_⟩
 refine Dn [] [11,12,13,14] [15] (Rn (yS rfl (yFb FL_80_1 (eh t)) (yS rfl (lbs_ [.bool o,p.v] ST_31 e0 a R1) (yS rfl (yFb FL_80_1 (eh u)) (yS rfl (lbs_ [.bool b.2.2.1,s.v] ST_31 e0 a R3) QSn)))) ?_)
 refine Lc1 rfl ?_
 refine Lk wn (yCall FN_86 (a2 e0 e0)) (sparseref01_Mul_ok c6 (F_4 a5) F3 a) ?_
 rintro _ w ⟨e3,rfl,a⟩
 refine ⟨_,rfl,?_⟩
 refine Dn [] [] [16] (Rn QSn ?_)
 refine Lc1 rfl ?_
 replace a:=((a.k11).fz).fz
 refine Lk wn (yCall FN_85 (a2 e0 e0)) (sparseref08_frac_ok c7 F1 F0 a) ?_
 rintro _ w ⟨b5,b6,rfl,a⟩
 refine ⟨_,rfl,?_⟩
 refine Dn [] [] [17] (Rn QSn ?_)
 refine Lc1 rfl ?_
 replace a:=a.k17
 refine LT wn (r_stbn (vals':=[.bool O.1,b5.v,.bool O.2.2.1,b6.v]) (us:=[.bool O.1,b5.v,.bool O.2.2.1,b6.v]) a ST_80 (eh b4) e0 rfl rfl (one_of rfl) rfl) fun w a=>Dz [] [] (Rn QSn (c2 _ _ (wp_ret ?_)))
 cases c
 exact b8 _ _ _ (fin1r Tryz.results58 (rcs2 rfl b4 a R0 ST_80 rfl) ⟨_,_,rfl,((a.k31).facts (allT (allT (allT (allT (allT (allT allI)))))))⟩)
theorem sparseref08_echelon_ok {i6:List (List (Bool×LI×Bool×LI))} {r:Int} {c:Hdr} {i7:List Hdr} {out:(List (List (Bool×LI×Bool×LI)))×LI×Bool×LI×Bool×LI} (g:sparseref08_echelon i6 r=some out) (b:St w0 ros (row 81 rH c.v i7::fam 80 (rP rB (rP (rS (rI .u32)) (rP rB (rS (rI .u32))))) i7 i6::rs) w):
  Calls Tryz.prog 83 #[c.v,iV r] w (fun e w=>∃ (i8:List Hdr) (i9 j0 j1:Hdr),e=.returned (.tuple #[i9.v,.agg #[.bool out.2.2.1,j0.v,.bool out.2.2.2.2.1,j1.v]])∧St w0 ros (row 81 rH c.v i8::fam 80 (rP rB (rP (rS (rI .u32)) (rP rB (rS (rI .u32))))) i8 out.1::row 3 I1 i9.v out.2.1::row 103 (rI .u32) j0.v out.2.2.2.1::row 103 (rI .u32) j1.v out.2.2.2.2.2::rs) w):=by
 refine enterQ Tryz.func83 rfl Tryz.ntmps83 rfl fun Q p2=>sR fun _ p3=>Ya hnil.v rfl (yBb (rAl b ZT_80) fun k w b=>wK p3 (sR fun _ p4=>bE g fun b4 p5 g=>yC (yCall FN_84 (a1 rfl)) (sparseref01_FromInt_ok p5 b) ?_))
 rintro _ w ⟨b6,rfl,b⟩
 refine ⟨_,rfl,?_⟩
 refine bE g fun b7 p6 g=>yC (yCall FN_84 (a1 rfl)) (sparseref01_FromInt_ok p6 b) ?_
 rintro _ w ⟨b8,rfl,b⟩
 refine ⟨_,rfl,?_⟩
 refine yY (ybuild (us:=[.bool b4.1,b6.v,.bool b7.1,b8.v]) [(0,.agg #[.bool b4.1,b6.v]),(1,.agg #[.bool b7.1,b8.v])] SO_80 (bp2 e0 e0) rfl) (yBb (rAl b ZT_80) fun m w b=>yT (r_stbn (vals':=[.bool b4.1,b6.v,.bool b7.1,b8.v]) (us:=[.bool b4.1,b6.v,.bool b7.1,b8.v]) b ST_80 e0 e0 rfl rfl (one_of rfl) rfl) fun w b=>wK p4 (sR fun _ p7=>Ya hnil.v rfl (wK p7 (sQ fun _ p8=>sQ fun _ p9=>?_))))
 refine wR (Ya (iV 0) rfl (wK p9 (blockQ fun q0 q1=>bE g fun q2 q3 g=>?_)))
 have q4:∀ (d8:List (List (Bool×LI×Bool×LI))) (L:Bool) (d9:LI) (N:Bool) (e1:LI) (e2:LI) (e3:List Hdr) (O:Hdr) (R:Hdr) (a9:Hdr) (f:FV) w,f 5=(pB k)→f 6=(pB m)→f 7=a9.v→St w0 ros (row 81 rH c.v e3::fam 80 (rP rB (rP (rS (rI .u32)) (rP rB (rS (rI .u32))))) e3 d8::box k 80 [.bool false,hnil.v,.bool false,hnil.v]::row 103 (rI .u32) O.v d9::row 103 (rI .u32) R.v e1::box m 80 [.bool L,O.v,.bool N,R.v]::row 3 I1 a9.v e2::rs) w→(d8,L,d9,N,e1,e2)=q2→q0 (.exit 0) (fr 145 f) w:=by
  intro d8 L d9 N e1 e2 e3 O R a9 f w j2 j3 q5 b ho
  subst ho
  refine q1 _ _ _ (p8 _ _ (sQ fun _ q6=>dR [0,0,1,7] [2,3] 2 folM ?_))
  replace b:=b.drew
  refine Dn [0,1] [] [2] (yR rfl (m_ a9.v (eh q5)) (yR rfl (lbs_ [.bool L,O.v,.bool N,R.v] ST_80 (eh j3) b R5) (Rn QSn ?_)))
  refine Lc1 rfl ?_
  refine Ly wn (a_ a9.v e0) (Dn [] [1] [3] (Rn (yS rfl (lbs_ [.bool L,O.v,.bool N,R.v] ST_80 (eh j3) b R5) QSn) ?_))
  refine Lc1 rfl ?_
  replace b:=b.k1f
  refine LT wn (r_stbn (vals':=[.bool L,O.v,.bool N,R.v]) (us:=[.bool L,O.v,.bool N,R.v]) b ST_80 (eh j2) e0 rfl rfl (one_of rfl) rfl) fun w b=>Dz [] [] (Rn QSn (q6 _ _ (wp_ret ?_)))
  cases g
  exact p2 _ _ _ (fin2r Tryz.results83 ⟨rfl,rfl⟩ (rcs2 rfl j2 b R0 ST_80 rfl) ⟨_,_,_,_,rfl,(b.k32)⟩)
 replace b:=b.rowNh 3 I1
 refine loopQ (fun s a w=>∃ (S:List (List (Bool×LI×Bool×LI))) (T:Bool) (a0:LI) (z:Bool) (K:LI) (d:LI) (h:Int) (f:FV) (H:List Hdr) (D:Hdr) (t:Hdr) (o:Hdr),(S,T,a0,z,K,d,h)=s∧a=fr 145 f∧f 0=c.v∧f 1=iV r∧f 5=(pB k)∧f 6=(pB m)∧f 7=o.v∧f 8=iV h∧St w0 ros (row 81 rH c.v H::fam 80 (rP rB (rP (rS (rI .u32)) (rP rB (rS (rI .u32))))) H S::box k 80 [.bool false,hnil.v,.bool false,hnil.v]::row 103 (rI .u32) D.v a0::row 103 (rI .u32) t.v K::box m 80 [.bool T,D.v,.bool z,t.v]::row 3 I1 o.v d::rs) w) q3 ⟨_,_,_,_,_,_,_,_,_,_,_,_,rfl,rfl,rfl,rfl,rfl,rfl,rfl,rfl,(b.k33)⟩ ?_
 rintro _ _ w j4 ⟨S,T,a0,z,K,d,h,f,H,D,t,o,rfl,rfl,q7,j5,j6,j7,e4,j8,b⟩ i q8 C6 q9 r0
 refine seqQ fun C7 r1 r2=>sR fun _ r3=>Ym (iV h) (eh j8) (Ym (iV r) (eh j5) (yY (ylss e0 e0) (wK r3 ?_)))
 refine cIf e0 i (fun r4 i=>?_) fun r4 i=>?_
 ·refine wp_skip (r1 _ _ (sQ fun r5 r7=>?_))
  have j9:∀ (e5:List (List (Bool×LI×Bool×LI))) (e6:Bool) (e7:LI) (e8:Bool) (e9:LI) (f0:LI) (f1:List Hdr) (f2:Hdr) (f3:Hdr) (f4:Hdr) (f:FV) w,f 0=c.v→f 1=iV r→f 5=(pB k)→f 6=(pB m)→f 7=f4.v→f 8=iV h→St w0 ros (row 81 rH c.v f1::fam 80 (rP rB (rP (rS (rI .u32)) (rP rB (rS (rI .u32))))) f1 e5::box k 80 [.bool false,hnil.v,.bool false,hnil.v]::row 103 (rI .u32) f2.v e7::row 103 (rI .u32) f3.v e9::box m 80 [.bool e6,f2.v,.bool e8,f3.v]::row 3 I1 f4.v f0::rs) w→sparseref08_echelon_j76 h e5 e6 e7 e8 e9 f0=some j4→r5 .normal (fr 145 f) w:=by
   intro e5 e6 e7 e8 e9 f0 f1 f2 f3 f4 f w r9 s0 s1 s2 s3 s4 b g
   refine r7 _ _ (wR (Ym (iV h) (eh s4) (yY (yadd e0 rfl) (Ya (iV (wa .i64 h 1)) e0 (wN ?_)))))
   cases g
   exact q9 _ _ _ rfl ⟨_,_,_,_,_,_,_,_,_,_,_,_,rfl,rfl,r9,s0,s1,s2,s3,rfl,b⟩
  refine blockQ fun _ k0=>sR fun _ s5=>Ym o.v (eh e4) (yY (yLen SL_48 e0 b rO6) (Ya (iV (d.length:Int)) e0 (wK s5 (sR fun _ s6=>Ym (iV (d.length:Int)) e0 (Ya (iV (d.length:Int)) e0 (wK s6 ?_))))))
  refine sQ fun _ s7=>blockQ fun s8 s9=>bE i fun t0 t1 i=>?_
  have t2:∀ (U:Int) (f:FV) w,f 0=c.v→f 1=iV r→f 5=(pB k)→f 6=(pB m)→f 7=o.v→f 8=iV h→f 9=iV (d.length:Int)→f 10=iV U→St w0 ros (row 81 rH c.v H::fam 80 (rP rB (rP (rS (rI .u32)) (rP rB (rS (rI .u32))))) H S::box k 80 [.bool false,hnil.v,.bool false,hnil.v]::row 103 (rI .u32) D.v a0::row 103 (rI .u32) t.v K::box m 80 [.bool T,D.v,.bool z,t.v]::row 3 I1 o.v d::rs) w→U=t0→s8 (.exit 2) (fr 145 f) w:=by
   intro U f w I f5 f6 b0 f7 f8 a3 b9 b ho
   subst ho
   refine s9 _ _ _ (s7 _ _ (seqQ fun C8 t3 t4=>sR fun _ t5=>Ym (iV U) (eh b9) (Ym c.v (eh I) (yY (yLenF SLH_75 e0 b rO0 R1) (yY (yeql e0 e0) (wK t5 ?_))))))
   refine cIf e0 i (fun t6 i=>?_) fun t6 i=>?_
   ·exact wp_exit (t4 _ _ _ rfl (k0 _ _ _ (j9 _ _ _ _ _ _ _ _ _ _ _ _ I f5 f6 b0 f7 f8 b i)))
   ·refine wp_skip (t3 _ _ (sQ fun t7 t8=>sR fun _ t9=>Ym (iV U) (eh b9) (Ym (iV (d.length:Int)) (eh a3) (yY (yneq e0 e0) (wK t9 ?_)))))
    have k6:∀ (f9:List (List (Bool×LI×Bool×LI))) (c0:Bool) (g0:LI) (A:List Hdr) (c1:Hdr) (f:FV) w,f 0=c.v→f 1=iV r→f 5=(pB k)→f 6=(pB m)→f 7=o.v→f 8=iV h→f 9=iV (d.length:Int)→St w0 ros (row 81 rH c.v A::fam 80 (rP rB (rP (rS (rI .u32)) (rP rB (rS (rI .u32))))) A f9::box k 80 [.bool false,hnil.v,.bool false,hnil.v]::row 103 (rI .u32) c1.v g0::row 103 (rI .u32) t.v K::box m 80 [.bool c0,c1.v,.bool z,t.v]::row 3 I1 o.v d::rs) w→sparseref08_echelon_j80 d h z K r f9 c0 g0=some j4→t7 .normal (fr 145 f) w:=by
     intro f9 c0 g0 A c1 f w c2 u0 u1 b1 u2 c3 b2 b g
     refine t8 _ _ (sQ fun _ u3=>bE g fun C9 g1 g=>bE g fun g2 k7 g=>bE g fun D0 u4 g=>bE g fun D1 c4 g=>bE g fun a5 g3 g=>bE g fun D2 u5 g=>bE g fun p u6 g=>dR [0,1,0,0,12,28,0,124,252,508,1023,0,2048,0,0,24576,57344,0,253952,516096,1040384,2097151,4194303,8388607] [10,21,22,23] 4 folM ?_)
     replace b:=b.drew
     refine Dn [0,1,2,3,4,5,6,7,8,9,11,12,13,14,15,16,17,18,19,20] [] [10] (yR rfl (yFb FL_80_0 (eh b1)) (yR rfl (lbs_ [.bool c0,c1.v] ST_31 e0 b R5) (yR rfl (m_ c.v (eh c2)) (yR rfl (m_ (iV (d.length:Int)) (eh b2)) ?_))))
     obtain ⟨D3,c5⟩:=b.famI R1 g1
     refine yR rfl (yIa SLH_75 e0 e0 b rO0 c5) (yR rfl (yF1 O_81 e0 b rO0 c5 rfl) (yR rfl (m_ (iV h) (eh c3)) (yR rfl (yIa SL_81 e0 e0 b (rdF R1 c5 g1) k7) (yR rfl (yFe FL_80_0 e0) ?_))))
     obtain ⟨D4,D5,cc5068,b⟩:=b.ld (rdF R1 c5 g1) k7
     replace b:=b.eltP
     obtain ⟨D6,D7,rfl,b⟩:=b
     replace b:=b.eltB
     obtain ⟨rfl,b⟩:=b
     replace b:=b.eltP
     obtain ⟨D8,D9,rfl,b⟩:=b
     replace b:=b.eltS
     obtain ⟨k8,rfl,b⟩:=b
     replace b:=b.swf.eltP
     obtain ⟨E0,E1,rfl,b⟩:=b
     replace b:=b.eltB
     obtain ⟨rfl,b⟩:=b
     replace b:=b.eltS
     obtain ⟨u7,rfl,b⟩:=b
     refine yR rfl (yCfn (cs:=[.bool g2.1,k8.v,.bool g2.2.2.1,u7.v]) (us:=[.bool g2.1,k8.v]) ST_31 e0 cc5068 rfl rfl) (yR rfl (yFb FL_80_1 (eh b1)) (yR rfl (lbs_ [.bool z,t.v] ST_31 e0 b R5) (yR rfl (m_ c.v (eh c2)) (yR rfl (m_ (iV (d.length:Int)) (eh b2)) ?_))))
     obtain ⟨E2,V⟩:=b.famI R1 c4
     refine yR rfl (yIa SLH_75 e0 e0 b rO0 V) (yR rfl (yF1 O_81 e0 b rO0 V rfl) (yR rfl (m_ (iV h) (eh c3)) (yR rfl (yIa SL_81 e0 e0 b (rdF R1 V c4) g3) (yR rfl (yFe FL_80_1 e0) ?_))))
     replace b:=(b.k11).pin0
     obtain ⟨E3,b⟩:=St.pinF V c4 b g3
     obtain ⟨E4,E5,rfl,b⟩:=b.eltP
     obtain ⟨rfl,b⟩:=b.eltB
     obtain ⟨E6,E7,rfl,b⟩:=b.eltP
     obtain ⟨k9,rfl,b⟩:=b.eltS
     replace b:=b.swf
     obtain ⟨E8,E9,rfl,b⟩:=b.eltP
     obtain ⟨rfl,b⟩:=b.eltB
     obtain ⟨c6,rfl,b⟩:=b.eltS
     refine yR rfl (yCfn (cs:=[.bool a5.1,k9.v,.bool a5.2.2.1,c6.v]) (us:=[.bool a5.2.2.1,c6.v]) ST_31 e0 (b.cAtP R0 mhP) rfl rfl) (Rn QSn ?_)
     refine Lc1 rfl ?_
     replace b:=(b.k17).fz
     refine Lk wn (yCall FN_86 (a2 e0 e0)) (sparseref01_Mul_ok u4 F0 F4 b) ?_
     rintro _ w ⟨G0,rfl,b⟩
     refine ⟨_,rfl,?_⟩
     refine Dn [] [11,12,13,14,15,16,17,18,19,20] [21] (Rn (yS rfl (yFb FL_80_1 (eh b1)) (yS rfl (lbs_ [.bool z,t.v] ST_31 e0 b R5) (yS rfl (m_ c.v (eh c2)) (yS rfl (m_ (iV (d.length:Int)) (eh b2)) (yS rfl (yIa SLH_75 e0 e0 b rO2 V) (yS rfl (yF1 O_81 e0 b rO2 V rfl) (yS rfl (m_ (iV h) (eh c3)) (yS rfl (yIa SL_81 e0 e0 b (rdFP R1 V c4) g3) (yS rfl (yFe FL_80_1 e0) (yS rfl (yCfn (cs:=[.bool a5.1,k9.v,.bool a5.2.2.1,c6.v]) (us:=[.bool a5.2.2.1,c6.v]) ST_31 e0 (b.cAtP R1 mhP) rfl rfl) QSn)))))))))) ?_)
     refine Lc1 rfl ?_
     replace b:=(b.k1a).fz
     refine Lk wn (yCall FN_86 (a2 e0 e0)) (sparseref01_Mul_ok u5 F0 F2 b) ?_
     rintro _ w ⟨G1,rfl,b⟩
     refine ⟨_,rfl,?_⟩
     refine Dn [] [] [22] (Rn QSn ?_)
     refine Lc1 rfl ?_
     replace b:=((b.k11).fz).fz
     refine Lk wn (yCall FN_85 (a2 e0 e0)) (sparseref08_frac_ok u6 F1 F0 b) ?_
     rintro _ w ⟨E,F,rfl,b⟩
     refine ⟨_,rfl,?_⟩
     refine Dn [] [] [23] (Rn QSn ?_)
     refine Lc1 rfl ?_
     replace b:=b.k22
     refine LT wn (r_stbn (vals':=[.bool p.1,E.v,.bool p.2.2.1,F.v]) (us:=[.bool p.1,E.v,.bool p.2.2.1,F.v]) b ST_80 (eh b1) e0 rfl rfl (one_of rfl) rfl) fun w b=>Dz [] [] (Rn QSn ?_)
     replace b:=(b.k17).unpin
     refine u3 _ _ (sQ fun _ u8=>sR fun _ u9=>Ym (iV (d.length:Int)) (eh b2) (yY (yadd e0 rfl) (Ya (iV (wa .i64 (d.length:Int) 1)) e0 (wK u9 (blockQ fun v0 v1=>bE g fun v2 v3 g=>?_)))))
     have v4:∀ (g4:List (List (Bool×LI×Bool×LI))) (f:FV) w,f 0=c.v→f 1=iV r→f 5=(pB k)→f 6=(pB m)→f 7=o.v→f 8=iV h→St w0 ros (row 81 rH c.v A::fam 80 (rP rB (rP (rS (rI .u32)) (rP rB (rS (rI .u32))))) A g4::box k 80 [.bool false,hnil.v,.bool false,hnil.v]::row 103 (rI .u32) E.v p.2.1::row 103 (rI .u32) F.v p.2.2.2::box m 80 [.bool p.1,E.v,.bool p.2.2.1,F.v]::row 3 I1 o.v d::rs) w→g4=v2→v0 (.exit 4) (fr 145 f) w:=by
      intro g4 f w v5 v6 v7 v8 v9 l0 b ho
      subst ho
      exact v1 _ _ _ (u8 _ _ (wR (Ym o.v (eh v9) (Ym (iV h) (eh l0) (yH (rLt (n:=1) (l:=[h]) b SL_48 [iV h] (bp1 e0) rfl rfl (mks1 (cs:=[iV h]) rfl mkI mks0)) fun G2 w b=>bE g fun G3 w1 g=>yH (rAp (b.k2l) SL_48 e0 e0 rO1 w1) fun w2 w b=>Ya w2.v e0 (wN (k0 _ _ _ (j9 _ _ _ _ _ _ _ _ _ _ _ _ v5 v6 v7 v8 rfl l0 (b.k34) g))))))))
     refine loopQ (fun s a w=>∃ (g5:List (List (Bool×LI×Bool×LI))) (x:Int) (f:FV),(g5,x)=s∧a=fr 145 f∧f 0=c.v∧f 1=iV r∧f 5=(pB k)∧f 6=(pB m)∧f 7=o.v∧f 8=iV h∧f 9=iV (d.length:Int)∧f 11=iV x∧St w0 ros (row 81 rH c.v A::fam 80 (rP rB (rP (rS (rI .u32)) (rP rB (rS (rI .u32))))) A g5::box k 80 [.bool false,hnil.v,.bool false,hnil.v]::row 103 (rI .u32) E.v p.2.1::row 103 (rI .u32) F.v p.2.2.2::box m 80 [.bool p.1,E.v,.bool p.2.2.1,F.v]::row 3 I1 o.v d::rs) w) v3 ⟨_,_,_,rfl,rfl,c2,u0,u1,b1,u2,c3,b2,rfl,((b.k35).facts (allT (allT (allT (allT (allT (allT (allT (allT allI)))))))))⟩ ?_
     rintro _ _ w G4 ⟨g5,x,f,rfl,rfl,c7,l1,l2,l3,l4,c8,w3,g6,b⟩ B w4 G5 w5 w6
     refine seqQ fun G6 w7 w8=>sR fun _ w9=>Ym (iV x) (eh g6) (Ym c.v (eh c7) (yY (yLenF SLH_75 e0 b rO0 R1) (yY (ylss e0 e0) (wK w9 ?_))))
     refine cIf e0 B (fun x0 B=>?_) fun x0 B=>?_
     ·refine wp_skip (w7 _ _ (sQ fun _ x2=>blockQ fun _ x3=>sR fun _ x5=>Ym c.v (eh c7) (Ym (iV x) (eh g6) (bE B fun G7 g7 B=>?_))))
      obtain ⟨G8,c9⟩:=b.famI R1 g7
      refine yY (yIa SLH_75 e0 e0 b rO0 c9) (yY (yF1 O_81 e0 b rO0 c9 rfl) (Ym (iV h) (eh c8) (bE B fun y l5 B=>yY (yIa SL_81 e0 e0 b (rdF R1 c9 g7) l5) ?_)))
      obtain ⟨G9,H0,cc5398,b⟩:=b.ld (rdF R1 c9 g7) l5
      replace b:=b.eltP
      obtain ⟨H1,H2,rfl,b⟩:=b
      replace b:=b.eltB
      obtain ⟨rfl,b⟩:=b
      replace b:=b.eltP
      obtain ⟨H3,H4,rfl,b⟩:=b
      replace b:=b.eltS
      obtain ⟨a6,rfl,b⟩:=b
      replace b:=b.swf.eltP
      obtain ⟨H5,H6,rfl,b⟩:=b
      replace b:=b.eltB
      obtain ⟨rfl,b⟩:=b
      replace b:=b.eltS
      obtain ⟨a7,rfl,b⟩:=b
      refine yY (yCn (cs:=[.bool y.1,a6.v,.bool y.2.2.1,a7.v]) ST_80 rfl e0 cc5398) (yBb (rAl b ZT_80) fun l6 w b=>yT (r_stbn (vals':=[.bool y.1,a6.v,.bool y.2.2.1,a7.v]) (us:=[.bool y.1,a6.v,.bool y.2.2.1,a7.v]) b ST_80 e0 e0 rfl rfl (one_of rfl) rfl) fun w b=>wK x5 (sR fun _ x6=>Ym (iV h) (eh c8) (Ya (iV h) e0 (wK x6 (blockQ fun x7 x8=>?_)))))
      refine bE B fun x9 y0 B=>?_
      have y1:∀ (g8:List (List (Bool×LI×Bool×LI))) (f:FV) w,f 0=c.v→f 1=iV r→f 5=(pB k)→f 6=(pB m)→f 7=o.v→f 8=iV h→f 9=iV (d.length:Int)→f 11=iV x→St w0 ros (row 81 rH c.v A::fam 80 (rP rB (rP (rS (rI .u32)) (rP rB (rS (rI .u32))))) A g8::box k 80 [.bool false,hnil.v,.bool false,hnil.v]::row 103 (rI .u32) E.v p.2.1::row 103 (rI .u32) F.v p.2.2.2::box m 80 [.bool p.1,E.v,.bool p.2.2.1,F.v]::row 3 I1 o.v d::rs) w→g8=x9→x7 (.exit 6) (fr 145 f) w:=by
       intro g8 f w y2 y4 y5 y6 y7 y8 y9 z0 b ho
       subst ho
       refine x8 _ _ _ (x3 _ _ _ (x2 _ _ (wR (Ym (iV x) (eh z0) (yY (yadd e0 rfl) (Ya (iV (wa .i64 x 1)) e0 (wN ?_)))))))
       cases B
       exact w5 _ _ _ rfl ⟨_,_,_,rfl,rfl,y2,y4,y5,y6,y7,y8,y9,rfl,b⟩
      refine loopQ (fun s a w=>∃ (g9:List (List (Bool×LI×Bool×LI))) (G:Int) (f:FV),(g9,G)=s∧a=fr 145 f∧f 0=c.v∧f 1=iV r∧f 5=(pB k)∧f 6=(pB m)∧f 7=o.v∧f 8=iV h∧f 9=iV (d.length:Int)∧f 11=iV x∧f 12=(pB l6)∧f 13=iV G∧St w0 (imm (rI .u32) a6.v y.2.1::imm (rI .u32) a7.v y.2.2.2::ros) (row 81 rH c.v A::fam 80 (rP rB (rP (rS (rI .u32)) (rP rB (rS (rI .u32))))) A g9::box k 80 [.bool false,hnil.v,.bool false,hnil.v]::row 103 (rI .u32) E.v p.2.1::row 103 (rI .u32) F.v p.2.2.2::box m 80 [.bool p.1,E.v,.bool p.2.2.1,F.v]::row 3 I1 o.v d::box l6 80 [.bool y.1,a6.v,.bool y.2.2.1,a7.v]::rs) w) y0 ⟨_,_,_,rfl,rfl,c7,l1,l2,l3,l4,c8,w3,g6,rfl,rfl,((b.k36).facts (allC F1 (allC F0 (allT (allT allI)))))⟩ ?_
      rintro _ _ w H7 ⟨g9,G,f,rfl,rfl,W,h0,l7,l8,l9,h1,d0,b3,m0,a8,b⟩ j z1 H8 z2 z3
      refine seqQ fun H9 z4 z5=>sR fun _ z6=>Ym (iV G) (eh a8) (Ym (iV r) (eh h0) (yY (ylss e0 e0) (wK z6 ?_)))
      refine cIf e0 j (fun z7 j=>?_) fun z7 j=>?_
      ·refine wp_skip (z4 _ _ (sQ fun _ z8=>blockQ fun _ z9=>bE j fun I0 h3 j=>bE j fun I2 h4 j=>bE j fun m1 m2 j=>bE j fun I3 h5 j=>bE j fun m3 m4 j=>bE j fun I4 h6 j=>bE j fun m5 m6 j=>bE j fun m7 A0 j=>bE j fun I5 m8 j=>bE j fun I6 A1 j=>?_))
       refine dR [0,0,3,7,0,0,0,96,224,0,992,2016,0,0,0,24576,57344,0,253952,516096,0,0,3145728,7340032,0,32505856,66060288,134217696,268435455,536870911] [27,29] 2 folM ?_
       replace b:=b.drew
       refine Dn [0,1,2,3,4,5,6,7,8,9,10,11,12,13,14,15,16,17,18,19,20,21,22,23,24,25,26] [] [27] (yR rfl (m_ c.v (eh W)) (yR rfl (m_ (iV x) (eh b3)) ?_))
       obtain ⟨I7,X⟩:=b.famI R1 h3
       refine yR rfl (yIa SLH_75 e0 e0 b rO0 X) (yR rfl (yF1 O_81 e0 b rO0 X rfl) (yR rfl (m_ (iV G) (eh a8)) (yR rfl (m_ c.v (eh W)) (yR rfl (m_ (iV x) (eh b3)) ?_))))
       obtain ⟨I8,d1⟩:=b.famI R1 h4
       refine yR rfl (yIa SLH_75 e0 e0 b rO0 d1) (yR rfl (yF1 O_81 e0 b rO0 d1 rfl) (yR rfl (m_ (iV G) (eh a8)) (yR rfl (yIa SL_81 e0 e0 b (rdF R1 d1 h4) m2) ?_)))
       obtain ⟨I9,J0,cc5522,b⟩:=b.ld (rdF R1 d1 h4) m2
       replace b:=b.eltP
       obtain ⟨J1,J2,rfl,b⟩:=b
       replace b:=b.eltB
       obtain ⟨rfl,b⟩:=b
       replace b:=b.eltP
       obtain ⟨J3,J4,rfl,b⟩:=b
       replace b:=b.eltS
       obtain ⟨A2,rfl,b⟩:=b
       replace b:=b.swf.eltP
       obtain ⟨J5,J6,rfl,b⟩:=b
       replace b:=b.eltB
       obtain ⟨rfl,b⟩:=b
       replace b:=b.eltS
       obtain ⟨A3,rfl,b⟩:=b
       refine yR rfl (yCn (cs:=[.bool m1.1,A2.v,.bool m1.2.2.1,A3.v]) ST_80 rfl e0 cc5522) (yR rfl (lbs_ [.bool y.1,a6.v,.bool y.2.2.1,a7.v] ST_80 (eh m0) b R7) (yR rfl (m_ c.v (eh W)) (yR rfl (m_ (iV (d.length:Int)) (eh d0)) ?_)))
       obtain ⟨J7,d2⟩:=b.famI R1 h5
       refine yR rfl (yIa SLH_75 e0 e0 b rO0 d2) (yR rfl (yF1 O_81 e0 b rO0 d2 rfl) (yR rfl (m_ (iV G) (eh a8)) (yR rfl (yIa SL_81 e0 e0 b (rdF R1 d2 h5) m4) ?_)))
       obtain ⟨J8,J9,cc5529,b⟩:=b.ld (rdF R1 d2 h5) m4
       replace b:=b.eltP
       obtain ⟨K0,K1,rfl,b⟩:=b
       replace b:=b.eltB
       obtain ⟨rfl,b⟩:=b
       replace b:=b.eltP
       obtain ⟨K2,K3,rfl,b⟩:=b
       replace b:=b.eltS
       obtain ⟨A4,rfl,b⟩:=b
       replace b:=b.swf.eltP
       obtain ⟨K4,K5,rfl,b⟩:=b
       replace b:=b.eltB
       obtain ⟨rfl,b⟩:=b
       replace b:=b.eltS
       obtain ⟨A5,rfl,b⟩:=b
       refine yR rfl (yCn (cs:=[.bool m3.1,A4.v,.bool m3.2.2.1,A5.v]) ST_80 rfl e0 cc5529) (yR rfl (m_ c.v (eh W)) (yR rfl (m_ (iV (d.length:Int)) (eh d0)) ?_))
       obtain ⟨K6,d3⟩:=b.famI R1 h6
       refine yR rfl (yIa SLH_75 e0 e0 b rO0 d3) (yR rfl (yF1 O_81 e0 b rO0 d3 rfl) (yR rfl (m_ (iV h) (eh h1)) (yR rfl (yIa SL_81 e0 e0 b (rdF R1 d3 h6) m6) ?_)))
       obtain ⟨K7,K8,cc5536,b⟩:=b.ld (rdF R1 d3 h6) m6
       replace b:=b.eltP
       obtain ⟨K9,L0,rfl,b⟩:=b
       replace b:=b.eltB
       obtain ⟨rfl,b⟩:=b
       replace b:=b.eltP
       obtain ⟨L1,L3,rfl,b⟩:=b
       replace b:=b.eltS
       obtain ⟨A6,rfl,b⟩:=b
       replace b:=b.swf.eltP
       obtain ⟨L4,L5,rfl,b⟩:=b
       replace b:=b.eltB
       obtain ⟨rfl,b⟩:=b
       replace b:=b.eltS
       obtain ⟨A7,rfl,b⟩:=b
       refine yR rfl (yCn (cs:=[.bool m5.1,A6.v,.bool m5.2.2.1,A7.v]) ST_80 rfl e0 cc5536) (Rn QSn ?_)
       refine Lc1 rfl ?_
       refine Lk wn (yCall FN_58 (a4 e0 e0 e0 e0)) (sparseref08_minus_ok A0 F5 F4 F6 F7 F3 F2 F1 F0 b) ?_
       rintro _ w ⟨A8,A9,rfl,b⟩
       refine ⟨_,rfl,?_⟩
       refine Dn [28] [0,1,2,3,4] [29] (yR rfl (yIs SL_81 e0 e0 b (rdF R3 X h3) m8) (Rn (yS rfl (m_ c.v (eh W)) (yS rfl (m_ (iV x) (eh b3)) (yS rfl (yIa SLH_75 e0 e0 b rO2 X) (yS rfl (yF1 O_81 e0 b rO2 X rfl) (yS rfl (m_ (iV G) (eh a8)) QSn))))) ?_))
       refine Lc1 rfl ?_
       replace b:=(b.fz.fz).k11
       refine LT wn (r_stn (cs:=[.bool m7.1,A8.v,.bool m7.2.2.1,A9.v]) (b.foc X h3) ST_80 e0 e0 rfl (mkP mkB (mkP (mkS F1) (mkP mkB (mkS F0)))) m8) fun w b=>?_
       replace b:=b.unfoc' X A1
       refine Dz [] [] (Rn QSn (z9 _ _ _ (z8 _ _ (wR (Ym (iV G) (eh a8) (yY (yadd e0 rfl) (Ya (iV (wa .i64 G 1)) e0 (wN ?_))))))))
       cases j
       exact z2 _ _ _ rfl ⟨_,_,_,rfl,rfl,W,h0,l7,l8,l9,h1,d0,b3,m0,rfl,((b.k37).facts (allC F8 (allC F9 (allT (allT (allT (allT (allT (allT (allT (allT (allT (allT allI)))))))))))))⟩
      ·refine wp_exit (z5 _ _ _ rfl ?_)
       cases j
       exact z3 _ _ _ _ rfl rfl (y1 _ _ _ W h0 l7 l8 l9 h1 d0 b3 ((b.k38).facts (allT (allT allI))) (z1 _ rfl))
     ·refine wp_exit (w8 _ _ _ rfl ?_)
      cases B
      exact w6 _ _ _ _ rfl rfl (v4 _ _ _ c7 l1 l2 l3 l4 c8 b (w4 _ rfl))
    rcases iteS i with ⟨h8,i⟩ | ⟨h8,i⟩
    ·exact condF e0 (nF (dT h8)) (wp_skip (k6 _ _ _ _ _ _ _ I f5 f6 b0 f7 f8 a3 b i))
    ·refine condT e0 (nT (dF h8)) (sQ fun _ B0=>bE i fun L6 m9 i=>bE i fun L7 n0 i=>bE i fun L8 i0 i=>bE i fun L9 n1 i=>dR [0,0,0,0,0,0,48,112,0,0,768,1792,4083,8179,16383,32767] [13,15] 2 folM ?_)
     replace b:=b.drew
     refine Dn [0,1,2,3,4,5,6,7,8,9,10,11,12] [] [13] (yR rfl (m_ c.v (eh I)) (yR rfl (m_ (iV U) (eh b9)) (yR rfl (m_ c.v (eh I)) (yR rfl (m_ (iV (d.length:Int)) (eh a3)) (yR rfl (m_ c.v (eh I)) (yR rfl (m_ (iV (d.length:Int)) (eh a3)) ?_))))))
     obtain ⟨n2,i1⟩:=b.famI R1 m9
     refine yR rfl (yIa SLH_75 e0 e0 b rO0 i1) (yR rfl (yF1 O_81 e0 b rO0 i1 rfl) (yR rfl (m_ c.v (eh I)) (yR rfl (m_ (iV U) (eh b9)) ?_)))
     obtain ⟨n3,i2⟩:=b.famI R1 n0
     refine yR rfl (yIa SLH_75 e0 e0 b rO0 i2) (yR rfl (yF1 O_81 e0 b rO0 i2 rfl) ?_)
     obtain ⟨M0,d4⟩:=setI_len (u:=n2) i0 (b.famL (mtR mhR))
     refine yR rfl (yIs SLH_75 e0 e0 b rO0 d4) (Rn QSn ?_)
     refine Lc1 rfl ?_
     refine LT wn (r_sti (cs:=[n2.v]) b O_81 rfl e0 e0 rfl (mkF rfl) d4) fun w b=>Dn [14] [2,3] [15] ?_
     obtain ⟨M1,i3⟩:=setI_len (u:=n3) n1 (swap_len i0 d4 (b.famL (mtR mhR)))
     refine yR rfl (yIs SLH_75 e0 e0 b rO0 i3) (Rn (yS rfl (m_ c.v (eh I)) (yS rfl (m_ (iV (d.length:Int)) (eh a3)) QSn)) ?_)
     refine Lc1 rfl ?_
     refine LT wn (r_sti (cs:=[n3.v]) b O_81 rfl e0 e0 rfl (mkF rfl) i3) fun w b=>?_
     replace b:=(b.k11).fswap i1 m9 i2 n0 d4 i0 i3 n1
     refine Dz [] [] (Rn QSn (B0 _ _ (wR (yY (yFb FL_80_0 (eh b0)) (yY (lbs_ [.bool T,D.v] ST_31 e0 b R5) (bE i fun n4 B1 i=>?_))))))
     replace b:=(b.k17).fz
     refine yC (yCall FN_71 (a1 e0)) (sparseref01_Neg_ok B1 F0 b) ?_
     rintro _ w ⟨n5,rfl,b⟩
     refine ⟨_,rfl,?_⟩
     exact yY (yFb FL_80_0 (eh b0)) (yT (r_stbn (vals':=[.bool n4.1,n5.v,.bool z,t.v]) (us:=[.bool n4.1,n5.v]) (b.k22) ST_31 e0 e0 rfl rfl (one_of rfl) rfl) fun w b=>wN (k6 _ _ _ _ _ _ _ I f5 f6 b0 f7 f8 a3 ((b.k39).facts (allT allI)) i))
  refine loopQ (fun s a w=>∃ (J:Int) (f:FV),J=s∧a=fr 145 f∧f 0=c.v∧f 1=iV r∧f 5=(pB k)∧f 6=(pB m)∧f 7=o.v∧f 8=iV h∧f 9=iV (d.length:Int)∧f 10=iV J∧St w0 ros (row 81 rH c.v H::fam 80 (rP rB (rP (rS (rI .u32)) (rP rB (rS (rI .u32))))) H S::box k 80 [.bool false,hnil.v,.bool false,hnil.v]::row 103 (rI .u32) D.v a0::row 103 (rI .u32) t.v K::box m 80 [.bool T,D.v,.bool z,t.v]::row 3 I1 o.v d::rs) w) t1 ⟨_,_,rfl,rfl,q7,j5,j6,j7,e4,j8,rfl,rfl,b⟩ ?_
  rintro _ _ w M2 ⟨J,f,rfl,rfl,d5,n6,n7,n8,n9,i4,o0,d6,b⟩ Z B2 M3 B3 B4
  refine seqQ fun M4 B5 B6=>sR fun _ B7=>Ym (iV J) (eh d6) (Ym c.v (eh d5) (yY (yLenF SLH_75 e0 b rO0 R1) (yY (ylss e0 e0) (Ym (.bool (decide (J < (S.length:Int)))) e0 (bE Z fun B8 C Z=>?_)))))
  refine joinW 9 (fun f w=>f 0=c.v∧f 1=iV r∧f 5=(pB k)∧f 6=(pB m)∧f 7=o.v∧f 8=iV h∧f 9=iV (d.length:Int)∧f 10=iV J∧f 38=.bool B8∧St w0 ros (row 81 rH c.v H::fam 80 (rP rB (rP (rS (rI .u32)) (rP rB (rS (rI .u32))))) H S::box k 80 [.bool false,hnil.v,.bool false,hnil.v]::row 103 (rI .u32) D.v a0::row 103 (rI .u32) t.v K::box m 80 [.bool T,D.v,.bool z,t.v]::row 3 I1 o.v d::rs) w) (fun o1=>?_) ?_
  ·rcases iteS C with ⟨q,C⟩ | ⟨q,C⟩
   ·refine yG (dT q) (m_ c.v (eh d5)) (yG (dT q) (m_ (iV J) (eh d6)) (bE C fun M5 i5 C=>?_))
    obtain ⟨M6,d7⟩:=b.famI R1 i5
    refine yG (dT q) (yIa SLH_75 e0 e0 b rO0 d7) (yG (dT q) (yF1 O_81 e0 b rO0 d7 rfl) (yG (dT q) (m_ (iV h) (eh i4)) (bE C fun o2 o3 C=>yG (dT q) (yIa SL_81 e0 e0 b (rdF R1 d7 i5) o3) ?_)))
    obtain ⟨M7,M8,cc5575,b⟩:=b.ld (rdF R1 d7 i5) o3
    replace b:=b.eltP
    obtain ⟨M9,N0,rfl,b⟩:=b
    replace b:=b.eltB
    obtain ⟨rfl,b⟩:=b
    replace b:=b.eltP
    obtain ⟨N1,N2,rfl,b⟩:=b
    replace b:=b.eltS
    obtain ⟨B9,rfl,b⟩:=b
    replace b:=b.swf.eltP
    obtain ⟨N3,N4,rfl,b⟩:=b
    replace b:=b.eltB
    obtain ⟨rfl,b⟩:=b
    replace b:=b.eltS
    obtain ⟨C0,rfl,b⟩:=b
    refine yG (dT q) (yCn (cs:=[.bool o2.1,B9.v,.bool o2.2.2.1,C0.v]) ST_80 rfl e0 cc5575) (bE C fun C1 C2 C=>Yc (wG (dT q)) rfl (yCall FN_106 (a1 e0)) (sparseref08_zero_ok C2 F1 F0 b) ?_)
    rintro _ w ⟨rfl,b⟩
    refine ⟨_,rfl,?_⟩
    refine yY (pt_ (.bool C1) e0 (dT q) e0) ?_
    cases C
    exact o1 _ _ ⟨d5,n6,n7,n8,n9,i4,o0,d6,rfl,(b.facts (allT (allT allI)))⟩
   ·refine gN (dF q) (gN (dF q) (gN (dF q) (gN (dF q) (gN (dF q) (gN (dF q) (gN (dF q) (gN (dF q) (yY (pf_ (.bool false) e0 (dF q) rfl) ?_))))))))
    cases C
    exact o1 _ _ ⟨d5,n6,n7,n8,n9,i4,o0,d6,rfl,b⟩
  rintro f w ⟨o4,o5,o6,o7,o8,o9,p0,p1,C3,b⟩
  refine wK B7 (cB (eh C3) Z (fun C4 Z=>?_) fun C4 Z=>?_)
  ·refine wp_skip (B5 _ _ (blockQ fun _ C5=>wR (Ym (iV J) (eh p1) (yY (yadd e0 rfl) (Ya (iV (wa .i64 J 1)) e0 (wN (C5 _ _ _ ?_)))))))
   cases Z
   exact B3 _ _ _ rfl ⟨_,_,rfl,rfl,o4,o5,o6,o7,o8,o9,p0,rfl,b⟩
  ·refine wp_exit (B6 _ _ _ rfl ?_)
   cases Z
   exact B4 _ _ _ _ rfl rfl (t2 _ _ _ o4 o5 o6 o7 o8 o9 p0 p1 b (B2 _ rfl))
 ·refine wp_exit (r2 _ _ _ rfl ?_)
  cases i
  exact r0 _ _ _ _ rfl rfl (q4 _ _ _ _ _ _ _ _ _ _ _ _ j6 j7 e4 b (q8 _ rfl))
theorem sparseref08_Det_ok {j:List (List (Bool×LI))} {f:Hdr} {out:Bool×LI} (c:sparseref08_Det j=some out) (i:imm (rS (rP rB (rS (rI .u32)))) f.v j∈ros) (a:St w0 ros rs w):
  Calls Tryz.prog 41 #[f.v] w (fun e w=>∃ (k:Hdr),e=.returned (.agg #[.bool out.1,k.v])∧St w0 ros (row 103 (rI .u32) k.v out.2::rs) w):=by
 refine enterQ Tryz.func41 rfl Tryz.ntmps41 rfl fun Q l=>sR fun _ m=>yBb (rAl a ZT_31) fun y w a=>wK m (sR fun _ n=>Ym f.v e0 (bE c fun z o c=>yC (yCall FN_56 (a1 e0)) (sparseref08_fracs_ok o i a) ?_))
 rintro _ w ⟨A,B,rfl,a⟩
 refine ⟨_,rfl,?_⟩
 refine Ym f.v e0 (yY (yLen SL_22 e0 a (rdI i)) (bE c fun b p c=>yC (yCall FN_83 (a2 e0 e0)) (sparseref08_echelon_ok p a) ?_))
 rintro _ w ⟨C,g,d,h,rfl,a⟩
 refine ⟨_,rfl,?_⟩
 refine Ym (.tuple #[g.v,.agg #[.bool b.2.2.1,d.v,.bool b.2.2.2.2.1,h.v]]) e0 (yY (x_ g.v e0) (yY (x_ (.agg #[.bool b.2.2.1,d.v,.bool b.2.2.2.2.1,h.v]) e0) (yBb (rAl a ZT_80) fun D w a=>Ya g.v e0 (yT (r_stbn (vals':=[.bool b.2.2.1,d.v,.bool b.2.2.2.2.1,h.v]) (us:=[.bool b.2.2.1,d.v,.bool b.2.2.2.2.1,h.v]) a ST_80 e0 e0 rfl rfl (one_of rfl) rfl) fun w a=>wK n (seqQ fun E q r=>sR fun _ s=>Ym g.v e0 ?_)))))
 refine yY (yLen SL_48 e0 a rO3) (Ym f.v e0 (yY (yLen SL_22 e0 a (rdI i)) (yY (ylss e0 e0) (wK s ?_))))
 refine cIf e0 c (fun t c=>?_) fun t c=>?_
 ·refine sR fun _ u=>yY (ybuild (us:=[.bool false,hnil.v]) [] SO_31 bp0 rfl) (yT (r_stbn (vals':=[.bool false,hnil.v]) (us:=[.bool false,hnil.v]) (a.k25) ST_31 e0 e0 rfl rfl (one_of rfl) rfl) fun w a=>wK u (wp_ret (r _ _ _ rfl ?_)))
  cases c
  replace a:=a.rowNh 103 (rI .u32)
  exact l _ _ _ (fin1r Tryz.results41 (rcs2 rfl rfl a R1 ST_31 rfl) ⟨_,rfl,(a.k3a)⟩)
 ·refine wp_skip (q _ _ (sR fun _ x=>yY (yFb FL_80_0 e0) (yY (lbs_ [.bool b.2.2.1,d.v] ST_31 e0 a R0) (yT (r_stbn (vals':=[.bool b.2.2.1,d.v]) (us:=[.bool b.2.2.1,d.v]) (a.k25) ST_31 e0 e0 rfl rfl (one_of rfl) rfl) fun w a=>wK x (wp_ret ?_)))))
  cases c
  exact l _ _ _ (fin1r Tryz.results41 (rcs2 rfl rfl a R0 ST_31 rfl) ⟨_,rfl,(a.k3b)⟩)
theorem sparseref08_replaced_ok {x:List (List (Bool×LI))} {j:Int} {y:List (Bool×LI)} {g k:Hdr} {out:(List (List (Bool×LI)))} (p:sparseref08_replaced x j y=some out) (q:imm (rS (rP rB (rS (rI .u32)))) g.v x∈ros) (z:imm (rP rB (rS (rI .u32))) k.v y∈ros) (b:St w0 ros rs w):
  Calls Tryz.prog 70 #[g.v,iV j,k.v] w (fun e w=>∃ (A:Hdr),e=.returned (A.v)∧St w0 ros (row 32 (rS (rP rB (rS (rI .u32)))) A.v out::rs) w):=by
 refine enterQ Tryz.func70 rfl Tryz.ntmps70 rfl fun Q J=>sR fun _ K=>Ya hnil.v rfl (wK K (sR fun _ L=>Ya hnil.v rfl (wK L (sQ fun _ N=>sR fun _ O=>?_))))
 refine Ya (iV 0) rfl (wK O (blockQ fun R S=>bE p fun T U p=>?_))
 have V:∀ (r:List (List (Bool×LI))) (h:Hdr) (f:FV) w,f 7=h.v→St w0 ros (row 32 (rS (rP rB (rS (rI .u32)))) h.v r::rs) w→r=T→R (.exit 0) (fr 34 f) w:=by
  intro r h f w W b ho
  subst ho
  refine S _ _ _ (N _ _ (sR fun _ X=>Ym h.v (eh W) (Ya h.v e0 (wK X (wp_ret ?_)))))
  cases p
  exact J _ _ _ (fin1r Tryz.results70 ⟨rfl,rfl⟩ ⟨_,rfl,b⟩)
 replace b:=b.rowNh 32 (rS (rP rB (rS (rI .u32))))
 refine loopQ (fun s a w=>∃ (t:List (List (Bool×LI))) (d:Int) (f:FV) (m:Hdr),(t,d)=s∧a=fr 34 f∧f 0=g.v∧f 1=iV j∧f 2=k.v∧f 7=m.v∧f 8=iV d∧St w0 ros (row 32 (rS (rP rB (rS (rI .u32)))) m.v t::rs) w) U ⟨_,_,_,_,rfl,rfl,rfl,rfl,rfl,rfl,rfl,b⟩ ?_
 rintro _ _ w b5 ⟨t,d,f,m,rfl,rfl,u,B,C,D,o,b⟩ c Z b6 a0 a1
 refine seqQ fun b7 a2 a3=>sR fun _ a4=>Ym (iV d) (eh o) (Ym g.v (eh u) (yY (yLen SL_22 e0 b (rdI q)) (yY (ylss e0 e0) (wK a4 ?_))))
 refine cIf e0 c (fun a5 c=>?_) fun a5 c=>?_
 ·refine wp_skip (a2 _ _ (sQ fun _ a6=>blockQ fun _ a7=>sR fun _ a8=>Ya hnil.v rfl (wK a8 (sR fun _ a9=>Ym hnil.v e0 (Ym g.v (eh u) (Ym (iV d) (eh o) ?_))))))
  refine bE c fun b8 E c=>yY (yIa SL_22 e0 e0 b (rdI q) E) ?_
  obtain ⟨b9,b⟩:=iLs b q E
  refine yY (yCt O_32 e0 b F1 rfl) (bE c fun c0 b0 c=>yH (rAp (b.rowNh 31 (rP rB (rS (rI .u32)))) SL_32 e0 e0 (rdI F0) b0) fun i w b=>Ya i.v e0 (wK a9 (sR fun _ b1=>Ym i.v e0 (Ym (iV j) (eh B) (Ym k.v (eh C) (Ym (iV d) (eh o) (bE c fun F G c=>?_)))))))
  refine yY (yIa SL_32 e0 e0 b (rdI (F_2 z)) G) ?_
  obtain ⟨c1,c2,b⟩:=iLd b (F_2 z) G
  obtain ⟨c3,c4,rfl,b⟩:=b.eltP
  obtain ⟨rfl,b⟩:=b.eltB
  obtain ⟨H,rfl,b⟩:=b.eltS
  refine yY (yCtn (cs:=[.bool F.1,H.v]) ST_31 rfl e0 b F1) (bE c fun b2 I c=>yY (yIs SL_32 e0 e0 b rO0 I) (yT (r_stn (cs:=[.bool F.1,H.v]) b ST_31 e0 e0 rfl (mkP mkB (mkS F0)) I) fun w b=>wK b1 (wR (Ym m.v (eh D) (Ym i.v e0 (yH (rLt (n:=1) (l:=[b2]) b.fz SL_22 [i.v] (bp1 e0) rfl rfl (mks1 (cs:=[i.v]) rfl (mkS F0) mks0)) fun c5 w b=>bE c fun c6 b3 c=>yH (rAp (b.k11) SL_22 e0 e0 rO1 b3) ?_))))))
  refine fun b4 w b=>Ya b4.v e0 (wN (a7 _ _ _ (a6 _ _ (wR (Ym (iV d) (eh o) (yY (yadd e0 rfl) (Ya (iV (wa .i64 d 1)) e0 (wN ?_))))))))
  cases c
  exact a0 _ _ _ rfl ⟨_,_,_,_,rfl,rfl,u,B,C,rfl,rfl,((b.k12).facts (allT (allT (allT (allT (allT allI))))))⟩
 ·refine wp_exit (a3 _ _ _ rfl ?_)
  cases c
  exact a1 _ _ _ _ rfl rfl (V _ _ _ _ D b (Z _ rfl))
theorem sparseref08_Solve_ok {I:List (List (Bool×LI))} {J:List (Bool×LI)} {j r:Hdr} {out:(List (Bool×LI))×Bool×LI×Bool} (c:sparseref08_Solve I J=some out) (B:imm (rS (rP rB (rS (rI .u32)))) j.v I∈ros) (X:imm (rP rB (rS (rI .u32))) r.v J∈ros) (b:St w0 ros rs w):
  Calls Tryz.prog 25 #[j.v,r.v] w (fun e w=>∃ (K L:Hdr),e=.returned (.tuple #[K.v,.agg #[.bool out.2.1,L.v],.bool out.2.2.2])∧St w0 ros (row 31 (rP rB (rS (rI .u32))) K.v out.1::row 103 (rI .u32) L.v out.2.2.1::rs) w):=by
 refine enterQ Tryz.func25 rfl Tryz.ntmps25 rfl fun Q N=>sR fun _ Z=>Ya hnil.v rfl (yBb (rAl b ZT_31) fun m w b=>Ya (.bool false) rfl (wK Z (sR fun _ a0=>Ym j.v e0 (bE c fun g a2 c=>yC (yCall FN_41 (a1 e0)) (sparseref08_Det_ok a2 B b) ?_))))
 rintro _ w ⟨h,rfl,b⟩
 refine ⟨_,rfl,?_⟩
 refine yBb (rAl b ZT_31) fun o w b=>yT (r_stbn (vals':=[.bool g.1,h.v]) (us:=[.bool g.1,h.v]) b ST_31 e0 e0 rfl rfl (one_of rfl) rfl) fun w b=>wK a0 (seqQ fun f3 a4 a5=>sR fun _ a6=>yY (lbs_ [.bool g.1,h.v] ST_31 e0 b R0) (bE c fun f4 a7 c=>?_))
 replace b:=(b.k11).fz
 refine yC (yCall FN_34 (a1 e0)) (sparseref01_Sign_ok a7 F0 b) ?_
 rintro _ w ⟨rfl,b⟩
 refine ⟨_,rfl,?_⟩
 refine yY (yeql e0 rfl) (wK a6 ?_)
 refine cIf e0 c (fun a8 c=>?_) fun a8 c=>?_
 ·refine sR fun _ a9=>yY (ybuild (us:=[.bool false,hnil.v]) [] SO_31 bp0 rfl) (Ya hnil.v rfl (yT (r_stbn (vals':=[.bool false,hnil.v]) (us:=[.bool false,hnil.v]) (b.k11) ST_31 e0 e0 rfl rfl (one_of rfl) rfl) fun w b=>Ya (.bool false) rfl (wK a9 (wp_ret (a5 _ _ _ rfl ?_)))))
  cases c
  replace b:=(b.rowNh 31 (rP rB (rS (rI .u32)))).rowNh 103 (rI .u32)
  exact N _ _ _ (fin3r Tryz.results25 ⟨rfl,rfl⟩ (rcs2 rfl rfl b R2 ST_31 rfl) ⟨rfl,rfl⟩ ⟨_,_,rfl,((b.k3c).facts (allT allI))⟩)
 ·refine wp_skip (a4 _ _ (sR fun _ b0=>Ya hnil.v rfl (wK b0 (sQ fun _ b1=>sR fun _ b2=>Ya (iV 0) rfl (wK b2 (blockQ fun b3 b4=>?_))))))
  refine bE c fun b6 b7 c=>?_
  have b9:∀ (C:List (Bool×LI)) (t:Hdr) (f:FV) w,f 5=(pB m)→f 7=(pB o)→f 8=t.v→St w0 (imm (rI .u32) h.v g.2::ros) (box m 31 [.bool false,hnil.v]::box o 31 [.bool g.1,h.v]::row 31 (rP rB (rS (rI .u32))) t.v C::rs) w→C=b6→b3 (.exit 0) (fr 40 f) w:=by
   intro C t f w O c0 c1 b ho
   subst ho
   refine b4 _ _ _ (b1 _ _ (sR fun _ c2=>Ym t.v (eh c1) (yY (lbs_ [.bool g.1,h.v] ST_31 (eh c0) b R1) (bE c fun R c3 c=>yC (yCall FN_72 (a1 e0)) (sparseref01_Abs_ok c3 F0 b) ?_))))
   rintro _ w ⟨S,rfl,b⟩
   refine ⟨_,rfl,?_⟩
   refine Ya t.v e0 (yT (r_stbn (vals':=[.bool R.1,S.v]) (us:=[.bool R.1,S.v]) (b.k11) ST_31 (eh O) e0 rfl rfl (one_of rfl) rfl) fun w b=>Ya (.bool true) rfl (wK c2 (wp_ret ?_)))
   cases c
   exact N _ _ _ (fin3r Tryz.results25 ⟨rfl,rfl⟩ (rcs2 rfl O b R0 ST_31 rfl) ⟨rfl,rfl⟩ ⟨_,_,rfl,((b.k3d).facts (allT allI))⟩)
  replace b:=b.rowNh 31 (rP rB (rS (rI .u32)))
  refine loopQ (fun s a w=>∃ (u:List (Bool×LI)) (i:Int) (f:FV) (p:Hdr),(u,i)=s∧a=fr 40 f∧f 0=j.v∧f 1=r.v∧f 5=(pB m)∧f 7=(pB o)∧f 8=p.v∧f 9=iV i∧St w0 (imm (rI .u32) h.v g.2::ros) (box m 31 [.bool false,hnil.v]::box o 31 [.bool g.1,h.v]::row 31 (rP rB (rS (rI .u32))) p.v u::rs) w) b7 ⟨_,_,_,_,rfl,rfl,rfl,rfl,rfl,rfl,rfl,rfl,(b.k2c)⟩ ?_
  rintro _ _ w c4 ⟨u,i,f,p,rfl,rfl,x,D,E,y,F,z,b⟩ d c5 f5 c6 c7
  refine seqQ fun f6 c8 c9=>sR fun _ d0=>Ym (iV i) (eh z) (Ym j.v (eh x) (yY (yLen SL_22 e0 b (rdI (mtF B))) (yY (ylss e0 e0) (wK d0 ?_))))
  refine cIf e0 d (fun d1 d=>?_) fun d1 d=>?_
  ·refine wp_skip (c8 _ _ (sQ fun _ d2=>blockQ fun _ d3=>sR fun _ d4=>Ym j.v (eh x) (Ym (iV i) (eh z) (Ym r.v (eh D) (bE d fun f7 d5 d=>yC (yCall FN_70 (a3 e0 e0 e0)) (sparseref08_replaced_ok d5 (mtF B) (mtF X) b) ?_)))))
   rintro _ w ⟨f8,rfl,b⟩
   refine ⟨_,rfl,?_⟩
   refine bE d fun G d6 d=>?_
   replace b:=b.fz
   refine yC (yCall FN_41 (a1 e0)) (sparseref08_Det_ok d6 F0 b) ?_
   rintro _ w ⟨H,rfl,b⟩
   refine ⟨_,rfl,?_⟩
   refine yBb (rAl b ZT_31) fun T w b=>yT (r_stbn (vals':=[.bool G.1,H.v]) (us:=[.bool G.1,H.v]) b ST_31 e0 e0 rfl rfl (one_of rfl) rfl) fun w b=>wK d4 (sQ fun d7 d8=>sR fun _ d9=>yY (lbs_ [.bool g.1,h.v] ST_31 (eh y) b R3) (bE d fun f9 e1 d=>yC (yCall FN_34 (a1 e0)) (sparseref01_Sign_ok e1 F1 b) ?_))
   rintro _ w ⟨rfl,b⟩
   refine ⟨_,rfl,?_⟩
   refine yY (ylss e0 rfl) (wK d9 ?_)
   have U:∀ (k:Bool) (A:LI) (q:Hdr) (f:FV) w,f 0=j.v→f 1=r.v→f 5=(pB m)→f 7=(pB o)→f 8=p.v→f 9=iV i→f 10=(pB T)→St w0 (imm (rI .u32) h.v g.2::ros) (box m 31 [.bool false,hnil.v]::box o 31 [.bool g.1,h.v]::row 31 (rP rB (rS (rI .u32))) p.v u::row 103 (rI .u32) q.v A::box T 31 [.bool k,q.v]::rs) w→sparseref08_Solve_j4 u i k A=some c4→d7 .normal (fr 40 f) w:=by
    intro k A q f w e2 e3 e4 e5 e6 e7 e8 b c
    refine d8 _ _ (wR (Ym p.v (eh e6) (yY (lbs_ [.bool k,q.v] ST_31 (eh e8) b R4) (yH (rLt (n:=1) (l:=[(k,A)]) ((b.k17).fz) SL_32 [.agg #[.bool k,q.v]] (bp1 e0) rfl rfl (mks1 (cs:=[.bool k,q.v]) rfl (mkP mkB (mkS F0)) mks0)) fun g0 w b=>bE c fun g1 e9 c=>yH (rAp (b.k17) SL_32 e0 e0 rO1 e9) fun f0 w b=>Ya f0.v e0 (wN (d3 _ _ _ (d2 _ _ (wR ?_))))))))
    refine Ym (iV i) (eh e7) (yY (yadd e0 rfl) (Ya (iV (wa .i64 i 1)) e0 (wN ?_)))
    cases c
    exact c6 _ _ _ rfl ⟨_,_,_,_,rfl,rfl,e2,e3,e4,e5,rfl,rfl,((b.k1y).facts (allC F1 (allT (allT allI))))⟩
   refine cIf e0 d (fun f1 d=>?_) fun f1 d=>?_
   ·refine wR (yY (lbs_ [.bool G.1,H.v] ST_31 e0 b R0) (bE d fun V f2 d=>?_))
    replace b:=(b.k11).fz
    refine yC (yCall FN_71 (a1 e0)) (sparseref01_Neg_ok f2 F0 b) ?_
    rintro _ w ⟨W,rfl,b⟩
    refine ⟨_,rfl,?_⟩
    exact yT (r_stbn (vals':=[.bool V.1,W.v]) (us:=[.bool V.1,W.v]) (b.k11) ST_31 e0 e0 rfl rfl (one_of rfl) rfl) fun w b=>wN (U _ _ _ _ _ x D E y F z rfl ((b.k3e).facts (allC F2 (allT (allT (allT allI))))) d)
   ·exact wp_skip (U _ _ _ _ _ x D E y F z rfl ((b.k3e).facts (allC F1 (allT (allT allI)))) d)
  ·refine wp_exit (c9 _ _ _ rfl ?_)
   cases d
   exact c7 _ _ _ _ rfl rfl (b9 _ _ _ _ E y F b (c5 _ rfl))
theorem sparseref08_Least_ok {i:List (List (Bool×LI))} {j:List (Bool×LI)} {d f:Hdr} {out:(List (Bool×LI))×Bool×LI×Bool} (b:sparseref08_Least i j=some out) (k:imm (rS (rP rB (rS (rI .u32)))) d.v i∈ros) (o:imm (rP rB (rS (rI .u32))) f.v j∈ros) (a:St w0 ros rs w):
  Calls Tryz.prog 24 #[d.v,f.v] w (fun e w=>∃ (l m:Hdr),e=.returned (.tuple #[l.v,.agg #[.bool out.2.1,m.v],.bool out.2.2.2])∧St w0 ros (row 31 (rP rB (rS (rI .u32))) l.v out.1::row 103 (rI .u32) m.v out.2.2.1::rs) w):=by
 refine enterQ Tryz.func24 rfl Tryz.ntmps24 rfl fun Q p=>sR fun _ q=>Ya hnil.v rfl (yBb (rAl a ZT_31) fun z w a=>Ya (.bool false) rfl (wK q (sR fun _ r=>Ym d.v e0 (bE b fun A s b=>yC (yCall FN_33 (a1 e0)) (sparseref08_Transpose_ok s k a) ?_))))
 rintro _ w ⟨g,rfl,a⟩
 refine ⟨_,rfl,?_⟩
 refine Ya g.v e0 (wK r (sR fun _ t=>Ym g.v e0 (Ym d.v e0 (bE b fun B u b=>?_))))
 replace a:=a.fz
 refine yC (yCall FN_46 (a2 e0 e0)) (sparseref08_Product_ok u F0 (mtF k) a) ?_
 rintro _ w ⟨C,rfl,a⟩
 refine ⟨_,rfl,?_⟩
 refine Ym g.v e0 (Ym f.v e0 (bE b fun D x b=>yC (yCall FN_30 (a2 e0 e0)) (sparseref08_Times_ok x F0 (mtF o) a) ?_))
 rintro _ w ⟨E,rfl,a⟩
 refine ⟨_,rfl,?_⟩
 refine bE b fun c y b=>?_
 replace a:=((a.k11).fz).fz
 refine yC (yCall FN_25 (a2 e0 e0)) (sparseref08_Solve_ok y F1 F0 a) ?_
 rintro _ w ⟨n,h,rfl,a⟩
 refine ⟨_,rfl,?_⟩
 refine yY (x_ n.v e0) (yY (x_ (.agg #[.bool c.2.1,h.v]) e0) (yY (x_ (.bool c.2.2.2) e0) (Ya n.v e0 (yT (r_stbn (vals':=[.bool c.2.1,h.v]) (us:=[.bool c.2.1,h.v]) (a.k1f) ST_31 e0 e0 rfl rfl (one_of rfl) rfl) fun w a=>Ya (.bool c.2.2.2) e0 (wK t (wp_ret ?_))))))
 cases b
 exact p _ _ _ (fin3r Tryz.results24 ⟨rfl,rfl⟩ (rcs2 rfl rfl a R0 ST_31 rfl) ⟨rfl,rfl⟩ ⟨_,_,rfl,((a.k2f).facts (allT (allT (allT allI))))⟩)
theorem sparselaw08_ExactSolves_ok {c8:List (List (Bool×LI))} {d0:List (Bool×LI)} {j m:Hdr} {out:Bool} (c:sparselaw08_ExactSolves c8 d0=some out) (A9:out=true) (q:imm (rS (rP rB (rS (rI .u32)))) j.v c8∈ros) (b2:imm (rP rB (rS (rI .u32))) m.v d0∈ros) (a:St w0 ros rs w):
  Calls Tryz.prog 4 #[j.v,m.v] w (fun e w=>e=.returned (.bool out)∧St w0 ros rs w):=by
 refine enterQ Tryz.func4 rfl Tryz.ntmps4 rfl fun Q C=>sR fun _ m1=>Ya (.bool false) rfl (wK m1 (seqQ fun B0 m2 m3=>sR fun _ m4=>Ym j.v e0 (bE c fun m5 m6 c=>yC (yCall FN_9 (a1 e0)) (sparselaw08_small_ok m6 q a) ?_)))
 rintro _ w ⟨rfl,a⟩
 refine ⟨_,rfl,?_⟩
 refine yY (ynot e0) (Ym (.bool (!m5)) e0 (bE c fun m7 L c=>?_))
 refine joinW 4 (fun f w=>f 0=j.v∧f 1=m.v∧f 30=.bool m7∧St w0 ros rs w) (fun e4=>?_) ?_
 ·rcases iteS L with ⟨D,L⟩ | ⟨D,L⟩
  ·refine yG (nF D) (m_ m.v e0) (bE L fun m8 m9 L=>Yc (wG (nF D)) rfl (yCall FN_17 (a1 e0)) (sparselaw08_slim_ok m9 b2 a) ?_)
   rintro _ w ⟨rfl,a⟩
   refine ⟨_,rfl,?_⟩
   refine yG (nF D) (ynot e0) (yY (pf_ (.bool (!m8)) e0 (nF D) e0) ?_)
   cases L
   exact e4 _ _ ⟨rfl,rfl,rfl,a⟩
  ·refine gN (nT (bfalse D)) (gN (nT (bfalse D)) (gN (nT (bfalse D)) (yY (pt_ (.bool true) e0 (nT (bfalse D)) rfl) ?_)))
   cases L
   exact e4 _ _ ⟨rfl,rfl,rfl,a⟩
 rintro f w ⟨c0,c1,n0,a⟩
 refine wK m4 (cB (eh n0) c (fun n1 c=>?_) fun n1 c=>?_)
 ·refine sR fun _ n2=>bE c fun n3 n4 c=>yC (yCall FN_10 a0) (sparselaw08_awake_ok n4 a) ?_
  rintro _ w ⟨rfl,a⟩
  refine ⟨_,rfl,?_⟩
  refine Ya (.bool n3) e0 (wK n2 (wp_ret (m3 _ _ _ rfl ?_)))
  cases c
  exact C _ _ _ (fin1r Tryz.results4 ⟨rfl,rfl⟩ ⟨rfl,a⟩)
 ·refine wp_skip (m2 _ _ (sR fun _ n5=>Ym j.v (eh c0) (bE c fun B1 n6 c=>yC (yCall FN_11 (a1 e0)) (sparsekit_TwinRows_ok n6 q a) ?_)))
  rintro _ w ⟨c2,rfl,a⟩
  refine ⟨_,rfl,?_⟩
  refine Ym m.v (eh c1) (bE c fun B2 n7 c=>yC (yCall FN_18 (a1 e0)) (sparsekit_TwinBigs_ok n7 b2 a) ?_)
  rintro _ w ⟨c3,rfl,a⟩
  refine ⟨_,rfl,?_⟩
  refine Ya c2.v e0 (Ya c3.v e0 (wK n5 (sR fun _ n8=>Ym c2.v e0 (Ym c3.v e0 (bE c fun b n9 c=>?_)))))
  replace a:=((a.k11).fz).fz
  refine yC (yCall FN_19 (a2 e0 e0)) (exact_Solve_ok n9 F1 F0 a) ?_
  rintro _ w ⟨l,i,rfl,a⟩
  refine ⟨_,rfl,?_⟩
  refine Ym (.tuple #[l.v,.agg #[.bool b.2.1,i.v],iV b.2.2.2]) e0 (yY (x_ l.v e0) (yY (x_ (.agg #[.bool b.2.1,i.v]) e0) (yY (x_ (iV b.2.2.2) e0) (yBb (rAl a ZT_31) fun n w a=>Ya l.v e0 (yT (r_stbn (vals':=[.bool b.2.1,i.v]) (us:=[.bool b.2.1,i.v]) a ST_31 e0 e0 rfl rfl (one_of rfl) rfl) fun w a=>Ya (iV b.2.2.2) e0 (wK n8 (sR fun _ o0=>?_)))))))
  refine Ym c2.v e0 (Ym c3.v e0 (bE c fun d o1 c=>yC (yCall FN_20 (a2 e0 e0)) (exact_Least_ok o1 F2 F1 a) ?_))
  rintro _ w ⟨r,o,rfl,a⟩
  refine ⟨_,rfl,?_⟩
  refine Ym (.tuple #[r.v,.agg #[.bool d.2.1,o.v],iV d.2.2.2]) e0 (yY (x_ r.v e0) (yY (x_ (.agg #[.bool d.2.1,o.v]) e0) (yY (x_ (iV d.2.2.2) e0) (yBb (rAl a ZT_31) fun J w a=>Ya r.v e0 (yT (r_stbn (vals':=[.bool d.2.1,o.v]) (us:=[.bool d.2.1,o.v]) a ST_31 e0 e0 rfl rfl (one_of rfl) rfl) fun w a=>Ya (iV d.2.2.2) e0 (wK o0 (seqQ fun B3 o2 o3=>sQ fun _ o4=>?_)))))))
  refine wR (Ym c2.v e0 (Ym j.v (eh c0) (bE c fun o5 o6 c=>yC (yCall FN_21 (a2 e0 e0)) (sparsekit_Rows_ok o6 F3 (F_4 q) a) ?_)))
  rintro _ w ⟨rfl,a⟩
  refine ⟨_,rfl,?_⟩
  refine yY (ynot e0) (Ym (.bool (!o5)) e0 (bE c fun o7 N c=>?_))
  refine joinW 5 (fun f w=>f 0=j.v∧f 1=m.v∧f 7=l.v∧f 8=(pB n)∧f 9=iV b.2.2.2∧f 10=r.v∧f 11=(pB J)∧f 12=iV d.2.2.2∧f 59=.bool o7∧St w0 (imm (rI .u32) i.v b.2.2.1::imm (rI .u32) o.v d.2.2.1::ros) (row 31 (rP rB (rS (rI .u32))) l.v b.1::box n 31 [.bool b.2.1,i.v]::row 31 (rP rB (rS (rI .u32))) r.v d.1::box J 31 [.bool d.2.1,o.v]::rs) w) (fun e5=>?_) ?_
  ·rcases iteS N with ⟨s,N⟩ | ⟨s,N⟩
   ·refine yG (nF s) (m_ c3.v e0) (yG (nF s) (m_ m.v (eh c1)) (bE N fun o8 o9 N=>Yc (wG (nF s)) rfl (yCall FN_22 (a2 e0 e0)) (sparsekit_Bigs_ok o9 F2 (F_4 b2) a) ?_))
    rintro _ w ⟨rfl,a⟩
    refine ⟨_,rfl,?_⟩
    refine yG (nF s) (ynot e0) (yY (pf_ (.bool (!o8)) e0 (nF s) e0) ?_)
    cases N
    exact e5 _ _ ⟨c0,c1,rfl,rfl,rfl,rfl,rfl,rfl,rfl,((a.k1e).facts (allC F1 (allC F0 (allT (allT (allT (allT allI)))))))⟩
   ·refine gN (nT (bfalse s)) (gN (nT (bfalse s)) (gN (nT (bfalse s)) (gN (nT (bfalse s)) (yY (pt_ (.bool true) e0 (nT (bfalse s)) rfl) ?_))))
    cases N
    exact e5 _ _ ⟨c0,c1,rfl,rfl,rfl,rfl,rfl,rfl,rfl,((a.k1e).facts (allC F1 (allC F0 (allT (allT (allT (allT allI)))))))⟩
  rintro f w ⟨e6,e7,d1,d2,e8,e9,f0,f1,p0,a⟩
  refine wK o4 (cB (eh p0) c (fun p1 c=>?_) fun p1 c=>?_)
  ·refine sR fun _ p2=>Ya (.bool false) rfl (wK p2 (wp_ret (o3 _ _ _ rfl ?_)))
   cases c
   exact C _ _ _ (fin1r Tryz.results4 ⟨rfl,rfl⟩ ⟨rfl,((a.k1d).facts (allT (allT allI)))⟩)
  ·refine wp_skip (o2 _ _ (sR fun _ p3=>yY (lbs_ [.bool b.2.1,i.v] ST_31 (eh d2) a R1) (yY (ybuild (us:=[.bool false,hnil.v]) [] SO_31 bp0 rfl) (bE c fun g p4 c=>?_))))
   replace a:=a.immNh (rI .u32)
   refine yC (yCall FN_23 (a2 e0 e0)) (sparsekit_Big_ok p4 F1 F0 a) ?_
   rintro _ w ⟨rfl,a⟩
   refine ⟨_,rfl,?_⟩
   refine Ym (.bool g) e0 ?_
   refine joinW 4 (fun f w=>f 0=j.v∧f 1=m.v∧f 7=l.v∧f 8=(pB n)∧f 9=iV b.2.2.2∧f 10=r.v∧f 11=(pB J)∧f 12=iV d.2.2.2∧f 67=.bool (g && (decide ((b.1.length:Int)=0)))∧St w0 (imm (rI .u32) i.v b.2.2.1::imm (rI .u32) o.v d.2.2.1::ros) (row 31 (rP rB (rS (rI .u32))) l.v b.1::box n 31 [.bool b.2.1,i.v]::row 31 (rP rB (rS (rI .u32))) r.v d.1::box J 31 [.bool d.2.1,o.v]::rs) w) (fun f2=>?_) ?_
   ·rcases Bool.eq_false_or_eq_true g with t | t
    ·exact yG t (m_ l.v (eh d1)) (yG t (yLen SL_32 e0 a rO0) (yG t (yeql e0 rfl) (yY (pt_ (.bool (decide ((b.1.length:Int)=0))) e0 t e0) (f2 _ _ ⟨e6,e7,d1,d2,e8,e9,f0,f1,(congrArg Value.bool (andT t)),(a.facts (allC F1 (allC F2 (allT (allT (allT allI))))))⟩))))
    ·exact gN t (gN t (gN t (yY (pf_ (.bool false) e0 t rfl) (f2 _ _ ⟨e6,e7,d1,d2,e8,e9,f0,f1,(congrArg Value.bool (andF t)),(a.facts (allC F1 (allC F2 (allT (allT (allT allI))))))⟩))))
   rintro f w ⟨f3,f4,f5,f6,f7,d3,d4,f8,p5,a⟩
   refine Ya (.bool (g && (decide ((b.1.length:Int)=0)))) (eh p5) (wK p3 (sR fun _ p6=>yY (lbs_ [.bool d.2.1,o.v] ST_31 (eh d4) a R3) (yY (ybuild (us:=[.bool false,hnil.v]) [] SO_31 bp0 rfl) (bE c fun k p7 c=>?_))))
   replace a:=a.immNh (rI .u32)
   refine yC (yCall FN_23 (a2 e0 e0)) (sparsekit_Big_ok p7 F2 F0 a) ?_
   rintro _ w ⟨rfl,a⟩
   refine ⟨_,rfl,?_⟩
   refine Ym (.bool k) e0 ?_
   refine joinW 4 (fun f w=>f 0=j.v∧f 1=m.v∧f 7=l.v∧f 8=(pB n)∧f 9=iV b.2.2.2∧f 10=r.v∧f 11=(pB J)∧f 12=iV d.2.2.2∧f 13=.bool (g && (decide ((b.1.length:Int)=0)))∧f 75=.bool (k && (decide ((d.1.length:Int)=0)))∧St w0 (imm (rI .u32) i.v b.2.2.1::imm (rI .u32) o.v d.2.2.1::ros) (row 31 (rP rB (rS (rI .u32))) l.v b.1::box n 31 [.bool b.2.1,i.v]::row 31 (rP rB (rS (rI .u32))) r.v d.1::box J 31 [.bool d.2.1,o.v]::rs) w) (fun f9=>?_) ?_
   ·rcases Bool.eq_false_or_eq_true k with u | u
    ·exact yG u (m_ r.v (eh d3)) (yG u (yLen SL_32 e0 a rO2) (yG u (yeql e0 rfl) (yY (pt_ (.bool (decide ((d.1.length:Int)=0))) e0 u e0) (f9 _ _ ⟨f3,f4,f5,f6,f7,d3,d4,f8,rfl,(congrArg Value.bool (andT u)),(a.facts (allC F1 (allC F2 (allT (allT (allT allI))))))⟩))))
    ·exact gN u (gN u (gN u (yY (pf_ (.bool false) e0 u rfl) (f9 _ _ ⟨f3,f4,f5,f6,f7,d3,d4,f8,rfl,(congrArg Value.bool (andF u)),(a.facts (allC F1 (allC F2 (allT (allT (allT allI))))))⟩))))
   rintro f w ⟨E,b3,c4,c5,O,p8,g0,b4,K,p9,a⟩
   refine Ya (.bool (k && (decide ((d.1.length:Int)=0)))) (eh p9) (wK p6 (seqQ fun B4 q0 q3=>sR fun _ q4=>Ym j.v (eh E) (bE c fun h q5 c=>yC (yCall FN_12 (a1 e0)) (sparseref08_Check_ok q5 (F_2 q) a) ?_)))
   rintro _ w ⟨rfl,a⟩
   refine ⟨_,rfl,?_⟩
   refine Ya (iV h) e0 (wK q4 (sR fun _ q6=>Ym (iV h) e0 (yY (yneq e0 rfl) (wK q6 ?_))))
   rcases iteS c with ⟨d5,c⟩ | ⟨d5,c⟩
   ·refine condF e0 (nF (dT d5)) (wp_skip (q0 _ _ (seqQ fun B5 q7 q8=>sR fun _ q9=>Ym m.v (eh b3) (yY (yLen SL_32 e0 a (rdI (F_2 b2))) (Ym j.v (eh E) (yY (yLen SL_22 e0 a (rdI (F_2 q))) (yY (yneq e0 e0) (wK q9 ?_))))))))
    rcases iteS c with ⟨d6,c⟩ | ⟨d6,c⟩
    ·refine condF e0 (nF (dT d6)) (wp_skip (q7 _ _ (seqQ fun r0 r1 g1=>sR fun _ r2=>Ym j.v (eh E) (Ym m.v (eh b3) (bE c fun x r3 c=>yC (yCall FN_24 (a2 e0 e0)) (sparseref08_Least_ok r3 (F_2 q) (F_2 b2) a) ?_)))))
     rintro _ w ⟨c6,R,rfl,a⟩
     refine ⟨_,rfl,?_⟩
     refine Ym (.tuple #[c6.v,.agg #[.bool x.2.1,R.v],.bool x.2.2.2]) e0 (yY (x_ c6.v e0) (yY (x_ (.agg #[.bool x.2.1,R.v]) e0) (yY (x_ (.bool x.2.2.2) e0) (yBb (rAl a ZT_31) fun g2 w a=>Ya c6.v e0 (yT (r_stbn (vals':=[.bool x.2.1,R.v]) (us:=[.bool x.2.1,R.v]) a ST_31 e0 e0 rfl rfl (one_of rfl) rfl) fun w a=>Ya (.bool x.2.2.2) e0 (wK r2 (sR fun _ r4=>?_)))))))
     refine Ym (.bool x.2.2.2) e0 (yY (ynot e0) (wK r4 ?_))
     have g3:∀ (f:FV) w,f 0=j.v→f 1=m.v→f 7=l.v→f 8=(pB n)→f 9=iV b.2.2.2→f 13=.bool (g && (decide ((b.1.length:Int)=0)))→St w0 (imm (rI .u32) i.v b.2.2.1::ros) (row 31 (rP rB (rS (rI .u32))) l.v b.1::box n 31 [.bool b.2.1,i.v]::rs) w→sparselaw08_ExactSolves_j8 c8 d0 b g=some out→r0 .normal (fr 197 f) w:=by
      intro f w d7 r6 r8 g4 d8 g5 a c
      refine r1 _ _ (seqQ fun B6 r9 s0=>sR fun _ s1=>Ym j.v (eh d7) (yY (yLen SL_22 e0 a (rdI (mtF q))) (Ym j.v (eh d7) (bE c fun B7 s2 c=>yC (yCall FN_13 (a1 e0)) (sparseref08_Cols_ok s2 (mtF q) a) ?_))))
      rintro _ w ⟨rfl,a⟩
      refine ⟨_,rfl,?_⟩
      refine yY (yneq e0 e0) (wK s1 ?_)
      rcases iteS c with ⟨d9,c⟩ | ⟨d9,c⟩
      ·refine condF e0 (nF (dT d9)) (wp_skip (r9 _ _ (sR fun _ s3=>Ym j.v (eh d7) (Ym m.v (eh r6) (bE c fun y s4 c=>yC (yCall FN_25 (a2 e0 e0)) (sparseref08_Solve_ok s4 (mtF q) (mtF b2) a) ?_)))))
       rintro _ w ⟨c7,S,rfl,a⟩
       refine ⟨_,rfl,?_⟩
       refine Ym (.tuple #[c7.v,.agg #[.bool y.2.1,S.v],.bool y.2.2.2]) e0 (yY (x_ c7.v e0) (yY (x_ (.agg #[.bool y.2.1,S.v]) e0) (yY (x_ (.bool y.2.2.2) e0) (yBb (rAl a ZT_31) fun g6 w a=>Ya c7.v e0 (yT (r_stbn (vals':=[.bool y.2.1,S.v]) (us:=[.bool y.2.1,S.v]) a ST_31 e0 e0 rfl rfl (one_of rfl) rfl) fun w a=>Ya (.bool y.2.2.2) e0 (wK s3 (seqQ fun B8 s5 s6=>sQ fun _ s7=>?_)))))))
       refine wR (Ym (.bool y.2.2.2) e0 (yY (ynot e0) (wK s7 ?_)))
       rcases iteS c with ⟨e1,c⟩ | ⟨e1,c⟩
       ·refine condF e0 (nF e1) (wp_skip (s5 _ _ (sR fun _ s8=>Ym (iV b.2.2.2) (eh d8) (yY (yeql e0 rfl) (Ym (.bool (decide (b.2.2.2=0))) e0 (bE c fun g7 T c=>?_))))))
        refine joinW 4 (fun f w=>f 8=(pB n)∧f 21=(pB g6)∧f 188=.bool g7∧St w0 (imm (rI .u32) i.v b.2.2.1::ros) (box n 31 [.bool b.2.1,i.v]::row 103 (rI .u32) S.v y.2.2.1::box g6 31 [.bool y.2.1,S.v]::rs) w) (fun g8=>?_) ?_
        ·rcases iteS T with ⟨F,T⟩ | ⟨F,T⟩
         ·refine yG (dT F) (m_ l.v (eh r8)) (yG (dT F) (m_ c7.v e0) (bE T fun s9 t0 T=>?_))
          replace a:=(((a.k17).fz).k11).fz
          refine Yc (wG (dT F)) rfl (yCall FN_22 (a2 e0 e0)) (sparsekit_Bigs_ok t0 F1 F0 a) ?_
          rintro _ w ⟨rfl,a⟩
          refine ⟨_,rfl,?_⟩
          refine yY (pt_ (.bool s9) e0 (dT F) e0) ?_
          cases T
          exact g8 _ _ ⟨g4,rfl,rfl,((a.k2c).facts (allC F2 (allT (allT (allT allI)))))⟩
         ·refine gN (dF F) (gN (dF F) (gN (dF F) (yY (pf_ (.bool false) e0 (dF F) rfl) ?_)))
          cases T
          exact g8 _ _ ⟨g4,rfl,rfl,(a.k3f)⟩
        rintro f w ⟨t1,t2,t3,a⟩
        refine Ym (.bool g7) (eh t3) (bE c fun g9 U c=>?_)
        refine joinW 4 (fun f w=>f 193=.bool g9∧St w0 ros rs w) (fun h0=>?_) ?_
        ·rcases iteS U with ⟨G,U⟩ | ⟨G,U⟩
         ·refine yG G (lbs_ [.bool b.2.1,i.v] ST_31 (eh t1) a R0) (yG G (lbs_ [.bool y.2.1,S.v] ST_31 (eh t2) a R2) (bE U fun t4 t5 U=>?_))
          replace a:=(a.k11).fz
          refine Yc (wG G) rfl (yCall FN_23 (a2 e0 e0)) (sparsekit_Big_ok t5 F1 F0 a) ?_
          rintro _ w ⟨rfl,a⟩
          refine ⟨_,rfl,?_⟩
          refine yY (pt_ (.bool t4) e0 G e0) ?_
          cases U
          exact h0 _ _ ⟨rfl,((a.k14).facts (allT (allT allI)))⟩
         ·refine gN (bfalse G) (gN (bfalse G) (gN (bfalse G) (yY (pf_ (.bool false) e0 (bfalse G) rfl) ?_)))
          cases U
          exact h0 _ _ ⟨rfl,((a.k1c).facts (allT allI))⟩
        rintro f w ⟨t6,a⟩
        refine Ym (.bool g9) (eh t6) (bE c fun h1 V c=>?_)
        refine joinW 2 (fun f w=>f 196=.bool h1∧St w0 ros rs w) (fun h3=>?_) ?_
        ·rcases iteS V with ⟨b5,V⟩ | ⟨b5,V⟩
         ·refine bE V fun t7 t8 V=>Yc (wG b5) rfl (yCall FN_10 a0) (sparselaw08_awake_ok t8 a) ?_
          rintro _ w ⟨rfl,a⟩
          refine ⟨_,rfl,?_⟩
          refine yY (pt_ (.bool t7) e0 b5 e0) ?_
          cases V
          exact h3 _ _ ⟨rfl,a⟩
         ·refine gN (bfalse b5) (yY (pf_ (.bool false) e0 (bfalse b5) rfl) ?_)
          cases V
          exact h3 _ _ ⟨rfl,a⟩
        rintro f w ⟨t9,a⟩
        refine Ya (.bool h1) (eh t9) (wK s8 (wp_ret ?_))
        cases c
        exact C _ _ _ (fin1r Tryz.results4 ⟨rfl,rfl⟩ ⟨rfl,a⟩)
       ·refine condT e0 (nT (bfalse e1)) (sR fun _ u0=>Ym (iV b.2.2.2) (eh d8) (yY (yeql e0 rfl) (Ym (.bool (decide (b.2.2.2=9))) e0 ?_)))
        refine joinW 2 (fun f w=>f 178=.bool ((decide (b.2.2.2=9)) && (g && (decide ((b.1.length:Int)=0))))∧St w0 ros rs w) (fun h5=>?_) ?_
        ·rcases Bool.eq_false_or_eq_true (decide (b.2.2.2=9)) with W | W
         ·exact yG W (m_ (.bool (g && (decide ((b.1.length:Int)=0)))) (eh g5)) (yY (pt_ (.bool (g && (decide ((b.1.length:Int)=0)))) e0 W e0) (h5 _ _ ⟨(congrArg Value.bool (andT W)),((a.k3g).facts (allT allI))⟩))
         ·exact gN W (yY (pf_ (.bool false) e0 W rfl) (h5 _ _ ⟨(congrArg Value.bool (andF W)),((a.k3g).facts (allT allI))⟩))
        rintro f w ⟨u1,a⟩
        refine Ym (.bool ((decide (b.2.2.2=9)) && (g && (decide ((b.1.length:Int)=0))))) (eh u1) (bE c fun h6 X c=>?_)
        refine joinW 2 (fun f w=>f 181=.bool h6∧St w0 ros rs w) (fun h7=>?_) ?_
        ·rcases iteS X with ⟨b6,X⟩ | ⟨b6,X⟩
         ·refine bE X fun u2 u3 X=>Yc (wG b6) rfl (yCall FN_10 a0) (sparselaw08_awake_ok u3 a) ?_
          rintro _ w ⟨rfl,a⟩
          refine ⟨_,rfl,?_⟩
          refine yY (pt_ (.bool u2) e0 b6 e0) ?_
          cases X
          exact h7 _ _ ⟨rfl,a⟩
         ·refine gN (bfalse b6) (yY (pf_ (.bool false) e0 (bfalse b6) rfl) ?_)
          cases X
          exact h7 _ _ ⟨rfl,a⟩
        rintro f w ⟨u4,a⟩
        refine Ya (.bool h6) (eh u4) (wK u0 (wp_ret (s6 _ _ _ rfl ?_)))
        cases c
        exact C _ _ _ (fin1r Tryz.results4 ⟨rfl,rfl⟩ ⟨rfl,a⟩)
      ·refine condT e0 (nT (dF d9)) (sR fun _ u5=>Ym (iV b.2.2.2) (eh d8) (yY (yeql e0 rfl) (Ym (.bool (decide (b.2.2.2=5))) e0 ?_)))
       refine joinW 2 (fun f w=>f 161=.bool ((decide (b.2.2.2=5)) && (g && (decide ((b.1.length:Int)=0))))∧St w0 ros rs w) (fun h8=>?_) ?_
       ·rcases Bool.eq_false_or_eq_true (decide (b.2.2.2=5)) with Z | Z
        ·exact yG Z (m_ (.bool (g && (decide ((b.1.length:Int)=0)))) (eh g5)) (yY (pt_ (.bool (g && (decide ((b.1.length:Int)=0)))) e0 Z e0) (h8 _ _ ⟨(congrArg Value.bool (andT Z)),((a.k14).facts (allT allI))⟩))
        ·exact gN Z (yY (pf_ (.bool false) e0 Z rfl) (h8 _ _ ⟨(congrArg Value.bool (andF Z)),((a.k14).facts (allT allI))⟩))
       rintro f w ⟨u6,a⟩
       refine Ym (.bool ((decide (b.2.2.2=5)) && (g && (decide ((b.1.length:Int)=0))))) (eh u6) (bE c fun h9 a3 c=>?_)
       refine joinW 2 (fun f w=>f 164=.bool h9∧St w0 ros rs w) (fun i0=>?_) ?_
       ·rcases iteS a3 with ⟨b7,a3⟩ | ⟨b7,a3⟩
        ·refine bE a3 fun u7 u8 a3=>Yc (wG b7) rfl (yCall FN_10 a0) (sparselaw08_awake_ok u8 a) ?_
         rintro _ w ⟨rfl,a⟩
         refine ⟨_,rfl,?_⟩
         refine yY (pt_ (.bool u7) e0 b7 e0) ?_
         cases a3
         exact i0 _ _ ⟨rfl,a⟩
        ·refine gN (bfalse b7) (yY (pf_ (.bool false) e0 (bfalse b7) rfl) ?_)
         cases a3
         exact i0 _ _ ⟨rfl,a⟩
       rintro f w ⟨u9,a⟩
       refine Ya (.bool h9) (eh u9) (wK u5 (wp_ret (s0 _ _ _ rfl ?_)))
       cases c
       exact C _ _ _ (fin1r Tryz.results4 ⟨rfl,rfl⟩ ⟨rfl,a⟩)
     rcases iteS c with ⟨e2,c⟩ | ⟨e2,c⟩
     ·refine condF e0 (nF e2) (sR fun _ v0=>Ym (iV d.2.2.2) (eh b4) (yY (yneq e0 rfl) (Ym (.bool (!(decide (d.2.2.2=0)))) e0 (bE c fun i1 a4 c=>?_))))
      refine joinW 5 (fun f w=>f 0=j.v∧f 1=m.v∧f 7=l.v∧f 8=(pB n)∧f 9=iV b.2.2.2∧f 11=(pB J)∧f 13=.bool (g && (decide ((b.1.length:Int)=0)))∧f 18=(pB g2)∧f 145=.bool i1∧St w0 (imm (rI .u32) i.v b.2.2.1::imm (rI .u32) o.v d.2.2.1::ros) (row 31 (rP rB (rS (rI .u32))) l.v b.1::box n 31 [.bool b.2.1,i.v]::box J 31 [.bool d.2.1,o.v]::row 103 (rI .u32) R.v x.2.2.1::box g2 31 [.bool x.2.1,R.v]::rs) w) (fun i2=>?_) ?_
      ·rcases iteS a4 with ⟨z,a4⟩ | ⟨z,a4⟩
       ·refine yG (nF (dT z)) (m_ r.v (eh p8)) (yG (nF (dT z)) (m_ c6.v e0) (bE a4 fun v1 v2 a4=>?_))
        replace a:=(((a.k22).fz).k11).fz
        refine Yc (wG (nF (dT z))) rfl (yCall FN_22 (a2 e0 e0)) (sparsekit_Bigs_ok v2 F1 F0 a) ?_
        rintro _ w ⟨rfl,a⟩
        refine ⟨_,rfl,?_⟩
        refine yG (nF (dT z)) (ynot e0) (yY (pf_ (.bool (!v1)) e0 (nF (dT z)) e0) ?_)
        cases a4
        exact i2 _ _ ⟨E,b3,c4,c5,O,g0,K,rfl,rfl,((a.k3e).facts (allC F2 (allC F3 (allT (allT (allT (allT allI)))))))⟩
       ·refine gN (nT (dF z)) (gN (nT (dF z)) (gN (nT (dF z)) (gN (nT (dF z)) (yY (pt_ (.bool true) e0 (nT (dF z)) rfl) ?_))))
        cases a4
        exact i2 _ _ ⟨E,b3,c4,c5,O,g0,K,rfl,rfl,(a.k3h)⟩
      rintro f w ⟨i3,i4,i5,i6,i7,v3,i8,v4,v5,a⟩
      refine Ym (.bool i1) (eh v5) (bE c fun v6 a5 c=>?_)
      refine joinW 5 (fun f w=>f 0=j.v∧f 1=m.v∧f 7=l.v∧f 8=(pB n)∧f 9=iV b.2.2.2∧f 13=.bool (g && (decide ((b.1.length:Int)=0)))∧f 151=.bool v6∧St w0 (imm (rI .u32) i.v b.2.2.1::ros) (row 31 (rP rB (rS (rI .u32))) l.v b.1::box n 31 [.bool b.2.1,i.v]::rs) w) (fun i9=>?_) ?_
      ·rcases iteS a5 with ⟨A,a5⟩ | ⟨A,a5⟩
       ·refine gN A (gN A (gN A (gN A (yY (pt_ (.bool true) e0 A rfl) ?_))))
        cases a5
        exact i9 _ _ ⟨i3,i4,i5,i6,i7,i8,rfl,((a.k1j).facts (allC F0 (allT (allT allI))))⟩
       ·refine yG (bfalse A) (lbs_ [.bool d.2.1,o.v] ST_31 (eh v3) a R2) (yG (bfalse A) (lbs_ [.bool x.2.1,R.v] ST_31 (eh v4) a R4) (bE a5 fun v7 v8 a5=>?_))
        replace a:=(a.k17).fz
        refine Yc (wG (bfalse A)) rfl (yCall FN_23 (a2 e0 e0)) (sparsekit_Big_ok v8 F2 F0 a) ?_
        rintro _ w ⟨rfl,a⟩
        refine ⟨_,rfl,?_⟩
        refine yG (bfalse A) (ynot e0) (yY (pf_ (.bool (!v7)) e0 (bfalse A) e0) ?_)
        cases a5
        exact i9 _ _ ⟨i3,i4,i5,i6,i7,i8,rfl,((a.k3i).facts (allC F1 (allT (allT (allT allI)))))⟩
      rintro f w ⟨v9,w1,w2,w3,w4,w5,w6,a⟩
      refine wK v0 (cB (eh w6) c (fun w7 c=>?_) fun w7 c=>?_)
      ·refine sR fun _ w8=>Ya (.bool false) rfl (wK w8 (wp_ret (g1 _ _ _ rfl ?_)))
       cases c
       exact C _ _ _ (fin1r Tryz.results4 ⟨rfl,rfl⟩ ⟨rfl,((a.k14).facts (allT allI))⟩)
      ·exact wp_skip (g3 _ _ v9 w1 w2 w3 w4 w5 a c)
     ·refine condT e0 (nT (bfalse e2)) (sR fun _ w9=>Ym (iV d.2.2.2) (eh b4) (yY (yneq e0 rfl) (Ym (.bool (!(decide (d.2.2.2=9)))) e0 ?_)))
      refine joinW 3 (fun f w=>f 0=j.v∧f 1=m.v∧f 7=l.v∧f 8=(pB n)∧f 9=iV b.2.2.2∧f 13=.bool (g && (decide ((b.1.length:Int)=0)))∧f 137=.bool ((!(decide (d.2.2.2=9))) || (!(k && (decide ((d.1.length:Int)=0)))))∧St w0 (imm (rI .u32) i.v b.2.2.1::ros) (row 31 (rP rB (rS (rI .u32))) l.v b.1::box n 31 [.bool b.2.1,i.v]::rs) w) (fun j0=>?_) ?_
      ·rcases Bool.eq_false_or_eq_true (!(decide (d.2.2.2=9))) with H | H
       ·exact gN H (gN H (yY (pt_ (.bool true) e0 H rfl) (j0 _ _ ⟨E,b3,c4,c5,O,K,(congrArg Value.bool (orT H)),((a.k3j).facts (allC F0 (allT (allT allI))))⟩)))
       ·exact yG H (m_ (.bool (k && (decide ((d.1.length:Int)=0)))) e0) (yG H (ynot e0) (yY (pf_ (.bool (!(k && (decide ((d.1.length:Int)=0))))) e0 H e0) (j0 _ _ ⟨E,b3,c4,c5,O,K,(congrArg Value.bool (orF H)),((a.k3j).facts (allC F0 (allT (allT allI))))⟩)))
      rintro f w ⟨x0,x2,x4,x5,x6,x7,x8,a⟩
      refine wK w9 (cB (eh x8) c (fun x9 c=>?_) fun x9 c=>?_)
      ·refine sR fun _ y0=>Ya (.bool false) rfl (wK y0 (wp_ret (g1 _ _ _ rfl ?_)))
       cases c
       exact C _ _ _ (fin1r Tryz.results4 ⟨rfl,rfl⟩ ⟨rfl,((a.k14).facts (allT allI))⟩)
      ·exact wp_skip (g3 _ _ x0 x2 x4 x5 x6 x7 a c)
    ·refine condT e0 (nT (dF d6)) (sR fun _ y1=>Ya (iV 2) rfl (wK y1 (sQ fun y2 y3=>sR fun _ y4=>Ym j.v (eh E) (yY (yLen SL_22 e0 a (rdI (F_2 q))) (Ym j.v (eh E) (bE c fun B9 y5 c=>yC (yCall FN_13 (a1 e0)) (sparseref08_Cols_ok y5 (F_2 q) a) ?_))))))
     rintro _ w ⟨rfl,a⟩
     refine ⟨_,rfl,?_⟩
     refine yY (yneq e0 e0) (wK y4 ?_)
     have j5:∀ (p:Int) (f:FV) w,f 9=iV b.2.2.2→f 12=iV d.2.2.2→f 13=.bool (g && (decide ((b.1.length:Int)=0)))→f 14=.bool (k && (decide ((d.1.length:Int)=0)))→f 16=iV p→St w0 ros rs w→sparselaw08_ExactSolves_j19 b d g k p=some out→y2 .normal (fr 197 f) w:=by
      intro p f w y6 y7 j6 j7 y8 a c
      refine y3 _ _ (sR fun _ y9=>Ym (iV b.2.2.2) (eh y6) (Ym (iV p) (eh y8) (yY (yeql e0 e0) (Ym (.bool (decide (b.2.2.2=p))) e0 ?_))))
      refine joinW 3 (fun f w=>f 13=.bool (g && (decide ((b.1.length:Int)=0)))∧f 14=.bool (k && (decide ((d.1.length:Int)=0)))∧f 113=.bool ((decide (b.2.2.2=p)) && (decide (d.2.2.2=2)))∧St w0 ros rs w) (fun k0=>?_) ?_
      ·rcases Bool.eq_false_or_eq_true (decide (b.2.2.2=p)) with I | I
       ·exact yG I (m_ (iV d.2.2.2) (eh y7)) (yG I (yeql e0 rfl) (yY (pt_ (.bool (decide (d.2.2.2=2))) e0 I e0) (k0 _ _ ⟨j6,j7,(congrArg Value.bool (andT I)),a⟩)))
       ·exact gN I (gN I (yY (pf_ (.bool false) e0 I rfl) (k0 _ _ ⟨j6,j7,(congrArg Value.bool (andF I)),a⟩)))
      rintro f w ⟨z0,l0,z1,a⟩
      refine Ym (.bool ((decide (b.2.2.2=p)) && (decide (d.2.2.2=2)))) (eh z1) ?_
      refine joinW 2 (fun f w=>f 14=.bool (k && (decide ((d.1.length:Int)=0)))∧f 116=.bool (((decide (b.2.2.2=p)) && (decide (d.2.2.2=2))) && (g && (decide ((b.1.length:Int)=0))))∧St w0 ros rs w) (fun l1=>?_) ?_
      ·rcases Bool.eq_false_or_eq_true ((decide (b.2.2.2=p)) && (decide (d.2.2.2=2))) with a6 | a6
       ·exact yG a6 (m_ (.bool (g && (decide ((b.1.length:Int)=0)))) (eh z0)) (yY (pt_ (.bool (g && (decide ((b.1.length:Int)=0)))) e0 a6 e0) (l1 _ _ ⟨l0,(congrArg Value.bool (andT a6)),a⟩))
       ·exact gN a6 (yY (pf_ (.bool false) e0 a6 rfl) (l1 _ _ ⟨l0,(congrArg Value.bool (andF a6)),a⟩))
      rintro f w ⟨z3,z4,a⟩
      refine Ym (.bool (((decide (b.2.2.2=p)) && (decide (d.2.2.2=2))) && (g && (decide ((b.1.length:Int)=0))))) (eh z4) ?_
      refine joinW 2 (fun f w=>f 119=.bool ((((decide (b.2.2.2=p)) && (decide (d.2.2.2=2))) && (g && (decide ((b.1.length:Int)=0)))) && (k && (decide ((d.1.length:Int)=0))))∧St w0 ros rs w) (fun l2=>?_) ?_
      ·rcases Bool.eq_false_or_eq_true (((decide (b.2.2.2=p)) && (decide (d.2.2.2=2))) && (g && (decide ((b.1.length:Int)=0)))) with a7 | a7
       ·exact yG a7 (m_ (.bool (k && (decide ((d.1.length:Int)=0)))) (eh z3)) (yY (pt_ (.bool (k && (decide ((d.1.length:Int)=0)))) e0 a7 e0) (l2 _ _ ⟨(congrArg Value.bool (andT a7)),a⟩))
       ·exact gN a7 (yY (pf_ (.bool false) e0 a7 rfl) (l2 _ _ ⟨(congrArg Value.bool (andF a7)),a⟩))
      rintro f w ⟨z5,a⟩
      refine Ym (.bool ((((decide (b.2.2.2=p)) && (decide (d.2.2.2=2))) && (g && (decide ((b.1.length:Int)=0)))) && (k && (decide ((d.1.length:Int)=0))))) (eh z5) (bE c fun l3 a8 c=>?_)
      refine joinW 2 (fun f w=>f 122=.bool l3∧St w0 ros rs w) (fun l4=>?_) ?_
      ·rcases iteS a8 with ⟨b8,a8⟩ | ⟨b8,a8⟩
       ·refine bE a8 fun z6 z7 a8=>Yc (wG b8) rfl (yCall FN_10 a0) (sparselaw08_awake_ok z7 a) ?_
        rintro _ w ⟨rfl,a⟩
        refine ⟨_,rfl,?_⟩
        refine yY (pt_ (.bool z6) e0 b8 e0) ?_
        cases a8
        exact l4 _ _ ⟨rfl,a⟩
       ·refine gN (bfalse b8) (yY (pf_ (.bool false) e0 (bfalse b8) rfl) ?_)
        cases a8
        exact l4 _ _ ⟨rfl,a⟩
      rintro f w ⟨z9,a⟩
      refine Ya (.bool l3) (eh z9) (wK y9 (wp_ret (q8 _ _ _ rfl ?_)))
      cases c
      exact C _ _ _ (fin1r Tryz.results4 ⟨rfl,rfl⟩ ⟨rfl,a⟩)
     rcases iteS c with ⟨e3,c⟩ | ⟨e3,c⟩
     ·exact condF e0 (nF (dT e3)) (wp_skip (j5 _ _ _ O b4 K rfl rfl ((a.k1d).facts (allT (allT allI))) c))
     ·exact condT e0 (nT (dF e3)) (wR (Ya (iV 5) rfl (wN (j5 _ _ _ O b4 K rfl rfl ((a.k1d).facts (allT (allT allI))) c))))
   ·refine condT e0 (nT (dF d5)) (sR fun _ A0=>Ym (iV b.2.2.2) (eh O) (Ym (iV h) e0 (yY (yeql e0 e0) (Ym (.bool (decide (b.2.2.2=h))) e0 ?_))))
    refine joinW 4 (fun f w=>f 13=.bool (g && (decide ((b.1.length:Int)=0)))∧f 14=.bool (k && (decide ((d.1.length:Int)=0)))∧f 87=.bool ((decide (b.2.2.2=h)) && (decide (d.2.2.2=h)))∧St w0 ros rs w) (fun l5=>?_) ?_
    ·rcases Bool.eq_false_or_eq_true (decide (b.2.2.2=h)) with B | B
     ·exact yG B (m_ (iV d.2.2.2) (eh b4)) (yG B (m_ (iV h) e0) (yG B (yeql e0 e0) (yY (pt_ (.bool (decide (d.2.2.2=h))) e0 B e0) (l5 _ _ ⟨K,rfl,(congrArg Value.bool (andT B)),((a.k1d).facts (allT (allT allI)))⟩))))
     ·exact gN B (gN B (gN B (yY (pf_ (.bool false) e0 B rfl) (l5 _ _ ⟨K,rfl,(congrArg Value.bool (andF B)),((a.k1d).facts (allT (allT allI)))⟩))))
    rintro f w ⟨A1,l6,A2,a⟩
    refine Ym (.bool ((decide (b.2.2.2=h)) && (decide (d.2.2.2=h)))) (eh A2) ?_
    refine joinW 2 (fun f w=>f 14=.bool (k && (decide ((d.1.length:Int)=0)))∧f 90=.bool (((decide (b.2.2.2=h)) && (decide (d.2.2.2=h))) && (g && (decide ((b.1.length:Int)=0))))∧St w0 ros rs w) (fun l7=>?_) ?_
    ·rcases Bool.eq_false_or_eq_true ((decide (b.2.2.2=h)) && (decide (d.2.2.2=h))) with a9 | a9
     ·exact yG a9 (m_ (.bool (g && (decide ((b.1.length:Int)=0)))) (eh A1)) (yY (pt_ (.bool (g && (decide ((b.1.length:Int)=0)))) e0 a9 e0) (l7 _ _ ⟨l6,(congrArg Value.bool (andT a9)),a⟩))
     ·exact gN a9 (yY (pf_ (.bool false) e0 a9 rfl) (l7 _ _ ⟨l6,(congrArg Value.bool (andF a9)),a⟩))
    rintro f w ⟨A3,A4,a⟩
    refine Ym (.bool (((decide (b.2.2.2=h)) && (decide (d.2.2.2=h))) && (g && (decide ((b.1.length:Int)=0))))) (eh A4) ?_
    refine joinW 2 (fun f w=>f 93=.bool ((((decide (b.2.2.2=h)) && (decide (d.2.2.2=h))) && (g && (decide ((b.1.length:Int)=0)))) && (k && (decide ((d.1.length:Int)=0))))∧St w0 ros rs w) (fun l8=>?_) ?_
    ·rcases Bool.eq_false_or_eq_true (((decide (b.2.2.2=h)) && (decide (d.2.2.2=h))) && (g && (decide ((b.1.length:Int)=0)))) with b0 | b0
     ·exact yG b0 (m_ (.bool (k && (decide ((d.1.length:Int)=0)))) (eh A3)) (yY (pt_ (.bool (k && (decide ((d.1.length:Int)=0)))) e0 b0 e0) (l8 _ _ ⟨(congrArg Value.bool (andT b0)),a⟩))
     ·exact gN b0 (yY (pf_ (.bool false) e0 b0 rfl) (l8 _ _ ⟨(congrArg Value.bool (andF b0)),a⟩))
    rintro f w ⟨A5,a⟩
    refine Ym (.bool ((((decide (b.2.2.2=h)) && (decide (d.2.2.2=h))) && (g && (decide ((b.1.length:Int)=0)))) && (k && (decide ((d.1.length:Int)=0))))) (eh A5) (bE c fun l9 b1 c=>?_)
    refine joinW 2 (fun f w=>f 96=.bool l9∧St w0 ros rs w) (fun m0=>?_) ?_
    ·rcases iteS b1 with ⟨b9,b1⟩ | ⟨b9,b1⟩
     ·refine bE b1 fun A6 A7 b1=>Yc (wG b9) rfl (yCall FN_10 a0) (sparselaw08_awake_ok A7 a) ?_
      rintro _ w ⟨rfl,a⟩
      refine ⟨_,rfl,?_⟩
      refine yY (pt_ (.bool A6) e0 b9 e0) ?_
      cases b1
      exact m0 _ _ ⟨rfl,a⟩
     ·refine gN (bfalse b9) (yY (pf_ (.bool false) e0 (bfalse b9) rfl) ?_)
      cases b1
      exact m0 _ _ ⟨rfl,a⟩
    rintro f w ⟨A8,a⟩
    refine Ya (.bool l9) (eh A8) (wK A0 (wp_ret (q3 _ _ _ rfl ?_)))
    cases c
    exact C _ _ _ (fin1r Tryz.results4 ⟨rfl,rfl⟩ ⟨rfl,a⟩)
end Go.Proofs.YtpfmbaidflhamaaGreatDoor
