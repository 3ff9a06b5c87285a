/- Walks: each function computes its model, printed. -/
import Derived.Test.YthekfonboblioabGreatDoorW10
namespace Go.Proofs.YthekfonboblioabGreatDoor
open Go Sx M Go.Proofs.Tryz
set_option maxRecDepth 100000
set_option maxHeartbeats 40000000
set_option linter.unusedVariables false
attribute [local irreducible] wpList Code.wp Calls DR QR QS LA LS St row box fam imm rowS loop
variable {w0:World} {ax:List Fact} {rs:List Res} {w:World}
theorem Ei {b:List (List (Bool×LI))} {d:Hdr} {out:Int} (c:m_iq b=some out) (e:imm (rS Cw) d.v b∈ax) (a:St w0 ax rs w):
  Calls prog 43 #[d.v] w (rv w0 ax rs (iV out)):=by
 refine en func43 rfl ntmps43 fun Q f=>bE c fun j g c=>q 8 rfl (cT_ (Mf g e a) fun k l w a=>bE c fun m h c=>q 1 rfl (cZ (Kf h e a) fun w a=>bE c fun n i c=>yC (C9 bw (a2 e0 e0)) (zf i a) ?_))
 rintro _ w ⟨o,p,r,s,rfl,a⟩
 refine ⟨_,rfl,?_⟩
 refine nf (q 3 rfl (yb (rAl a Qe) fun t w a=>q 1 rfl (sB rfl a K5 fun w a=>q 5 rfl (y (O2 V0 e0 a rO3) (q 4 rfl ?_)))))
 cases c
 exact za f results43 ⟨rfl,(a.k27)⟩
instance:CL prog 43 (type_of% @Ei):=⟨@Ei⟩
theorem bo {b:List (List (Bool×LI))} {d:Int} {e:Hdr} {out:Int} (c:m_ir b d=some out) (f:imm (rS Cw) e.v b∈ax) (a:St w0 ax rs w):
  Calls prog 65 #[e.v,iV d] w (rv w0 ax rs (iV out)):=by
 exact en func65 rfl ntmps65 fun Q g=>vx
instance:CL prog 65 (type_of% @bo):=⟨@bo⟩
theorem ao {d8:List (List (Bool×LI))} {d9:Hdr} {out:(List (Bool×LI))} (c:m_iy d8=some out) (e1:imm (rS Cw) d9.v d8∈ax) (a:St w0 ax rs w):
  Calls prog 67 #[d9.v] w (ro w0 ax rs 62 Cw out):=by
 refine en func67 rfl ntmps67 fun Q e2=>bE c fun l6 h4 c=>q 8 rfl (cZ (Kf h4 e1 a) fun w a=>bE c fun l7 h6 c=>q 6 rfl (cT_ (Mf h6 e1 a) fun x l8 w a=>bE c fun p h7 c=>q 7 rfl (yC (C9 bw (a2 e0 e0)) (zf h7 a) ?_)))
 rintro _ w ⟨b,e3,l9,m0,rfl,a⟩
 refine ⟨_,rfl,?_⟩
 refine nf (q 3 rfl (yb (rAl a Qe) fun m1 w a=>q 1 rfl (sB rfl a K5 fun w a=>q 6 rfl (y (O2 V0 e0 a rO3) (q 4 rfl (cI c (fun h8 c=>?_) fun h8 c=>?_))))))
 ·refine q 7 rfl ?_
  cases c
  replace a:=a.rowNh 62 Cw
  exact e2 _ _ _ (M3 results67 ⟨rfl,rfl⟩ ⟨_,rfl,(a.k1t)⟩)
 ·refine q 9 rfl (bE c fun e4 i0 c=>?_)
  refine lp i0 [3,4,5] (fun b7=>[(7,iV b7)]) (fun b7=>St w0 ax (row 147 rH x.v b::fam 118 (rP rB (rP (rS xw) Cw)) b p.1::row 3 I1 e3.v p.2.1::rs)) (fun | e4=>(.exit 0,[(7,iV e4)],St w0 ax (row 147 rH x.v b::fam 118 (rP rB (rP (rS xw) Cw)) b p.1::rs))) rfl (a.k28) rfl ?_ ?_
  ·clear a
   intro g w a
   refine bE c fun e i1 c=>q 4 rfl (cO (w_f i1 a) fun f w a=>bE c fun h i2 c=>cO (w_f i2 a) fun i w a=>y (Y9 (us:=[.bool e.1,f.v,.bool h.1,i.v]) [(0,.agg #[.bool e.1,f.v]),(1,.agg #[.bool h.1,i.v])] ll (bp2 e0 e0) rfl) (yb (rAl a Qe) fun N w a=>sB rfl a K5 fun w a=>bE c fun m2 i3 c=>q 5 rfl (yh (rMk a Y3 e0 i3) fun o w a=>?_)))
   refine bE c fun e5 i4 c=>q 10 rfl ?_
   refine lp i4 [3,4,7,8,9] (fun (b8,b9)=>[(10,iV b9)]) (fun (b8,b9)=>St w0 ax (row 147 rH x.v b::fam 118 (rP rB (rP (rS xw) Cw)) b p.1::row 126 xw f.v e.2::row 126 xw i.v h.2::box N 118 [.bool e.1,f.v,.bool h.1,i.v]::row 118 (rP rB (rP (rS xw) Cw)) o.v b8::rs)) (fun | e5=>(.exit 2,[],St w0 ax (row 147 rH x.v b::fam 118 (rP rB (rP (rS xw) Cw)) b p.1::row 126 xw f.v e.2::row 126 xw i.v h.2::box N 118 [.bool e.1,f.v,.bool h.1,i.v]::row 118 (rP rB (rP (rS xw) Cw)) o.v e5::rs))) rfl (a.k29) rfl ?_ ?_
   ·clear a
    intro g w a
    refine q 6 rfl (y (W1 [.bool e.1,f.v,.bool h.1,i.v] K5 e0 a R4) (bE c fun m3 e6 c=>y (yIs Y3 e0 e0 a rO5 e6) ?_))
    replace a:=((((a.k16).fz).k16).fz).k1g
    refine yt (C8 (cs:=[.bool e.1,f.v,.bool h.1,i.v]) a K5 e0 e0 rfl (mkP mkB (mkP (mkS F1) (mkP mkB (mkS F0)))) e6) fun w a=>bE c fun B i5 c=>q 11 rfl ?_
    refine lp i5 [3,4,7,8,9] (fun (O,c0)=>[(11,iV c0)]) (fun (O,c0)=>St w0 (imm xw f.v e.2::imm xw i.v h.2::ax) (row 147 rH x.v b::fam 118 (rP rB (rP (rS xw) Cw)) b p.1::box N 118 [.bool e.1,f.v,.bool h.1,i.v]::row 118 (rP rB (rP (rS xw) Cw)) o.v O::rs)) (fun | B=>(.exit 4,[],St w0 ax (row 118 (rP rB (rP (rS xw) Cw)) o.v B::rs))) rfl ((a.k2a).facts (S0 F1 (S0 F0 (N0 (N0 E1))))) rfl ?_ ?_
    ·clear a
     intro g w a
     refine bE c fun m4 i6 c=>q 4 rfl (cO (w_f i6 a) fun m5 w a=>yb (rAl a J4) fun R w a=>sB rfl a P0 fun w a=>q 9 rfl ?_)
     obtain ⟨⟨G,a0⟩,i7,c⟩:=bs c
     refine lpN Hdr Hdr i7 [3,9,14] (fun (C,a1,c1) t=>[(15,iV c1)]) (fun (C,a1,c1) t=>St w0 ax (row 118 (rP rB (rP (rS xw) Cw)) o.v B::row 126 xw t.v a1::box R 62 [.bool C,t.v]::rs)) (fun | (G,a0),u=>(.exit 8,[],St w0 ax (row 118 (rP rB (rP (rS xw) Cw)) o.v B::row 126 xw u.v a0::box R 62 [.bool G,u.v]::rs))) rfl _ (a.k18) rfl ?_ ?_
     ·clear a
      rintro u g w a
      refine bE c fun e7 i8 c=>q 14 rfl ?_
      replace a:=((a.k10).fz).rowNh 62 Cw
      refine lpN Hdr Hdr i8 [3,9,14] (fun (a3,c2) S=>[(18,S.v),(19,iV c2)]) (fun (a3,c2) S=>St w0 (imm xw u.v a0::ax) (row 118 (rP rB (rP (rS xw) Cw)) o.v B::box R 62 [.bool G,u.v]::row 62 Cw S.v a3::rs)) (fun | e7,c3=>(.exit 10,[(18,c3.v)],St w0 ax (row 62 Cw c3.v e7::rs))) rfl _ (a.k1d) rfl ?_ ?_
      ·clear a
       rintro c3 g w a
       refine q 9 rfl ?_
       cases c
       exact e2 _ _ _ (M3 results67 ⟨rfl,rfl⟩ ⟨_,rfl,a⟩)
      rintro ⟨a3,c2⟩ S g w m6 a c
      refine q 8 rfl (cI c (fun i9 c=>?_) fun i9 c=>?_)
      ·refine q 5 rfl (bE c fun H c4 c=>bE c fun m7 e8 c=>bE c fun j I c=>bE c fun d c5 c=>?_)
       refine jN (Nat×Hdr) [3,9,14,18,19] (fun (a4,D)=>[(20,(pB a4))]) (fun (a4,D)=>St w0 (imm xw u.v a0::ax) (row 118 (rP rB (rP (rS xw) Cw)) o.v B::box R 62 [.bool G,u.v]::row 62 Cw S.v a3::row 126 xw D.v d.2.1::box a4 62 [.bool d.1,D.v]::rs)) rfl ?_ ?_
       ·refine dS [6,12,16,17,18] 5 A1 ?_
        replace a:=a.drew
        refine Dm 4031 0 [6,16] (qR 2 rfl (rQ rfl (yIa Y3 e0 e0 a rO0 c4) (rQ rfl (yFe jf e0) ?_)))
        replace a:=a.pin0
        obtain ⟨m8,a⟩:=a.pinO c4
        obtain ⟨m9,n0,rfl,a⟩:=a.eltP
        obtain ⟨rfl,a⟩:=a.eltB
        obtain ⟨n1,n2,rfl,a⟩:=a.eltP
        obtain ⟨a5,rfl,a⟩:=a.eltS
        replace a:=a.swf
        obtain ⟨n3,n4,rfl,a⟩:=a.eltP
        obtain ⟨rfl,a⟩:=a.eltB
        obtain ⟨e9,rfl,a⟩:=a.eltS
        refine rQ rfl (w6 (cs:=[.bool H.1,a5.v,.bool H.2.2.1,e9.v]) (us:=[.bool H.1,a5.v]) P0 e0 (a.cAtP R0 mhP) rfl rfl) (rQ rfl (W1 [.bool G,u.v] P0 e0 a R1) (qR 2 rfl (rQ rfl (yIa Y3 e0 e0 a (Q8 R0) I) (rQ rfl (yFe L7 e0) ?_))))
        obtain ⟨n5,a⟩:=a.pinO I
        obtain ⟨n6,n7,rfl,a⟩:=a.eltP
        obtain ⟨rfl,a⟩:=a.eltB
        obtain ⟨n8,n9,rfl,a⟩:=a.eltP
        obtain ⟨T,rfl,a⟩:=a.eltS
        replace a:=a.swf
        obtain ⟨o0,o1,rfl,a⟩:=a.eltP
        obtain ⟨rfl,a⟩:=a.eltB
        obtain ⟨r,rfl,a⟩:=a.eltS
        refine rQ rfl (w6 (cs:=[.bool j.1,T.v,.bool j.2.2.1,r.v]) (us:=[.bool j.2.2.1,r.v]) P0 e0 (a.cAtP R0 mhP) rfl rfl) (Rn QSn ?_)
        refine La1 rfl ?_ (La1 rfl ?_ LAn)
        ·refine kO (aa e8 F3 F4 a) fun j0 w a=>dU (Dm 0 3968 [12,16] (Rn (qS rfl (qS rfl (sY rfl (yIa Y3 e0 e0 a (Q8 R1) I) (sY rfl (yFe L7 e0) (sY rfl (w6 (cs:=[.bool j.1,T.v,.bool j.2.2.1,r.v]) (us:=[.bool j.2.2.1,r.v]) P0 e0 (a.cAtP R1 mhP) rfl rfl) QSn))))) ?_))
         refine La1 rfl ?_ (La1 rfl ?_ LAn)
         ·replace a:=a.fz
          refine kO (cb c5 F0 F1 a) fun z w a=>dU (D1 57344 0 16 rfl (qR 3 rfl (Rn QSn (LB wn (rAl a J4) fun f0 w a=>dU (D0 0 57344 17 rfl (Rn (qS rfl (qS rfl (qS rfl QSn))) (LT wn (I3 (dx:=[.bool d.1,z.v]) (us:=[.bool d.1,z.v]) a P0 e0 e0 rfl rfl (J3 rfl) rfl) fun w a=>D1 0 32768 18 rfl (Rn (qS rfl QSn) ?_))))))))
          refine Ly wn (a_ (.bool d.2.2) e0) (dU (Dw 0 0 (Rn QSn ?_)))
          replace a:=(a.k16).unpin
          exact jr (_,_) ((a.k2b).facts (S0 F5 (N0 (N0 (N0 (N0 (N0 (N0 E1))))))))
         ·refine LB wn (rAl a J4) fun f0 w a=>dU (D1 0 3968 12 rfl (Rn (qS rfl (qS rfl (sY rfl (yIa Y3 e0 e0 a (Q8 R2) I) (sY rfl (yFe L7 e0) (sY rfl (w6 (cs:=[.bool j.1,T.v,.bool j.2.2.1,r.v]) (us:=[.bool j.2.2.1,r.v]) P0 e0 (a.cAtP R2 mhP) rfl rfl) QSn))))) ?_))
          replace a:=(a.k10).fz
          refine kO (cb c5 F0 F1 a) fun z w a=>dU (D0 57344 0 17 rfl (qR 3 rfl (Rn QSn ?_)))
          replace a:=a.k10
          refine LT wn (I3 (dx:=[.bool d.1,z.v]) (us:=[.bool d.1,z.v]) a P0 e0 e0 rfl rfl (J3 rfl) rfl) fun w a=>D1 0 32768 18 rfl (Rn (qS rfl QSn) (Ly wn (a_ (.bool d.2.2) e0) (dU (Dw 0 0 (Rn QSn ?_)))))
          replace a:=(a.k16).unpin
          exact jr (_,_) ((a.k2b).facts (S0 F5 (N0 (N0 (N0 (N0 (N0 (N0 E1))))))))
        ·refine LB wn (rAl a J4) fun f0 w a=>dU (D1 0 4031 6 rfl (Rn (qS rfl (qS rfl (sY rfl (yIa Y3 e0 e0 a (Q8 R1) c4) (sY rfl (yFe jf e0) (sY rfl (w6 (cs:=[.bool H.1,a5.v,.bool H.2.2.1,e9.v]) (us:=[.bool H.1,a5.v]) P0 e0 (a.cAtP R1 (mtP mhP)) rfl rfl) (sY rfl (W1 [.bool G,u.v] P0 e0 a R2) (qS rfl (qS rfl (sY rfl (yIa Y3 e0 e0 a (Q8 R1) I) (sY rfl (yFe L7 e0) (sY rfl (w6 (cs:=[.bool j.1,T.v,.bool j.2.2.1,r.v]) (us:=[.bool j.2.2.1,r.v]) P0 e0 (a.cAtP R1 mhP) rfl rfl) QSn))))))))))) (kO (aa e8 F3 F4 a) fun j0 w a=>dU (D1 0 3968 12 rfl (Rn (qS rfl (qS rfl (sY rfl (yIa Y3 e0 e0 a (Q8 R2) I) (sY rfl (yFe L7 e0) (sY rfl (w6 (cs:=[.bool j.1,T.v,.bool j.2.2.1,r.v]) (us:=[.bool j.2.2.1,r.v]) P0 e0 (a.cAtP R2 mhP) rfl rfl) QSn))))) ?_)))))
         replace a:=a.fz
         refine kO (cb c5 F0 F1 a) fun z w a=>dU (D0 57344 0 17 rfl (qR 3 rfl (Rn QSn ?_)))
         replace a:=a.k10
         refine LT wn (I3 (dx:=[.bool d.1,z.v]) (us:=[.bool d.1,z.v]) a P0 e0 e0 rfl rfl (J3 rfl) rfl) fun w a=>D1 0 32768 18 rfl (Rn (qS rfl QSn) (Ly wn (a_ (.bool d.2.2) e0) (dU (Dw 0 0 (Rn QSn ?_)))))
         replace a:=(a.k16).unpin
         exact jr (_,_) ((a.k2b).facts (S0 F5 (N0 (N0 (N0 (N0 (N0 (N0 E1))))))))
       rintro ⟨a4,D⟩ g w a
       refine q 3 rfl (y (W1 [.bool d.1,D.v] P0 e0 a R4) ?_)
       replace a:=(a.k1g).fz
       refine yh (rLt (n:=1) (l:=[(d.1,d.2.1)]) a V2 [.agg #[.bool d.1,D.v]] (bp1 e0) rfl rfl (U1 (cs:=[.bool d.1,D.v]) rfl (mkP mkB (mkS F0)) E2)) fun o2 w a=>bE c fun o3 j1 c=>?_
       replace a:=a.k1g
       refine yh (rAp a V2 e0 e0 rO1 j1) fun o4 w a=>q 9 rfl ?_
       cases c
       exact ln _ ((a.k2c).facts (S0 F1 (N0 (N0 E1))))
      ·refine q 2 rfl ?_
       cases c
       exact lx _ ((a.k2d).fc)
     rintro ⟨C,a1,c1⟩ t g w o5 a c
     refine q 8 rfl (cI c (fun j2 c=>?_) fun j2 c=>?_)
     ·refine q 5 rfl (bE c fun k J c=>bE c fun K c6 c=>bE c fun o6 f1 c=>bE c fun m c7 c=>?_)
      refine jN (Nat×Hdr) [3,9,14,15] (fun (a6,U)=>[(16,(pB a6))]) (fun (a6,U)=>St w0 (imm xw t.v a1::ax) (row 118 (rP rB (rP (rS xw) Cw)) o.v B::box R 62 [.bool C,t.v]::row 126 xw U.v m.2.1::box a6 62 [.bool m.1,U.v]::rs)) rfl ?_ ?_
      ·refine dS [11,12,16,17,18] 5 A1 ?_
       replace a:=a.drew
       refine Dm 2047 0 [11,16] (qR 2 rfl (rQ rfl (yIa Y3 e0 e0 a rO0 J) (rQ rfl (yFe L7 e0) ?_)))
       replace a:=a.pin0
       obtain ⟨o7,a⟩:=a.pinO J
       obtain ⟨o8,o9,rfl,a⟩:=a.eltP
       obtain ⟨rfl,a⟩:=a.eltB
       obtain ⟨p0,p1,rfl,a⟩:=a.eltP
       obtain ⟨V,rfl,a⟩:=a.eltS
       replace a:=a.swf
       obtain ⟨p2,p3,rfl,a⟩:=a.eltP
       obtain ⟨rfl,a⟩:=a.eltB
       obtain ⟨s,rfl,a⟩:=a.eltS
       refine rQ rfl (w6 (cs:=[.bool k.1,V.v,.bool k.2.2.1,s.v]) (us:=[.bool k.2.2.1,s.v]) P0 e0 (a.cAtP R0 mhP) rfl rfl) (rQ rfl (W1 [.bool C,t.v] P0 e0 a R2) (qR 2 rfl (rQ rfl (yIa Y3 e0 e0 a (Q8 R0) c6) (rQ rfl (yFe L7 e0) ?_))))
       obtain ⟨p4,a⟩:=a.pinO c6
       obtain ⟨p5,p6,rfl,a⟩:=a.eltP
       obtain ⟨rfl,a⟩:=a.eltB
       obtain ⟨p7,p8,rfl,a⟩:=a.eltP
       obtain ⟨f2,rfl,a⟩:=a.eltS
       replace a:=a.swf
       obtain ⟨p9,q0,rfl,a⟩:=a.eltP
       obtain ⟨rfl,a⟩:=a.eltB
       obtain ⟨a7,rfl,a⟩:=a.eltS
       refine rQ rfl (w6 (cs:=[.bool K.1,f2.v,.bool K.2.2.1,a7.v]) (us:=[.bool K.2.2.1,a7.v]) P0 e0 (a.cAtP R0 mhP) rfl rfl) (Rn QSn ?_)
       refine La1 rfl ?_ (La1 rfl ?_ LAn)
       ·replace a:=a.k10
        replace a:=a.fz
        refine kO (Bf f1 F0 F1 a) fun j3 w a=>dU (Dm 0 31 [12,16] (Rn (qS rfl (qS rfl (sY rfl (yIa Y3 e0 e0 a (Q8 R0) J) (sY rfl (yFe L7 e0) (sY rfl (w6 (cs:=[.bool k.1,V.v,.bool k.2.2.1,s.v]) (us:=[.bool k.2.2.1,s.v]) P0 e0 (a.cAtP R0 (mtP mhP)) rfl rfl) QSn))))) ?_))
        refine La1 rfl ?_ (La1 rfl ?_ LAn)
        ·refine kO (cb c7 F4 F0 a) fun A w a=>dU (D1 57344 0 16 rfl (qR 3 rfl (Rn QSn (LB wn (rAl a J4) fun f3 w a=>dU (D0 0 57344 17 rfl (Rn (qS rfl (qS rfl (qS rfl QSn))) (LT wn (I3 (dx:=[.bool m.1,A.v]) (us:=[.bool m.1,A.v]) a P0 e0 e0 rfl rfl (J3 rfl) rfl) fun w a=>D1 0 32768 18 rfl (Rn (qS rfl QSn) ?_))))))))
         refine Ly wn (a_ (.bool m.2.2) e0) (dU (Dw 0 0 (Rn QSn ?_)))
         replace a:=(a.k16).unpin
         exact jr (_,_) ((a.k2e).facts (S0 F1 (N0 (N0 (N0 (N0 (N0 (N0 E1))))))))
        ·refine LB wn (rAl a J4) fun f3 w a=>dU (D1 0 31 12 rfl (Rn (qS rfl (qS rfl (sY rfl (yIa Y3 e0 e0 a (Q8 R1) J) (sY rfl (yFe L7 e0) (sY rfl (w6 (cs:=[.bool k.1,V.v,.bool k.2.2.1,s.v]) (us:=[.bool k.2.2.1,s.v]) P0 e0 (a.cAtP R1 (mtP mhP)) rfl rfl) QSn))))) (kO (cb c7 F4 F0 a) fun A w a=>dU (D0 57344 0 17 rfl (qR 3 rfl (Rn QSn ?_))))))
         replace a:=a.k10
         refine LT wn (I3 (dx:=[.bool m.1,A.v]) (us:=[.bool m.1,A.v]) a P0 e0 e0 rfl rfl (J3 rfl) rfl) fun w a=>D1 0 32768 18 rfl (Rn (qS rfl QSn) (Ly wn (a_ (.bool m.2.2) e0) (dU (Dw 0 0 (Rn QSn ?_)))))
         replace a:=(a.k16).unpin
         exact jr (_,_) ((a.k2e).facts (S0 F1 (N0 (N0 (N0 (N0 (N0 (N0 E1))))))))
       ·refine LB wn (rAl a J4) fun f3 w a=>dU (D1 0 2047 11 rfl (Rn (qS rfl (qS rfl (sY rfl (yIa Y3 e0 e0 a (Q8 R1) J) (sY rfl (yFe L7 e0) (sY rfl (w6 (cs:=[.bool k.1,V.v,.bool k.2.2.1,s.v]) (us:=[.bool k.2.2.1,s.v]) P0 e0 (a.cAtP R1 (mtP mhP)) rfl rfl) (sY rfl (W1 [.bool C,t.v] P0 e0 a R3) (qS rfl (qS rfl (sY rfl (yIa Y3 e0 e0 a (Q8 R1) c6) (sY rfl (yFe L7 e0) (sY rfl (w6 (cs:=[.bool K.1,f2.v,.bool K.2.2.1,a7.v]) (us:=[.bool K.2.2.1,a7.v]) P0 e0 (a.cAtP R1 mhP) rfl rfl) QSn))))))))))) ?_))
        replace a:=(a.k16).fz
        refine kO (Bf f1 F0 F1 a) fun j3 w a=>dU (D1 0 31 12 rfl (Rn (qS rfl (qS rfl (sY rfl (yIa Y3 e0 e0 a (Q8 R1) J) (sY rfl (yFe L7 e0) (sY rfl (w6 (cs:=[.bool k.1,V.v,.bool k.2.2.1,s.v]) (us:=[.bool k.2.2.1,s.v]) P0 e0 (a.cAtP R1 (mtP mhP)) rfl rfl) QSn))))) (kO (cb c7 F4 F0 a) fun A w a=>dU (D0 57344 0 17 rfl (qR 3 rfl (Rn QSn ?_))))))
        replace a:=a.k10
        refine LT wn (I3 (dx:=[.bool m.1,A.v]) (us:=[.bool m.1,A.v]) a P0 e0 e0 rfl rfl (J3 rfl) rfl) fun w a=>D1 0 32768 18 rfl (Rn (qS rfl QSn) (Ly wn (a_ (.bool m.2.2) e0) (dU (Dw 0 0 (Rn QSn ?_)))))
        replace a:=(a.k16).unpin
        exact jr (_,_) ((a.k2e).facts (S0 F1 (N0 (N0 (N0 (N0 (N0 (N0 E1))))))))
      rintro ⟨a6,U⟩ g w a
      refine q 2 rfl (y (W1 [.bool C,t.v] P0 e0 a R1) (y (W1 [.bool m.1,U.v] P0 e0 a R3) (bE c fun q2 j4 c=>?_)))
      replace a:=(a.k16).fz
      refine cO (aa j4 F1 F0 a) fun q3 w a=>?_
      replace a:=a.k16
      refine sB rfl a P0 fun w a=>q 8 rfl ?_
      cases c
      exact ln _ ((a.k2f).fc)
     ·refine q 2 rfl ?_
      cases c
      exact lx _ a
    rintro ⟨O,c0⟩ g w q4 a c
    refine q 7 rfl (cI c (fun j5 c=>?_) fun j5 c=>?_)
    ·refine q 8 rfl (bE c fun f4 f5 c=>y (yIa Y3 e0 e0 a rO3 f5) ?_)
     obtain ⟨q5,q6,cc555,a⟩:=a.ld rO3 f5
     replace a:=a.eltP
     obtain ⟨q7,q8,rfl,a⟩:=a
     replace a:=a.eltB
     obtain ⟨rfl,a⟩:=a
     replace a:=a.eltP
     obtain ⟨q9,r0,rfl,a⟩:=a
     replace a:=a.eltS
     obtain ⟨j6,rfl,a⟩:=a
     replace a:=a.swf.eltP
     obtain ⟨r1,r2,rfl,a⟩:=a
     replace a:=a.eltB
     obtain ⟨rfl,a⟩:=a
     replace a:=a.eltS
     obtain ⟨j7,rfl,a⟩:=a
     refine y (yCn (cs:=[.bool f4.1,j6.v,.bool f4.2.2.1,j7.v]) K5 rfl e0 cc555) (yb (rAl a Qe) fun f6 w a=>sB rfl a K5 fun w a=>q 11 rfl ?_)
     obtain ⟨⟨c8,f7,a8,f8⟩,j8,c⟩:=bs c
     refine lpN (Hdr×Hdr) (Hdr×Hdr) j8 [3,4,7,8,9,11,12] (fun (a9,c9,b0,d0,d1) (W,X)=>[(13,iV d1)]) (fun (a9,c9,b0,d0,d1) (W,X)=>St w0 (imm xw f.v e.2::imm xw i.v h.2::imm xw W.v c9::imm xw X.v d0::ax) (row 147 rH x.v b::fam 118 (rP rB (rP (rS xw) Cw)) b p.1::box N 118 [.bool e.1,f.v,.bool h.1,i.v]::row 118 (rP rB (rP (rS xw) Cw)) o.v O::box f6 118 [.bool a9,W.v,.bool b0,X.v]::rs)) (fun | (c8,f7,a8,f8),(b1,Z)=>(.exit 6,[],St w0 (imm xw f.v e.2::imm xw i.v h.2::imm xw b1.v f7::imm xw Z.v f8::ax) (row 147 rH x.v b::fam 118 (rP rB (rP (rS xw) Cw)) b p.1::box N 118 [.bool e.1,f.v,.bool h.1,i.v]::row 118 (rP rB (rP (rS xw) Cw)) o.v O::box f6 118 [.bool c8,b1.v,.bool a8,Z.v]::rs))) rfl (_,_) ((a.k2g).facts (S0 F2 (S0 F3 (S0 F1 (S0 F0 (N0 (N0 (N0 (N0 E1))))))))) rfl ?_ ?_
     ·clear a
      rintro ⟨b1,Z⟩ g w a
      refine bE c fun r5 d2 c=>bE c fun d3 f9 c=>bE c fun r6 j9 c=>bE c fun r8 b2 c=>bE c fun L d4 c=>bE c fun r9 k0 c=>bE c fun g0 k1 c=>bE c fun s0 g1 c=>q 2 rfl (dS [12,23,24,26] 4 A1 ?_)
      replace a:=a.drew
      refine D1 8384511 0 12 rfl (qR 3 rfl (rQ rfl (W1 [.bool c8,b1.v] P0 e0 a R4) (qR 2 rfl ?_)))
      obtain ⟨s1,b3⟩:=a.famI R1 d2
      refine rQ rfl (yIa L5 e0 e0 a rO0 b3) (rQ rfl (yF1 D6 e0 a rO0 b3 rfl) (qR 1 rfl (rQ rfl (yIa Y3 e0 e0 a (rdF R1 b3 d2) f9) (rQ rfl (yFe L7 e0) ?_))))
      obtain ⟨s2,s3,cc653,a⟩:=a.ld (rdF R1 b3 d2) f9
      replace a:=a.eltP
      obtain ⟨s4,s5,rfl,a⟩:=a
      replace a:=a.eltB
      obtain ⟨rfl,a⟩:=a
      replace a:=a.eltP
      obtain ⟨s6,s7,rfl,a⟩:=a
      replace a:=a.eltS
      obtain ⟨k2,rfl,a⟩:=a
      replace a:=a.swf.eltP
      obtain ⟨s8,s9,rfl,a⟩:=a
      replace a:=a.eltB
      obtain ⟨rfl,a⟩:=a
      replace a:=a.eltS
      obtain ⟨g2,rfl,a⟩:=a
      refine rQ rfl (w6 (cs:=[.bool d3.1,k2.v,.bool d3.2.2.1,g2.v]) (us:=[.bool d3.2.2.1,g2.v]) P0 e0 cc653 rfl rfl) (qR 1 rfl (rQ rfl (W1 [.bool a8,Z.v] P0 e0 a R4) (qR 2 rfl ?_)))
      obtain ⟨t0,E⟩:=a.famI R1 b2
      refine rQ rfl (yIa L5 e0 e0 a rO0 E) (rQ rfl (yF1 D6 e0 a rO0 E rfl) (qR 1 rfl (rQ rfl (yIa Y3 e0 e0 a (rdF R1 E b2) d4) (rQ rfl (yFe jf e0) ?_))))
      replace a:=(a.k10).pin0
      obtain ⟨t1,a⟩:=St.pinF E b2 a d4
      obtain ⟨t2,t3,rfl,a⟩:=a.eltP
      obtain ⟨rfl,a⟩:=a.eltB
      obtain ⟨t4,t5,rfl,a⟩:=a.eltP
      obtain ⟨b4,rfl,a⟩:=a.eltS
      replace a:=a.swf
      obtain ⟨t6,t7,rfl,a⟩:=a.eltP
      obtain ⟨rfl,a⟩:=a.eltB
      obtain ⟨g3,rfl,a⟩:=a.eltS
      refine rQ rfl (w6 (cs:=[.bool L.1,b4.v,.bool L.2.2.1,g3.v]) (us:=[.bool L.1,b4.v]) P0 e0 (a.cAtP R0 mhP) rfl rfl) (Rn QSn (kO (aa j9 F6 F2 a) fun t8 w a=>dU (D1 0 8380419 23 rfl (Rn (qS rfl (qS rfl (qS rfl (sY rfl (W1 [.bool a8,Z.v] P0 e0 a R5) (qS rfl (qS rfl (sY rfl (yIa L5 e0 e0 a rO2 E) (sY rfl (yF1 D6 e0 a rO2 E rfl) (qS rfl (sY rfl (yIa Y3 e0 e0 a (Vr R1 E b2) d4) (sY rfl (yFe jf e0) (sY rfl (w6 (cs:=[.bool L.1,b4.v,.bool L.2.2.1,g3.v]) (us:=[.bool L.1,b4.v]) P0 e0 (a.cAtP R1 mhP) rfl rfl) QSn)))))))))))) (kO (aa k0 F7 F1 a) fun t9 w a=>dU (D1 0 3 24 rfl (Rn (qS rfl (qS rfl QSn)) ?_)))))))
      replace a:=((a.k10).fz).fz
      refine kT_ (Fi k1 F1 F0 a) fun k3 k4 w a=>dU (D0 33554432 3 26 rfl (rQ rfl (yIs Y3 e0 e0 a rO5 g1) (Rn (qS rfl (qS rfl QSn)) ?_)))
      replace a:=(a.fz.fz).k1g
      refine LT wn (C8 (cs:=[.bool g0.1,k3.v,.bool g0.2.2.1,k4.v]) a K5 e0 e0 rfl (mkP mkB (mkP (mkS F1) (mkP mkB (mkS F0)))) g1) fun w a=>Dw 0 0 (Rn QSn ?_)
      replace a:=(a.k10).unpin
      refine qx 7 rfl ?_
      cases c
      exact lo ((a.k2h).facts (S0 F8 (S0 F9 (N0 (N0 (N0 (N0 (N0 (N0 (N0 (N0 (N0 (N0 (N0 (N0 E1)))))))))))))))
     rintro ⟨a9,c9,b0,d0,d1⟩ ⟨W,X⟩ g w u0 a c
     refine q 8 rfl (cI c (fun k5 c=>?_) fun k5 c=>?_)
     ·refine q 4 rfl (bE c fun u1 d5 c=>bE c fun g4 g5 c=>bE c fun g6 g7 c=>bE c fun b5 k6 c=>dS [13,14] 2 A1 ?_)
      replace a:=a.drew
      refine D1 8191 0 13 rfl (rQ rfl (W1 [.bool a9,W.v,.bool b0,X.v] K5 e0 a R4) (qR 2 rfl ?_))
      obtain ⟨u2,b6⟩:=a.famI R1 d5
      refine rQ rfl (yIa L5 e0 e0 a rO0 b6) (rQ rfl (yF1 D6 e0 a rO0 b6 rfl) (qR 1 rfl (rQ rfl (yIa Y3 e0 e0 a (rdF R1 b6 d5) g5) ?_)))
      obtain ⟨u3,u4,cc679,a⟩:=a.ld (rdF R1 b6 d5) g5
      replace a:=a.eltP
      obtain ⟨u5,u6,rfl,a⟩:=a
      replace a:=a.eltB
      obtain ⟨rfl,a⟩:=a
      replace a:=a.eltP
      obtain ⟨u7,u8,rfl,a⟩:=a
      replace a:=a.eltS
      obtain ⟨k7,rfl,a⟩:=a
      replace a:=a.swf.eltP
      obtain ⟨u9,v0,rfl,a⟩:=a
      replace a:=a.eltB
      obtain ⟨rfl,a⟩:=a
      replace a:=a.eltS
      obtain ⟨k8,rfl,a⟩:=a
      refine rQ rfl (yCn (cs:=[.bool g4.1,k7.v,.bool g4.2.2.1,k8.v]) K5 rfl e0 cc679) (qR 2 rfl (rQ rfl (yIa Y3 e0 e0 a rO3 g7) ?_))
      obtain ⟨v1,v2,cc686,a⟩:=a.ld rO3 g7
      replace a:=a.eltP
      obtain ⟨v3,v4,rfl,a⟩:=a
      replace a:=a.eltB
      obtain ⟨rfl,a⟩:=a
      replace a:=a.eltP
      obtain ⟨v5,v6,rfl,a⟩:=a
      replace a:=a.eltS
      obtain ⟨k9,rfl,a⟩:=a
      replace a:=a.swf.eltP
      obtain ⟨v7,v8,rfl,a⟩:=a
      replace a:=a.eltB
      obtain ⟨rfl,a⟩:=a
      replace a:=a.eltS
      obtain ⟨l0,rfl,a⟩:=a
      refine rQ rfl (yCn (cs:=[.bool g6.1,k9.v,.bool g6.2.2.1,l0.v]) K5 rfl e0 cc686) (rQ rfl (W1 [.bool e.1,f.v,.bool h.1,i.v] K5 e0 a R2) (Rn QSn (kT_ (Af k6 F6 F7 F3 F2 F1 F0 F4 F5 a) fun g8 g9 w a=>dU (D0 0 0 14 rfl (Rn QSn ?_)))))
      replace a:=a.k1l
      refine LT wn (I3 (dx:=[.bool b5.1,g8.v,.bool b5.2.2.1,g9.v]) (us:=[.bool b5.1,g8.v,.bool b5.2.2.1,g9.v]) a K5 e0 e0 rfl rfl (J3 rfl) rfl) fun w a=>Dw 0 0 (Rn QSn (qx 7 rfl ?_))
      replace a:=(((a.k10).fz).k10).fz
      cases c
      exact ln (_,_) ((a.k2g).facts (S0 F6 (S0 F7 (S0 F1 (S0 F0 (N0 (N0 (N0 (N0 (N0 (N0 (N0 (N0 (N0 (N0 E1)))))))))))))))
     ·refine q 2 rfl ?_
      cases c
      exact lx (_,_) a
    ·refine q 2 rfl ?_
     cases c
     exact xo ((a.k2i).fc)
   rintro ⟨b8,b9⟩ g w v9 a c
   refine q 8 rfl (cI c (fun l1 c=>?_) fun l1 c=>?_)
   ·refine q 7 rfl (y (Y9 (us:=[.bool false,hnil.v]) [] av bp0 rfl) (bE c fun d6 l2 c=>cO (w_f l2 a) fun d7 w a=>y (Y9 (us:=[.bool false,hnil.v,.bool d6.1,d7.v]) [(0,.agg #[.bool false,hnil.v]),(1,.agg #[.bool d6.1,d7.v])] ll (bp2 e0 e0) rfl) (bE c fun w1 h0 c=>y (yIs Y3 e0 e0 a rO6 h0) ?_)))
    replace a:=a.fz.k1i
    refine yt (C8 (cs:=[.bool false,hnil.v,.bool d6.1,d7.v]) a K5 e0 e0 rfl (mkP mkB (mkP Ws (mkP mkB (mkS F0)))) h0) fun w a=>q 8 rfl ?_
    cases c
    exact lo ((a.k2j).fc)
   ·refine q 2 rfl ?_
    cases c
    exact xo a
  rintro b7 g w w2 a c
  refine q 5 rfl (y (O2 V0 e0 a rO2) (bE c fun l3 F c=>q 2 rfl ?_))
  refine jW 7 [3,4,5,7] [(47,.bool l3)] (St w0 ax (row 147 rH x.v b::fam 118 (rP rB (rP (rS xw) Cw)) b p.1::row 3 I1 e3.v p.2.1::rs)) rfl (fun h1=>?_) ?_
  ·refine gI 40 F rfl (fun l4 F=>?_) fun l4 F=>?_
   ·refine q 2 rfl (bE F fun w3 h3 F=>y (yIa V0 e0 e0 a rO2 h3) (y (yI O_3 e0 a rO2 h3) (q 3 rfl ?_)))
    cases F
    exact h1 _ _ a rfl
   ·refine q 7 rfl ?_
    cases F
    exact h1 _ _ a rfl
  intro g w a
  refine q 2 rfl ?_
  refine cJ c (fun l5 c=>?_) fun l5 c=>?_
  ·refine q 9 rfl ?_
   cases c
   exact lo a
  ·refine q 2 rfl ?_
   cases c
   exact xo (a.k1q)
instance:CL prog 67 (type_of% @ao):=⟨@ao⟩
theorem yf {s:List (List (Bool×LI))} {t:Int} {u:Hdr} {out:(List (List (Bool×LI)))} (c:m_i3 s t=some out) (X:imm (rS Cw) u.v s∈ax) (a:St w0 ax rs w):
  Calls prog 24 #[u.v,iV t] w (fun e w=>∃ (x:Hdr),e=.returned (x.v)∧St w0 ax (row 37 (rS Cw) x.v out::rs) w):=by
 refine en func24 rfl ntmps24 fun Q Z=>bE c fun y J c=>q 22 rfl ?_
 replace a:=(a.rowNh 37 (rS Cw)).immNh I1
 refine lpN (Hdr×Hdr) Hdr J [0,1] (fun (d,f,j) (h,i)=>[(5,h.v),(6,i.v),(7,iV j)]) (fun (d,f,j) (h,i)=>St w0 (imm I1 i.v f::ax) (row 37 (rS Cw) h.v d::rs)) (fun | y,o=>(.exit 0,[(5,o.v)],St w0 ax (row 37 (rS Cw) o.v y::rs))) rfl (_,_) a rfl ?_ ?_
 ·clear a
  rintro o g w a
  exact vx
 rintro ⟨d,f,j⟩ ⟨h,i⟩ g w K a c
 refine v 0 ?_
 refine ⟨fun _ c=>?_,vt⟩
 refine yh (rLt (n:=0) (l:=[]) a V0 [] bp0 rfl rfl E2) fun a0 w a=>?_
 refine z 1 1 ?_;intro a1 a2 c a3 w a
 refine yh (rLt (n:=1) (l:=[j]) a V0 [iV j] (bp1 e0) rfl rfl (U1 (cs:=[iV j]) rfl mkI E2)) fun a4 w a=>?_
 refine z 2 2 ?_;intro A a5 c B w a
 refine bE c fun L b c=>?_
 refine jW 10 [0,1,5,6,7,8] [(36,.bool L)] (St w0 (imm I1 i.v f::imm I1 B.v A::ax) (row 37 (rS Cw) h.v d::rs)) rfl (fun C=>?_) ?_
 ·refine gI 26 b rfl (fun N b=>?_) fun N b=>?_
  ·refine q 2 rfl (bE b fun a6 a7 b=>?_)
   refine z 2 0 ?_;intro a8 w a
   refine bE b fun a9 b0 b=>?_
   refine z 2 2 ?_;intro w a
   cases b
   exact C _ _ ((a.k12).facts (S0 F2 (S0 F1 (N0 (N0 (N0 E1)))))) rfl
  ·refine q 10 rfl ?_
   cases b
   replace a:=a.fz
   exact C _ _ ((a.k12).facts (S0 F1 (S0 F0 (N0 (N0 E1))))) rfl
 intro g w a
 refine v 0 ?_
 refine ⟨vt,fun _ _ _ _ _ k _ _ O _ _ R w a _ S c=>?_⟩
 replace a:=a.fz
 refine yt (C8 (cs:=[.bool O.1,R.v]) a P0 e0 e0 rfl (mkP mkB (mkS F0)) S) fun w a=>?_
 refine z 1 3 ?_
 refine jC (List (Bool×LI)) [0,1,5,6,7,9] (fun m=>[]) (fun m w=>St w0 (imm I1 i.v f::ax) (row 37 (rS Cw) h.v d::row 62 Cw k.v m::rs) w∧m_i0 d j f m=some K) rfl ?_ ?_
 ·rintro m g w ⟨a,c⟩
  refine q 4 rfl ?_
  replace a:=(a.k10).fz
  exact yh (rLt (n:=1) (l:=[m]) a A5 [k.v] (bp1 e0) rfl rfl (U1 (cs:=[k.v]) rfl (mkS F0) E2)) fun b1 w a=>vx
 refine v 0 ?_
 refine ⟨fun _ _ _ _ _ _ _ _ T _ c U w a=>?_,vt⟩
 refine bE c fun D V c=>?_
 refine lp V [0,1,5,6,7,8,9,10] (fun (p,r)=>[(11,iV r)]) (fun (p,r)=>St w0 (imm I1 i.v f::imm I1 B.v A::ax) (row 37 (rS Cw) h.v d::row 62 Cw k.v p::row 62 Cw U.v T::rs)) (fun | D=>(.exit 2,[],St w0 (imm I1 i.v f::ax) (row 37 (rS Cw) h.v d::row 62 Cw k.v D::rs))) rfl ((a.k18).facts (S0 F2 (S0 F3 (N0 (N0 (N0 (N0 E1))))))) rfl ?_ ?_
 ·clear a
  intro g w a
  exact vx
 rintro ⟨p,r⟩ g w b2 a c
 refine z 1 3 ?_
 refine cI c (fun W c=>?_) fun W c=>?_
 ·refine q 4 rfl (bE c fun b3 E c=>bE c fun F G c=>bE c fun b4 H c=>dS [10] 1 A1 ?_)
  replace a:=a.drew
  refine D0 1023 0 10 rfl (qR 3 rfl (rQ rfl (yIa V0 e0 e0 a (rdI F1) E) (rQ rfl (yI O_3 e0 a (rdI F1) E) (qR 2 rfl (rQ rfl (yIa V2 e0 e0 a rO2 G) ?_)))))
  obtain ⟨b5,b6,cc865,a⟩:=a.ld rO2 G
  replace a:=a.eltP
  obtain ⟨b7,b8,rfl,a⟩:=a
  replace a:=a.eltB
  obtain ⟨rfl,a⟩:=a
  replace a:=a.eltS
  obtain ⟨I,rfl,a⟩:=a
  refine rQ rfl (yCn (cs:=[.bool F.1,I.v]) P0 rfl e0 cc865) (rQ rfl (yIs V2 e0 e0 a rO1 H) (Rn QSn ?_))
  replace a:=a.k10
  exact LT wn (C8 (cs:=[.bool F.1,I.v]) a P0 e0 e0 rfl (mkP mkB (mkS F0)) H) fun w a=>vx
 ·exact vx
instance:CL prog 24 (type_of% @yf):=⟨@yf⟩
theorem Ci {b:Int} {out:Bool} (c:m_i5 b=some out) (a:St w0 ax rs w):
  Calls prog 37 #[iV b] w (rv w0 ax rs (.bool out)):=by
 refine en func37 rfl ntmps37 fun Q j=>q 11 rfl ?_
 refine jW 3 [0] [(9,.bool ((decide (b < 2)) || (decide ((2147483647:Int) < b))))] (St w0 ax rs) rfl (fun f=>?_) ?_
 ·refine gB 6 rfl (fun d=>?_) fun d=>?_
  ·exact q 3 rfl (f _ _ a (O1 (C1 Value.bool (orT d)) rfl))
  ·exact q 3 rfl (f _ _ a (O1 (C1 Value.bool (orF d)) rfl))
 intro g w a
 refine v 0 ?_
 refine ⟨vt,fun _ c=>?_⟩
 refine bE c fun h i c=>?_
 refine lp i [0] (fun e=>[(3,iV e)]) (fun e=>St w0 ax rs) (fun | .inl ()=>(.exit 0,[],St w0 ax rs) | .inr ()=>(.ret,[(2,.bool false)],St w0 ax rs)) rfl a rfl ?_ ?_
 ·clear a
  intro g w a
  rcases h with ⟨⟩ | ⟨⟩
  ·exact vx
  ·exact vx
 rintro e g w k a c
 exact vx
instance:CL prog 37 (type_of% @Ci):=⟨@Ci⟩
theorem Bi {l i:Int} {out:LI} (c:m_i8 l i=some out) (a:St w0 ax rs w):
  Calls prog 25 #[iV l,iV i] w (ro w0 ax rs 3 I1 out):=by
 refine en func25 rfl ntmps25 fun Q o=>?_
 refine v 0 ?_
 refine ⟨fun _ c=>?_,fun _ c=>?_⟩
 ·cases c
  replace a:=a.rowNh 3 I1
  exact o _ _ _ (M3 results25 ⟨rfl,rfl⟩ ⟨_,rfl,a⟩)
 ·refine bE c fun m p c=>?_
  replace a:=a.rowNh 3 I1
  refine lpN Hdr Hdr p [1] (fun (b,d) e=>[(5,e.v),(6,iV d)]) (fun (b,d) e=>St w0 ax (row 3 I1 e.v b::rs)) (fun | m,j=>(.exit 0,[(5,j.v)],St w0 ax (row 3 I1 j.v m::rs))) rfl _ a rfl ?_ ?_
  ·clear a
   rintro j g w a
   exact vx
  rintro ⟨b,d⟩ e g w r a c
  refine q 6 rfl ?_
  refine jW 6 [1,5,6] [(21,.bool ((decide ((1:Int) < d)) && (decide ((b.length:Int) < (imin i 100)))))] (St w0 ax (row 3 I1 e.v b::rs)) rfl (fun n=>?_) ?_
  ·refine gB 15 rfl (fun k=>?_) fun k=>?_
   ·refine z 1 4 ?_
    exact n _ _ a (O1 (C1 Value.bool (B6 k)) rfl)
   ·exact q 6 rfl (n _ _ a (O1 (C1 Value.bool (C6 k)) rfl))
  intro g w a
  refine v 26 ?_
  refine ⟨fun _ _ _ _ c w a=>?_,vt⟩
  refine jC (LI×Hdr) [1,6] (fun (f,h)=>[(5,h.v)]) (fun (f,h) w=>St w0 ax (row 3 I1 h.v f::rs) w∧m_i6 d f=some r) rfl ?_ ?_
  ·rintro ⟨f,h⟩ g w ⟨a,c⟩
   exact vx
  exact vx
instance:CL prog 25 (type_of% @Bi):=⟨@Bi⟩
theorem Zn {e:Bool} {f:LI} {h:Int} {i:Hdr} {out:Int} (c:m_i9 e f h=some out) (k:imm xw i.v f∈ax) (a:St w0 ax rs w):
  Calls prog 68 #[.agg #[.bool e,i.v],iV h] w (rv w0 ax rs (iV out)):=by
 refine en func68 rfl ntmps68 fun Q l=>?_
 refine z 1 4 ?_;intro m w a
 refine bE c fun n o c=>bE c fun j p c=>?_
 refine jN (Nat×Hdr) [] (fun (b,d)=>[(6,(pB b))]) (fun (b,d)=>St w0 (imm xw d.v j.2.2.2::ax) (box b 62 [.bool j.2.2.1,d.v]::rs)) rfl ?_ ?_
 ·refine dS [2,3,7,8,9,10] 6 A1 ?_
  replace a:=a.drew
  exact zx
 rintro ⟨b,d⟩ g w a
 exact vx
instance:CL prog 68 (type_of% @Zn):=⟨@Zn⟩
theorem xf {p:List (List (Bool×LI))} {r:Int} {s:Hdr} {out:L2} (c:m_jc p r=some out) (t:imm (rS Cw) s.v p∈ax) (a:St w0 ax rs w):
  Calls prog 26 #[s.v,iV r] w (ro w0 ax rs 23 S1 out):=by
 refine en func26 rfl ntmps26 fun Q x=>bE c fun u A c=>q 17 rfl ?_
 replace a:=a.rowNh 23 S1
 refine lpN Hdr Hdr A [0,1] (fun (d,h) b=>[(5,b.v),(6,iV h)]) (fun (d,h) b=>St w0 ax (row 23 S1 b.v d::rs)) (fun | u,i=>(.exit 0,[(5,i.v)],St w0 ax (row 23 S1 i.v u::rs))) rfl _ a rfl ?_ ?_
 ·clear a
  rintro i g w a
  refine q 9 rfl ?_
  cases c
  exact x _ _ _ (M3 results26 ⟨rfl,rfl⟩ ⟨_,rfl,a⟩)
 rintro ⟨d,h⟩ b g w J a c
 refine z 1 3 ?_
 refine cI c (fun B c=>?_) fun B c=>?_
 ·refine q 16 rfl (bE c fun j C c=>?_)
  replace a:=a.rowNh 3 I1
  refine lpN Hdr Hdr C [0,1,5,6] (fun (k,m) f=>[(7,f.v),(8,iV m)]) (fun (k,m) f=>St w0 ax (row 23 S1 b.v d::row 3 I1 f.v k::rs)) (fun | j,e=>(.exit 2,[(7,e.v)],St w0 ax (row 23 S1 b.v d::row 3 I1 e.v j::rs))) rfl _ (a.k10) rfl ?_ ?_
  ·clear a
   rintro e g w a
   refine q 5 rfl ?_
   replace a:=(a.k10).fz
   refine yh (rLt (n:=1) (l:=[j]) a N9 [e.v] (bp1 e0) rfl rfl (U1 (cs:=[e.v]) rfl (mkS F0) E2)) fun K w a=>?_
   refine z 1 9 ?_;intro L N c O w a
   cases c
   exact ln _ ((a.k11).fc)
  rintro ⟨k,m⟩ f g w R a c
  refine z 1 0 ?_;intro S D c
  obtain ⟨T,a⟩:=iLs a t D
  refine y (yCt D4 e0 a F1 rfl) ?_
  refine z 1 3 ?_
  refine cI c (fun E c=>?_) fun E c=>?_
  ·refine z 1 0 ?_;intro U F c
   obtain ⟨V,a⟩:=iLs a (F_2 t) F
   refine y (yCt D4 e0 a F1 rfl) ?_
   refine z 1 0 ?_;intro G H c
   obtain ⟨W,X,a⟩:=iLd a F0 H
   obtain ⟨Z,a0,rfl,a⟩:=a.eltP
   obtain ⟨rfl,a⟩:=a.eltB
   obtain ⟨I,rfl,a⟩:=a.eltS
   refine y (Z5 (cs:=[.bool G.1,I.v]) P0 rfl e0 a F1) ?_
   refine z 1 0 ?_;intro o a1 c w a
   refine yh (rLt (n:=1) (l:=[o]) a V0 [iV o] (bp1 e0) rfl rfl (U1 (cs:=[iV o]) rfl mkI E2)) fun a2 w a=>?_
   refine z 1 9 ?_;intro a3 a4 c a5 w a
   cases c
   exact ln _ ((a.k1c).fc)
  ·refine q 2 rfl ?_
   cases c
   exact lx _ (a.fc)
 ·refine q 2 rfl ?_
  cases c
  exact lx _ a
instance:CL prog 26 (type_of% @xf):=⟨@xf⟩
theorem Yn {h:Int} {out:LI} (c:m_je h=some out) (a:St w0 ax rs w):
  Calls prog 70 #[iV h] w (ro w0 ax rs 3 I1 out):=by
 refine en func70 rfl ntmps70 fun Q k=>bE c fun i j c=>q 17 rfl ?_
 replace a:=a.rowNh 3 I1
 refine lpN Hdr Hdr j [0] (fun (d,e) b=>[(3,b.v),(4,iV e)]) (fun (d,e) b=>St w0 ax (row 3 I1 b.v d::rs)) (fun | i,f=>(.exit 0,[(3,f.v)],St w0 ax (row 3 I1 f.v i::rs))) rfl _ a rfl ?_ ?_
 ·clear a
  rintro f g w a
  exact vx
 rintro ⟨d,e⟩ b g w l a c
 exact vx
instance:CL prog 70 (type_of% @Yn):=⟨@Yn⟩
theorem Ai {p:L2} {r s:LI} {t u x:Hdr} {out:L2} (c:m_jh p r s=some out) (y:imm S1 t.v p∈ax) (A:imm I1 u.v r∈ax) (B:imm I1 x.v s∈ax) (a:St w0 ax rs w):
  Calls prog 40 #[t.v,u.v,x.v] w (ro w0 ax rs 23 S1 out):=by
 refine en func40 rfl ntmps40 fun Q H=>bE c fun C I c=>q 17 rfl ?_
 replace a:=a.rowNh 23 S1
 refine lpN Hdr Hdr I [0,1,2] (fun (d,h) b=>[(7,b.v),(8,iV h)]) (fun (d,h) b=>St w0 ax (row 23 S1 b.v d::rs)) (fun | C,i=>(.exit 0,[(7,i.v)],St w0 ax (row 23 S1 i.v C::rs))) rfl _ a rfl ?_ ?_
 ·clear a
  rintro i g w a
  refine q 9 rfl ?_
  cases c
  exact H _ _ _ (M3 results40 ⟨rfl,rfl⟩ ⟨_,rfl,a⟩)
 rintro ⟨d,h⟩ b g w N a c
 refine z 1 3 ?_
 refine cI c (fun J c=>?_) fun J c=>?_
 ·refine q 16 rfl (bE c fun j K c=>?_)
  replace a:=a.rowNh 3 I1
  refine lpN Hdr Hdr K [0,1,2,7,8] (fun (k,m) f=>[(9,f.v),(10,iV m)]) (fun (k,m) f=>St w0 ax (row 23 S1 b.v d::row 3 I1 f.v k::rs)) (fun | j,e=>(.exit 2,[(9,e.v)],St w0 ax (row 23 S1 b.v d::row 3 I1 e.v j::rs))) rfl _ (a.k10) rfl ?_ ?_
  ·clear a
   rintro e g w a
   refine q 5 rfl ?_
   replace a:=(a.k10).fz
   refine yh (rLt (n:=1) (l:=[j]) a N9 [e.v] (bp1 e0) rfl rfl (U1 (cs:=[e.v]) rfl (mkS F0) E2)) fun O w a=>?_
   refine z 1 9 ?_;intro R S c T w a
   cases c
   exact ln _ ((a.k11).fc)
  rintro ⟨k,m⟩ f g w U a c
  refine z 1 3 ?_
  refine cI c (fun L c=>?_) fun L c=>?_
  ·refine q 4 rfl (bE c fun V D c=>bE c fun W E c=>bE c fun X F c=>bE c fun o G c=>bE c fun Z a0 c=>dS [14,15,16] 3 A1 ?_)
   replace a:=a.drew
   refine D1 16383 0 14 rfl (qR 4 rfl (rQ rfl (yIa V0 e0 e0 a (rdI A) D) (rQ rfl (yI O_3 e0 a (rdI A) D) (rQ rfl (yIa N9 e0 e0 a (rdI y) E) ?_))))
   obtain ⟨a1,a⟩:=iLs a y E
   refine rQ rfl (yCt L1 e0 a F1 rfl) (qR 2 rfl (rQ rfl (yIa V0 e0 e0 a (rdI (F_2 B)) F) (rQ rfl (yI O_3 e0 a (rdI (F_2 B)) F) (rQ rfl (yIa V0 e0 e0 a (rdI F0) G) (rQ rfl (yI O_3 e0 a (rdI F0) G) (Rn QSn (LH wn (rLt (n:=1) (l:=[o]) a V0 [iV o] (bp1 e0) rfl rfl (U1 (cs:=[iV o]) rfl mkI E2)) fun a2 w a=>dU ?_)))))))
   refine z 3 7 ?_;intro a3 w a
   cases c
   exact ln _ ((a.k1c).fc)
  ·refine q 2 rfl ?_
   cases c
   exact lx _ a
 ·refine q 2 rfl ?_
  cases c
  exact lx _ a
instance:CL prog 40 (type_of% @Ai):=⟨@Ai⟩
theorem yi {b d out:Int} (c:m_jj b d=some out) (a:St w0 ax rs w):
  Calls prog 137 #[iV b,iV d] w (rv w0 ax rs (iV out)):=by
 exact en func137 rfl ntmps137 fun Q e=>vx
instance:CL prog 137 (type_of% @yi):=⟨@yi⟩
theorem Xn {b:L2} {d:Hdr} {out:Int} (c:m_jk b=some out) (e:imm S1 d.v b∈ax) (a:St w0 ax rs w):
  Calls prog 138 #[d.v] w (rv w0 ax rs (iV out)):=by
 refine en func138 rfl ntmps138 fun Q g=>?_
 refine v 0 ?_
 refine ⟨vt,fun _ _ _ f c=>?_⟩
 obtain ⟨h,a⟩:=iLs a e f
 exact vx
instance:CL prog 138 (type_of% @Xn):=⟨@Xn⟩
theorem Vn {f h i out:Int} (c:m_jn f h i=some out) (a:St w0 ax rs w):
  Calls prog 175 #[iV f,iV h,iV i] w (rv w0 ax rs (iV out)):=by
 refine en func175 rfl ntmps175 fun Q l=>?_
 refine z 1 10 ?_;intro m n c w a
 refine bE c fun j k c=>?_
 refine lp k [2] (fun (b,d,e)=>[(0,iV b),(1,iV d),(7,iV e)]) (fun (b,d,e)=>St w0 ax rs) (fun | j=>(.exit 0,[(7,iV j)],St w0 ax rs)) rfl a rfl ?_ ?_
 ·clear a
  intro g w a
  exact vx
 rintro ⟨b,d,e⟩ g w o a c
 exact vx
instance:CL prog 175 (type_of% @Vn):=⟨@Vn⟩
theorem Un {b d out:Int} (c:m_jo b d=some out) (a:St w0 ax rs w):
  Calls prog 139 #[iV b,iV d] w (rv w0 ax rs (iV out)):=by
 exact en func139 rfl ntmps139 fun Q e=>vx
instance:CL prog 139 (type_of% @Un):=⟨@Un⟩
end Go.Proofs.YthekfonboblioabGreatDoor
