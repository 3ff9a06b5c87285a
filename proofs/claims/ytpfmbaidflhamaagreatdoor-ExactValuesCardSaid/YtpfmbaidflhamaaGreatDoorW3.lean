/- Walks: each function computes its model, printed. -/
import Derived.Test.YtpfmbaidflhamaaGreatDoorW2
namespace Go.Proofs.YtpfmbaidflhamaaGreatDoor
open Go Sx M
set_option maxRecDepth 100000
set_option maxHeartbeats 40000000
set_option linter.unusedVariables false
attribute [local irreducible] wpList Code.wp Calls DR QR QS LA LS St
variable {w0:World} {ros:List Fact} {rs:List Res} {w:World}
theorem exact_sweep_ok {D l:List (Bool×LI)} {m:Bool} {E:LI} {p:Bool} {F:LI} {h:Bool} {G:LI} {d j n q i:Hdr} {out:(List (Bool×LI))} (y:exact_sweep D l m E p F h G=some out) (T:imm (rI .u32) n.v E∈ros) (U:imm (rI .u32) q.v F∈ros) (V:imm (rI .u32) i.v G∈ros) (b:St w0 ros (row 31 (rP rB (rS (rI .u32))) d.v D::row 31 (rP rB (rS (rI .u32))) j.v l::rs) w):
  Calls Tryz.prog 140 #[d.v,j.v,.agg #[.bool m,n.v],.agg #[.bool p,q.v],.agg #[.bool h,i.v]] w (fun e w=>e=.returned (.tuple #[])∧St w0 ros (row 31 (rP rB (rS (rI .u32))) d.v out::row 31 (rP rB (rS (rI .u32))) j.v l::rs) w):=by
 refine enterQ Tryz.func140 rfl Tryz.ntmps140 rfl fun Q W=>sR fun _ X=>yBb (r_box (vals:=[.bool m,n.v]) b e0 rfl) fun H w b=>yBb (r_box (vals:=[.bool p,q.v]) b e0 rfl) fun I w b=>yBb (r_box (vals:=[.bool h,i.v]) b e0 rfl) fun J w b=>wK X (sR fun _ Z=>Ym j.v e0 ?_)
 refine yY (yLen SL_32 e0 b rO4) (Ym (iV 0) rfl (wK Z (blockQ fun a0 a1=>bE y fun a3 a4 y=>?_)))
 have a5:∀ (z:List (Bool×LI)) (f:FV) w,St w0 ros (row 31 (rP rB (rS (rI .u32))) d.v z::row 31 (rP rB (rS (rI .u32))) j.v l::rs) w→z=a3→a0 (.exit 0) (fr 38 f) w:=by
  intro z f w b ho
  subst ho
  refine a1 _ _ _ ?_
  cases y
  exact W _ _ _ (fin0n Tryz.results140 ⟨rfl,b⟩)
 refine loopQ (fun s a w=>∃ (A:List (Bool×LI)) (g:Int) (f:FV),(A,g)=s∧a=fr 38 f∧f 0=d.v∧f 7=(pB H)∧f 8=(pB I)∧f 9=(pB J)∧f 12=j.v∧f 13=iV (l.length:Int)∧f 14=iV g∧St w0 ros (row 31 (rP rB (rS (rI .u32))) d.v A::row 31 (rP rB (rS (rI .u32))) j.v l::box H 31 [.bool m,n.v]::box I 31 [.bool p,q.v]::box J 31 [.bool h,i.v]::rs) w) a4 ⟨_,_,_,rfl,rfl,rfl,rfl,rfl,rfl,rfl,rfl,rfl,(b.k1j)⟩ ?_
 rintro _ _ w c2 ⟨A,g,f,rfl,rfl,k,B,K,r,L,N,x,b⟩ c a6 c3 a7 a8
 refine sR fun _ a9=>yY (ylss (eh x) (eh N)) (wK a9 (seqQ fun c4 b0 b1=>?_))
 refine cIf e0 c (fun b2 c=>?_) fun b2 c=>?_
 ·refine wp_skip (b0 _ _ (sQ fun _ b3=>blockQ fun _ b4=>sR fun _ b5=>Ym (iV g) (eh x) (bE c fun t O c=>yY (yIa SL_32 (eh L) (eh x) b rO1 O) ?_)))
  obtain ⟨c5,c6,cc67,b⟩:=b.ld rO1 O
  replace b:=b.eltP
  obtain ⟨c7,c8,rfl,b⟩:=b
  replace b:=b.eltB
  obtain ⟨rfl,b⟩:=b
  replace b:=b.eltS
  obtain ⟨u,rfl,b⟩:=b
  refine yY (yCn (cs:=[.bool t.1,u.v]) ST_31 rfl e0 cc67) (yBb (rAl b ZT_31) fun c9 w b=>Ya (iV g) e0 (yT (r_stbn (vals':=[.bool t.1,u.v]) (us:=[.bool t.1,u.v]) b ST_31 e0 e0 rfl rfl (one_of rfl) rfl) fun w b=>wK b5 (bE c fun b6 R c=>bE c fun d0 b7 c=>bE c fun d1 b8 c=>bE c fun d2 b9 c=>bE c fun o c0 c=>bE c fun d3 S c=>?_)))
  refine dR [0,0,0,0,0,24,56,124,0,0,1020,2044,0,8188,16380,32764,32764,65535,196607] [7,10,11,13,18] 5 folM ?_
  replace b:=b.drew
  refine Dn [0,1,2,3,4,5,6,8,9,12] [] [7] (yR rfl (m_ d.v (eh k)) (yR rfl (m_ (iV g) e0) (yR rfl (lbs_ [.bool p,q.v] ST_31 (eh K) b R4) (yR rfl (m_ d.v (eh k)) (yR rfl (m_ (iV g) e0) (yR rfl (yIa SL_32 e0 e0 b rO1 R) ?_))))))
  obtain ⟨d4,d5,cc82,b⟩:=b.ld rO1 R
  replace b:=b.eltP
  obtain ⟨d6,d7,rfl,b⟩:=b
  replace b:=b.eltB
  obtain ⟨rfl,b⟩:=b
  replace b:=b.eltS
  obtain ⟨c1,rfl,b⟩:=b
  refine yR rfl (yCn (cs:=[.bool b6.1,c1.v]) ST_31 rfl e0 cc82) (yR rfl (lbs_ [.bool m,n.v] ST_31 (eh B) b R3) (yR rfl (lbs_ [.bool t.1,u.v] ST_31 e0 b R0) (yR rfl (lbs_ [.bool h,i.v] ST_31 (eh r) b R5) (Rn QSn ?_))))
  refine Lc1 rfl ?_
  refine Lk wn (yCall FN_32 (a2 e0 e0)) (integer_Mul_ok b7 (F_2 U) F0 b) ?_
  rintro _ w ⟨d8,rfl,b⟩
  refine ⟨_,rfl,?_⟩
  refine Dn [] [0,1,8,9,12] [10] (Rn (yS rfl (m_ d.v (eh k)) (yS rfl (m_ (iV g) e0) (yS rfl (lbs_ [.bool m,n.v] ST_31 (eh B) b R3) (yS rfl (lbs_ [.bool t.1,u.v] ST_31 e0 b R0) (yS rfl (lbs_ [.bool h,i.v] ST_31 (eh r) b R5) QSn))))) ?_)
  refine Lc1 rfl ?_
  refine Lk wn (yCall FN_32 (a2 e0 e0)) (integer_Mul_ok b8 (F_3 T) F2 b) ?_
  rintro _ w ⟨d9,rfl,b⟩
  refine ⟨_,rfl,?_⟩
  refine Dn [] [0,1,12] [11] (Rn (yS rfl (m_ d.v (eh k)) (yS rfl (m_ (iV g) e0) (yS rfl (lbs_ [.bool h,i.v] ST_31 (eh r) b R5) QSn))) ?_)
  refine Lc1 rfl ?_
  refine Lk wn (yCall FN_31 (a2 e0 e0)) (integer_Sub_ok b9 F1 F0 b) ?_
  rintro _ w ⟨e1,rfl,b⟩
  refine ⟨_,rfl,?_⟩
  refine Dn [] [0,1,12] [13] (Rn (yS rfl (m_ d.v (eh k)) (yS rfl (m_ (iV g) e0) (yS rfl (lbs_ [.bool h,i.v] ST_31 (eh r) b R5) QSn))) ?_)
  refine Lc1 rfl ?_
  refine Lk wn (yCall FN_81 (a2 e0 e0)) (integer_Quo_ok c0 F0 (F_5 V) b) ?_
  rintro _ w ⟨C,rfl,b⟩
  refine ⟨_,rfl,?_⟩
  refine Dn [14,15,16,17] [0,1] [18] (yR rfl (m_ (.tuple #[.agg #[.bool o.1,C.v],iV o.2.2]) e0) (yR rfl (x_ (.agg #[.bool o.1,C.v]) e0) (yR rfl (x_ (iV o.2.2) e0) (yR rfl (yIs SL_32 e0 e0 b rO1 S) (Rn (yS rfl (m_ d.v (eh k)) (yS rfl (m_ (iV g) e0) QSn)) ?_)))))
  refine Lc1 rfl ?_
  replace b:=b.k17
  refine LT wn (r_stn (cs:=[.bool o.1,C.v]) b ST_31 e0 e0 rfl (mkP mkB (mkS F0)) S) fun w b=>Dz [] [16] (Rn (yS rfl (x_ (iV o.2.2) e0) QSn) (b4 _ _ _ (b3 _ _ (wR (yY (yadd (eh x) rfl) (Ym (iV (wa .i64 g 1)) e0 (wN ?_)))))))
  cases c
  exact a7 _ _ _ rfl ⟨_,_,_,rfl,rfl,k,B,K,r,L,N,rfl,((b.k1k).facts (allT (allT (allT (allT (allT (allT allI)))))))⟩
 ·refine wp_exit (b1 _ _ _ rfl ?_)
  cases c
  exact a8 _ _ _ _ rfl rfl (a5 _ _ _ (b.k1l) (a6 _ rfl))
theorem exact_reduced_step_ok {a9:List (List (Bool×LI))} {z:LI} {p:Bool} {S:LI} {G k o A:Int} {c:Nat} {g:Hdr} {b0:List Hdr} {m q:Hdr} {out:(List (List (Bool×LI)))×LI×Bool×LI×Int} (d:exact_reduced_step a9 z p S G k o A=some out) (c7:imm (rI .u32) q.v S∈ros) (b:St w0 ros (box c 86 [g.v,m.v,.bool p,q.v,iV G]::row 32 rH g.v b0::fam 31 (rP rB (rS (rI .u32))) b0 a9::row 3 I1 m.v z::rs) w):
  Calls Tryz.prog 107 #[(pB c),iV k,iV o,iV A] w (fun e w=>∃ (b2:List Hdr) (b3 b4:Hdr),e=.returned (.tuple #[])∧St w0 (imm (rI .u32) b4.v out.2.2.2.1::ros) (row 32 rH g.v b2::fam 31 (rP rB (rS (rI .u32))) b2 out.1::row 3 I1 b3.v out.2.1::box c 86 [g.v,b3.v,.bool out.2.2.1,b4.v,iV out.2.2.2.2]::rs) w):=by
 refine enterQ Tryz.func107 rfl Tryz.ntmps107 rfl fun Q c8=>sQ fun c9 d0=>sR fun _ d1=>Ym (iV A) e0 (Ym (iV o) e0 (yY (ygtr e0 e0) (wK d1 ?_)))
 have b5:∀ (D:List (List (Bool×LI))) (y:Int) (r:List Hdr) (f:FV) w,f 0=(pB c)→f 1=iV k→f 2=iV o→St w0 ros (row 32 rH g.v r::fam 31 (rP rB (rS (rI .u32))) r D::row 3 I1 m.v z::box c 86 [g.v,m.v,.bool p,q.v,iV y]::rs) w→exact_reduced_step_j1 o k p S z D y=some out→c9 .normal (fr 104 f) w:=by
  intro D y r f w T b6 b7 b d
  refine d0 _ _ (sR fun _ d2=>Ym (pB c) (eh T) (yY (yn e0) (yY (yFb FL_86_0 e0) (yY (lb_ g.v O_22 e0 b R3) (Ym (iV o) (eh b7) (bE d fun g9 U d=>?_))))))
  obtain ⟨h0,H⟩:=b.famI R1 U
  refine yY (yIa SLH_22 e0 e0 b rO0 H) (yY (yF1 O_32 e0 b rO0 H rfl) (Ym (iV k) (eh b6) (bE d fun i b8 d=>yY (yIa SL_32 e0 e0 b (rdF R1 H U) b8) ?_)))
  obtain ⟨h1,h2,cc29,b⟩:=b.ld (rdF R1 H U) b8
  replace b:=b.eltP
  obtain ⟨h4,h5,rfl,b⟩:=b
  replace b:=b.eltB
  obtain ⟨rfl,b⟩:=b
  replace b:=b.eltS
  obtain ⟨j,rfl,b⟩:=b
  refine yY (yCn (cs:=[.bool i.1,j.v]) ST_31 rfl e0 cc29) (yBb (rAl b ZT_31) fun B w b=>yT (r_stbn (vals':=[.bool i.1,j.v]) (us:=[.bool i.1,j.v]) b ST_31 e0 e0 rfl rfl (one_of rfl) rfl) fun w b=>wK d2 (sQ fun _ d3=>sR fun _ d4=>Ym (pB c) (eh T) (yY (yn e0) (yY (yFb FL_86_0 e0) (yY (lb_ g.v O_22 e0 b R4) ?_)))))
  refine yY (yLenF SLH_22 e0 b rO1 R2) (Ym (iV 0) rfl (wK d4 (blockQ fun d5 d6=>bE d fun d7 d8 d=>?_)))
  have d9:∀ (V:List (List (Bool×LI))) (f:FV) w,f 0=(pB c)→f 1=iV k→f 8=(pB B)→St w0 (imm (rI .u32) j.v i.2::ros) (row 32 rH g.v r::fam 31 (rP rB (rS (rI .u32))) r V::row 3 I1 m.v z::box c 86 [g.v,m.v,.bool p,q.v,iV y]::box B 31 [.bool i.1,j.v]::rs) w→V=d7→d5 (.exit 0) (fr 104 f) w:=by
   intro V f w t e1 I b ho
   subst ho
   refine d6 _ _ _ (d3 _ _ (bE d fun h7 e2 d=>dR [0,0,0,4,12,28,0,64,252,0,509,1533,3581,8191,16383,32767] [7,8,12,15] 4 folM ?_))
   replace b:=b.drew
   refine Dn [0,1,2,3,4,5,6,9] [] [7] (yR rfl (m_ (pB c) (eh t)) (yR rfl (m_ (pB c) (eh t)) (yR rfl (m_ (pB c) (eh t)) (yR rfl (yn e0) (yR rfl (yFb FL_86_1 e0) (yR rfl (lb_ m.v O_48 e0 b R3) (yR rfl (m_ (iV k) (eh e1)) (yR rfl (lbs_ [.bool i.1,j.v] ST_31 (eh I) b R4) (Rn QSn ?_)))))))))
   refine Lc1 rfl ?_
   refine LH wn (rLt (n:=1) (l:=[k]) b SL_48 [iV k] (bp1 e0) rfl rfl (mks1 (cs:=[iV k]) rfl mkI mks0)) fun h8 w b=>Dn [] [0,1,2,3,4,5,9] [8] (Rn (yS rfl (m_ (pB c) (eh t)) (yS rfl (m_ (pB c) (eh t)) (yS rfl (m_ (pB c) (eh t)) (yS rfl (yn e0) (yS rfl (yFb FL_86_1 e0) (yS rfl (lb_ m.v O_48 e0 b R4) (yS rfl (lbs_ [.bool i.1,j.v] ST_31 (eh I) b R5) QSn))))))) ?_)
   refine Lc1 rfl ?_
   replace b:=b.k13
   refine LH wn (rAp b SL_48 e0 e0 rO1 e2) fun b9 w b=>Dn [10,11] [0,1,9] [12] (yR rfl (yn e0) (yR rfl (yFb FL_86_1 e0) (Rn (yS rfl (m_ (pB c) (eh t)) (yS rfl (m_ (pB c) (eh t)) (yS rfl (lbs_ [.bool i.1,j.v] ST_31 (eh I) b R5) QSn))) ?_)))
   refine Lc1 rfl ?_
   replace b:=b.k14
   refine LT wn (r_stb1 (vals':=[g.v,b9.v,.bool p,q.v,iV y]) b O_48 e0 e0 rfl rfl rfl rfl) fun w b=>Dn [13,14] [1,9] [15] (yR rfl (yn e0) (yR rfl (yFb FL_86_2 e0) (Rn (yS rfl (m_ (pB c) (eh t)) (yS rfl (lbs_ [.bool i.1,j.v] ST_31 (eh I) b R5) QSn)) ?_)))
   refine Lc1 rfl ?_
   refine LT wn (r_stbn (vals':=[g.v,b9.v,.bool i.1,j.v,iV y]) (us:=[.bool i.1,j.v]) b ST_31 e0 e0 rfl rfl (one_of rfl) rfl) fun w b=>Dz [] [] (Rn QSn ?_)
   cases d
   exact c8 _ _ _ (fin0n Tryz.results107 ⟨_,_,_,rfl,(b.k1m)⟩)
  refine loopQ (fun s a w=>∃ (W:List (List (Bool×LI))) (x:Int) (f:FV),(W,x)=s∧a=fr 104 f∧f 0=(pB c)∧f 1=iV k∧f 2=iV o∧f 8=(pB B)∧f 61=g.v∧f 62=iV (D.length:Int)∧f 63=iV x∧St w0 (imm (rI .u32) j.v i.2::ros) (row 32 rH g.v r::fam 31 (rP rB (rS (rI .u32))) r W::row 3 I1 m.v z::box c 86 [g.v,m.v,.bool p,q.v,iV y]::box B 31 [.bool i.1,j.v]::rs) w) d8 ⟨_,_,_,rfl,rfl,T,b6,b7,rfl,rfl,rfl,rfl,(b.k1n)⟩ ?_
  rintro _ _ w e3 ⟨W,x,f,rfl,rfl,E,J,K,L,X,Z,F,b⟩ h e4 i0 e5 e6
  refine sR fun _ e7=>yY (ylss (eh F) (eh Z)) (wK e7 (seqQ fun i1 e8 e9=>?_))
  refine cIf e0 h (fun f0 h=>?_) fun f0 h=>?_
  ·refine wp_skip (e8 _ _ (sQ fun _ f1=>blockQ fun f2 f3=>sR fun _ f4=>Ym (iV x) (eh F) (bE h fun i2 N h=>?_)))
   obtain ⟨a0,C⟩:=b.famI R1 N
   refine yY (yIa SLH_22 (eh X) (eh F) b rO0 C) (yY (yF1 O_32 e0 b rO0 C rfl) (Ya (iV x) e0 (Ya a0.v e0 (wK f4 (sR fun _ f5=>Ym (iV x) e0 (Ym (iV o) (eh K) (yY (yneq e0 e0) (wK f5 ?_))))))))
   have c0:∀ (a1:List (List (Bool×LI))) (f:FV) w,f 0=(pB c)→f 1=iV k→f 2=iV o→f 8=(pB B)→f 61=g.v→f 62=iV (D.length:Int)→f 63=iV x→St w0 (imm (rI .u32) j.v i.2::ros) (row 32 rH g.v r::fam 31 (rP rB (rS (rI .u32))) r a1::row 3 I1 m.v z::box c 86 [g.v,m.v,.bool p,q.v,iV y]::box B 31 [.bool i.1,j.v]::rs) w→exact_reduced_step_j5 x a1=some e3→f2 .normal (fr 104 f) w:=by
    intro a1 f w f6 f7 f8 f9 g0 g1 g2 b d
    refine f3 _ _ _ (f1 _ _ (wR (yY (yadd (eh g2) rfl) (Ym (iV (wa .i64 x 1)) e0 (wN ?_)))))
    cases d
    exact e5 _ _ _ rfl ⟨_,_,_,rfl,rfl,f6,f7,f8,f9,g0,g1,rfl,b⟩
   rcases iteS h with ⟨a2,h⟩ | ⟨a2,h⟩
   ·exact condF e0 (nF (dT a2)) (wp_skip (c0 _ _ _ E J K L X Z F b h))
   ·refine condT e0 (nT (dF a2)) (bE h fun i3 a3 h=>bE h fun g3 c1 h=>bE h fun u110 gu110 h=>bE h fun i4 g4 h=>bE h fun i5 g5 h=>dR [0,0,2,6,14,0,62,126,0,0,768,1792,0,0,8192,24576,57344,131071] [17] 1 folM ?_)
    replace b:=b.drew
    refine Dn [0,1,2,3,4,5,6,7,8,9,10,11,12,13,14,15,16] [] [17] (yR rfl (m_ a0.v e0) (yR rfl (m_ (pB c) (eh E)) (yR rfl (yn e0) (yR rfl (yFb FL_86_0 e0) (yR rfl (lb_ g.v O_22 e0 b R3) (yR rfl (m_ (iV o) (eh K)) ?_))))))
    obtain ⟨i6,O⟩:=b.famI R1 a3
    refine yR rfl (yIa SLH_22 e0 e0 b rO0 O) (yR rfl (yF1 O_32 e0 b rO0 O rfl) (yR rfl (m_ a0.v e0) (yR rfl (m_ (iV k) (eh J)) (yR rfl (yIa SL_32 e0 e0 b (rdF R1 C N) c1) ?_))))
    obtain ⟨i7,i8,cc113,b⟩:=b.ld (rdF R1 C N) c1
    replace b:=b.eltP
    obtain ⟨i9,j0,rfl,b⟩:=b
    replace b:=b.eltB
    obtain ⟨rfl,b⟩:=b
    replace b:=b.eltS
    obtain ⟨g6,rfl,b⟩:=b
    refine yR rfl (yCn (cs:=[.bool g3.1,g6.v]) ST_31 rfl e0 cc113) (yR rfl (lbs_ [.bool i.1,j.v] ST_31 (eh L) b R4) (yR rfl (m_ (pB c) (eh E)) (yR rfl (yn e0) (yR rfl (yFb FL_86_2 e0) (yR rfl (lbs_ [.bool p,q.v] ST_31 e0 b R3) (Rn QSn ?_))))))
    refine Lc1 rfl ?_
    replace b:=(b.k17).foc2 gu110 C N O a3
    refine Lk wn (yCall FN_140 (a5 e0 e0 e0 e0 e0)) (exact_sweep_ok g4 F0 F1 (F_2 c7) b) ?_
    rintro _ w ⟨rfl,b⟩
    refine ⟨_,rfl,?_⟩
    replace b:=b.unfoc2 gu110 C O a3 g5
    exact Dz [] [] (Rn QSn (c0 _ _ _ E J K L X Z F ((b.k1o).facts (allC F1 (allT (allT allI)))) h))
  ·refine wp_exit (e9 _ _ _ rfl ?_)
   cases h
   exact e6 _ _ _ _ rfl rfl (d9 _ _ _ E J L b (e4 _ rfl))
 refine cIf e0 d (fun g7 d=>?_) fun g7 d=>?_
 ·refine sQ fun _ g8=>bE d fun j2 c2 d=>bE d fun j3 c3 d=>bE d fun j4 a4 d=>bE d fun j6 c4 d=>dR [0,1,3,7,0,0,32,96,224,0,0,1024,3072,7168,0,31744,64512,0,131072,393216,917504,0,4063232,8257536,16776703,33553919,67108863,134217727] [25,27] 2 folM ?_
  replace b:=b.drew
  refine Dn [0,1,2,3,4,5,6,7,8,9,10,11,12,13,14,15,16,17,18,19,20,21,22,23,24] [] [25] (yR rfl (m_ (pB c) e0) (yR rfl (yn e0) (yR rfl (yFb FL_86_0 e0) (yR rfl (lb_ g.v O_22 e0 b R0) (yR rfl (m_ (iV o) e0) (yR rfl (m_ (pB c) e0) (yR rfl (yn e0) (yR rfl (yFb FL_86_0 e0) (yR rfl (lb_ g.v O_22 e0 b R0) (yR rfl (m_ (iV A) e0) (yR rfl (m_ (pB c) e0) (yR rfl (yn e0) (yR rfl (yFb FL_86_0 e0) ?_)))))))))))))
  refine yR rfl (lb_ g.v O_22 e0 b R0) (yR rfl (m_ (iV A) e0) ?_)
  obtain ⟨c5,a6⟩:=b.famI R2 c2
  refine yR rfl (yIa SLH_22 e0 e0 b rO1 a6) (yR rfl (yF1 O_32 e0 b rO1 a6 rfl) (yR rfl (m_ (pB c) e0) (yR rfl (yn e0) (yR rfl (yFb FL_86_0 e0) (yR rfl (lb_ g.v O_22 e0 b R0) (yR rfl (m_ (iV o) e0) ?_))))))
  obtain ⟨c6,a7⟩:=b.famI R2 c3
  refine yR rfl (yIa SLH_22 e0 e0 b rO1 a7) (yR rfl (yF1 O_32 e0 b rO1 a7 rfl) ?_)
  obtain ⟨j7,R⟩:=setI_len (u:=c5) a4 (b.famL (mtR (mtR mhR)))
  refine yR rfl (yIs SLH_22 e0 e0 b rO1 R) (Rn QSn ?_)
  refine Lc1 rfl ?_
  replace b:=b.k17
  refine LT wn (r_sti (cs:=[c5.v]) b O_32 rfl e0 e0 rfl (mkF rfl) R) fun w b=>Dn [26] [9] [27] ?_
  obtain ⟨j8,a8⟩:=setI_len (u:=c6) c4 (swap_len a4 R (b.famL (mtR (mtR mhR))))
  refine yR rfl (yIs SLH_22 e0 e0 b rO0 a8) (Rn (yS rfl (m_ (iV A) e0) QSn) ?_)
  refine Lc1 rfl ?_
  refine LT wn (r_sti (cs:=[c6.v]) b O_32 rfl e0 e0 rfl (mkF rfl) a8) fun w b=>?_
  replace b:=(b.k1h).fswap a6 c2 a7 c3 R a4 a8 c4
  refine Dz [] [] (Rn QSn (g8 _ _ (wR (Ym (pB c) e0 (Ym (pB c) e0 (yY (yn e0) (yY (yFb FL_86_3 e0) (yY (lb_ (iV G) O_3 e0 b R2) (yY (yneg e0) (yY (yn e0) (yY (yFb FL_86_3 e0) (yT (r_stb1 (vals':=[g.v,m.v,.bool p,q.v,iV (wneg .i64 G)]) (b.k1h) O_3 e0 e0 rfl rfl rfl rfl) fun w b=>?_))))))))))))
  exact wN (b5 _ _ _ _ _ rfl rfl rfl (b.k1p) d)
 ·exact wp_skip (b5 _ _ _ _ _ rfl rfl rfl (b.k1q) d)
theorem exact_eliminate_ok {b7:List (List (Bool×LI))} {k:Int} {c:Hdr} {b9:List Hdr} {out:(List (List (Bool×LI)))×LI×Bool×LI×Int} (o:exact_eliminate b7 k=some out) (b:St w0 ros (row 32 rH c.v b9::fam 31 (rP rB (rS (rI .u32))) b9 b7::rs) w):
  Calls Tryz.prog 61 #[c.v,iV k] w (fun e w=>∃ (c0:List Hdr) (c1 c2:Hdr),e=.returned (.agg #[c.v,c1.v,.bool out.2.2.1,c2.v,iV out.2.2.2.2])∧St w0 (imm (rI .u32) c2.v out.2.2.2.1::ros) (row 32 rH c.v c0::fam 31 (rP rB (rS (rI .u32))) c0 out.1::row 3 I1 c1.v out.2.1::rs) w):=by
 refine enterQ Tryz.func61 rfl Tryz.ntmps61 rfl fun Q d6=>sR fun _ d7=>yBb (rAl b ZT_86) fun h w b=>wK d7 (scopeQ fun j8 qs2=>sR fun _ d8=>Ym c.v e0 (bE o fun D d9 o=>yC (yCall FN_82 (a1 rfl)) (integer_FromInt_ok d9 b) ?_))
 rintro _ w ⟨E,rfl,b⟩
 refine ⟨_,rfl,?_⟩
 refine yY (ybuild (us:=[c.v,hnil.v,.bool D.1,E.v,iV 1]) [(0,c.v),(2,.agg #[.bool D.1,E.v]),(3,iV 1)] SO_86 (bp3 e0 e0 rfl) rfl) (yBb (rAl b ZT_86) fun i w b=>yT (r_stbn (vals':=[c.v,hnil.v,.bool D.1,E.v,iV 1]) (us:=[c.v,hnil.v,.bool D.1,E.v,iV 1]) b ST_86 e0 e0 rfl rfl (one_of rfl) rfl) fun w b=>wK d8 (sQ fun _ e1=>wp_label (e1 _ _ (sQ fun _ e2=>sR fun _ e3=>Ym (iV k) e0 ?_))))
 refine Ym (iV 0) rfl (wK e3 (blockQ fun e4 e5=>bE o fun e6 e7 o=>?_))
 have e8:∀ (I:List (List (Bool×LI))) (J:LI) (r:Bool) (K:LI) (t:Int) (L:List Hdr) (u:Hdr) (x:Hdr) (f:FV) w,f 4=(pB h)→f 5=(pB i)→St w0 (imm (rI .u32) x.v K::ros) (row 32 rH c.v L::fam 31 (rP rB (rS (rI .u32))) L I::box h 86 [hnil.v,hnil.v,.bool false,hnil.v,iV 0]::row 3 I1 u.v J::box i 86 [c.v,u.v,.bool r,x.v,iV t]::rs) w→(I,J,r,K,t)=e6→e4 (.exit 0) (fr 41 f) w:=by
  intro I J r K t L u x f w c3 e9 b ho
  subst ho
  refine e5 _ _ _ (e2 _ _ (sR fun _ f0=>yY (lbs_ [c.v,u.v,.bool r,x.v,iV t] ST_86 (eh e9) b R4) (yT (r_stbn (vals':=[c.v,u.v,.bool r,x.v,iV t]) (us:=[c.v,u.v,.bool r,x.v,iV t]) (b.k1h) ST_86 (eh c3) e0 rfl rfl (one_of rfl) rfl) fun w b=>wK f0 (wp_ret (qs2 _ _ _ rfl ?_)))))
  cases o
  exact d6 _ _ _ (fin1r Tryz.results61 (rcs2 rfl c3 b R0 ST_86 rfl) ⟨_,_,_,rfl,(b.k1r)⟩)
 replace b:=b.rowNh 3 I1
 refine loopQ (fun s a w=>∃ (y:List (List (Bool×LI))) (j:LI) (z:Bool) (A:LI) (B:Int) (g:Int) (f:FV) (p:List Hdr) (l:Hdr) (q:Hdr),(y,j,z,A,B,g)=s∧a=fr 41 f∧f 0=c.v∧f 4=(pB h)∧f 5=(pB i)∧f 12=iV k∧f 13=iV g∧St w0 (imm (rI .u32) q.v A::ros) (row 32 rH c.v p::fam 31 (rP rB (rS (rI .u32))) p y::box h 86 [hnil.v,hnil.v,.bool false,hnil.v,iV 0]::row 3 I1 l.v j::box i 86 [c.v,l.v,.bool z,q.v,iV B]::rs) w) e7 ⟨_,_,_,_,_,_,_,_,_,_,rfl,rfl,rfl,rfl,rfl,rfl,rfl,(b.k1s)⟩ ?_
 rintro _ _ w f1 ⟨y,j,z,A,B,g,f,p,l,q,rfl,rfl,f2,c4,N,c5,O,b⟩ m f3 j9 f4 f5
 refine sR fun _ f6=>yY (ylss (eh O) (eh c5)) (wK f6 (seqQ fun k0 f7 f8=>?_))
 refine cIf e0 m (fun f9 m=>?_) fun f9 m=>?_
 ·refine wp_skip (f7 _ _ (sQ fun g0 g1=>?_))
  have c6:∀ (R:List (List (Bool×LI))) (S:LI) (T:Bool) (U:LI) (V:Int) (W:List Hdr) (X:Hdr) (Z:Hdr) (f:FV) w,f 0=c.v→f 4=(pB h)→f 5=(pB i)→f 12=iV k→f 13=iV g→St w0 (imm (rI .u32) Z.v U::ros) (row 32 rH c.v W::fam 31 (rP rB (rS (rI .u32))) W R::box h 86 [hnil.v,hnil.v,.bool false,hnil.v,iV 0]::row 3 I1 X.v S::box i 86 [c.v,X.v,.bool T,Z.v,iV V]::rs) w→exact_eliminate_j12 g R S T U V=some f1→g0 .normal (fr 41 f) w:=by
   intro R S T U V W X Z f w g2 g3 g4 g5 g6 b o
   refine g1 _ _ (wR (yY (yadd (eh g6) rfl) (Ym (iV (wa .i64 g 1)) e0 (wN ?_))))
   cases o
   exact f4 _ _ _ rfl ⟨_,_,_,_,_,_,_,_,_,_,rfl,rfl,g2,g3,g4,g5,rfl,b⟩
  refine blockQ fun _ c7=>sR fun _ g7=>Ym (iV g) (eh O) (Ya (iV g) e0 (wK g7 (sR fun _ g8=>yY (yFb FL_86_1 (eh N)) (yY (lb_ l.v O_48 e0 b R4) (yY (yLen SL_48 e0 b rO3) (Ya (iV (j.length:Int)) e0 (wN ?_)))))))
  refine g8 _ _ (sR fun _ g9=>Ym (iV (j.length:Int)) e0 (Ya (iV (j.length:Int)) e0 (wK g9 (blockQ fun c8 c9=>bE m fun d0 h0 m=>?_))))
  have h1:∀ (a0:List (List (Bool×LI))) (a2:LI) (a3:Bool) (a5:LI) (a6:Int) (a7:List Hdr) (a8:Hdr) (a9:Hdr) (f:FV) w,f 0=c.v→f 4=(pB h)→f 5=(pB i)→f 12=iV k→f 13=iV g→St w0 (imm (rI .u32) a9.v a5::ros) (row 32 rH c.v a7::fam 31 (rP rB (rS (rI .u32))) a7 a0::box h 86 [hnil.v,hnil.v,.bool false,hnil.v,iV 0]::row 3 I1 a8.v a2::box i 86 [c.v,a8.v,.bool a3,a9.v,iV a6]::rs) w→.inl (a0,a2,a3,a5,a6)=d0→c8 (.exit 1) (fr 41 f) w:=by
   intro a0 a2 a3 a5 a6 a7 a8 a9 f w h3 h4 h5 h6 h8 b ho
   subst ho
   exact c9 _ _ _ (c7 _ _ _ (c6 _ _ _ _ _ _ _ _ _ _ h3 h4 h5 h6 h8 b m))
  have h9:∀ (f:FV) w,f 0=c.v→f 4=(pB h)→f 5=(pB i)→f 12=iV k→f 13=iV g→St w0 (imm (rI .u32) q.v A::ros) (row 32 rH c.v p::fam 31 (rP rB (rS (rI .u32))) p y::box h 86 [hnil.v,hnil.v,.bool false,hnil.v,iV 0]::row 3 I1 l.v j::box i 86 [c.v,l.v,.bool z,q.v,iV B]::rs) w→.inr ()=d0→c8 (.exit 2) (fr 41 f) w:=by
   intro f w i0 i1 i2 i3 i4 b ho
   subst ho
   exact c9 _ _ _ (c7 _ _ _ (c6 _ _ _ _ _ _ _ _ _ _ i0 i1 i2 i3 i4 b m))
  refine loopQ (fun s a w=>∃ (n:Int) (f:FV),n=s∧a=fr 41 f∧f 0=c.v∧f 4=(pB h)∧f 5=(pB i)∧f 6=iV g∧f 7=iV (j.length:Int)∧f 8=iV n∧f 12=iV k∧f 13=iV g∧St w0 (imm (rI .u32) q.v A::ros) (row 32 rH c.v p::fam 31 (rP rB (rS (rI .u32))) p y::box h 86 [hnil.v,hnil.v,.bool false,hnil.v,iV 0]::row 3 I1 l.v j::box i 86 [c.v,l.v,.bool z,q.v,iV B]::rs) w) h0 ⟨_,_,rfl,rfl,f2,c4,N,rfl,rfl,rfl,c5,O,b⟩ ?_
  rintro _ _ w k2 ⟨n,f,rfl,rfl,C,b0,F,b1,d1,G,b2,b3,b⟩ d d2 k7 i5 d3
  refine seqQ fun k8 i6 i7=>sR fun _ i8=>Ym (iV n) (eh G) (Ym c.v (eh C) (yY (yLenF SLH_22 e0 b rO0 R1) (yY (ylss e0 e0) (wK i8 ?_))))
  refine cIf e0 d (fun i9 d=>?_) fun i9 d=>?_
  ·refine wp_skip (i6 _ _ (seqQ fun k9 j0 j1=>blockQ fun _ d4=>sR fun _ j2=>Ym c.v (eh C) (Ym (iV n) (eh G) (bE d fun l0 b4 d=>?_))))
   obtain ⟨l1,H⟩:=b.famI R1 b4
   refine yY (yIa SLH_22 e0 e0 b rO0 H) (yY (yF1 O_32 e0 b rO0 H rfl) (Ym (iV g) (eh b1) (bE d fun j3 d5 d=>yY (yIa SL_32 e0 e0 b (rdF R1 H b4) d5) ?_)))
   obtain ⟨l2,l3,cc521,b⟩:=b.ld (rdF R1 H b4) d5
   replace b:=b.eltP
   obtain ⟨l4,l5,rfl,b⟩:=b
   replace b:=b.eltB
   obtain ⟨rfl,b⟩:=b
   replace b:=b.eltS
   obtain ⟨j4,rfl,b⟩:=b
   refine yY (yCn (cs:=[.bool j3.1,j4.v]) ST_31 rfl e0 cc521) (bE d fun l6 j5 d=>yC (yCall FN_29 (a1 e0)) (integer_Sign_ok j5 F0 b) ?_)
   rintro _ w ⟨rfl,b⟩
   refine ⟨_,rfl,?_⟩
   refine yY (yneq e0 rfl) (wK j2 ?_)
   rcases iteS d with ⟨b6,d⟩ | ⟨b6,d⟩
   ·refine condF e0 (nF (dT b6)) (wp_skip (d4 _ _ _ (j0 _ _ (wR (Ym (iV n) (eh G) (yY (yadd e0 rfl) (Ya (iV (wa .i64 n 1)) e0 (wN ?_))))))))
    cases d
    exact i5 _ _ _ rfl ⟨_,_,rfl,rfl,C,b0,F,b1,d1,rfl,b2,b3,(b.facts (allC F1 (allT (allT allI))))⟩
   ·refine condT e0 (nT (dF b6)) (sR fun _ j6=>Ym (iV g) (eh b1) (Ym (iV (j.length:Int)) (eh d1) (Ym (iV n) (eh G) (bE d fun l7 j7 d=>?_))))
    replace b:=b.k1t
    refine yC (yCall FN_107 (a4 (eh F) e0 e0 e0)) (exact_reduced_step_ok j7 F1 b) ?_
    rintro _ w ⟨l8,l9,m0,rfl,b⟩
    refine ⟨_,rfl,?_⟩
    refine wK j6 (wp_exit (d4 _ _ _ (j1 _ _ _ rfl ?_)))
    cases d
    exact d3 _ _ _ _ rfl rfl (h1 _ _ _ _ _ _ _ _ _ _ C b0 F b2 b3 ((b.k1u).facts (allC F0 (allT (allT (allT allI))))) (d2 _ rfl))
  ·refine wp_exit (i7 _ _ _ rfl ?_)
   cases d
   exact d3 _ _ _ _ rfl rfl (h9 _ _ C b0 F b2 b3 b (d2 _ rfl))
 ·refine wp_exit (f8 _ _ _ rfl ?_)
  cases m
  exact f5 _ _ _ _ rfl rfl (e8 _ _ _ _ _ _ _ _ _ _ c4 N b (f3 _ rfl))
theorem integer_Neg_ok {b:Bool} {f:LI} {d:Hdr} {out:Bool×LI} (c:integer_Neg b f=some out) (j:imm (rI .u32) d.v f∈ros) (a:St w0 ros rs w):
  Calls Tryz.prog 80 #[.agg #[.bool b,d.v]] w (fun e w=>∃ (g:Hdr),e=.returned (.agg #[.bool out.1,g.v])∧St w0 (imm (rI .u32) g.v out.2::ros) rs w):=by
 refine enterQ Tryz.func80 rfl Tryz.ntmps80 rfl fun Q k=>sR fun _ l=>yBb (r_box (vals:=[.bool b,d.v]) a e0 rfl) fun p w a=>yBb (rAl a ZT_31) fun q w a=>wK l (sQ fun _ m=>bE c fun r n c=>bE c fun h o c=>dR [0,1,3,0,8,24,63,127] [5,6,7] 3 folM ?_)
 replace a:=a.drew
 refine Dn [0,1,2,3,4] [] [5] (yR rfl (yFb FL_31_0 e0) (yR rfl (lb_ (.bool b) O_4 e0 a R1) (yR rfl (ynot e0) (yR rfl (yFb FL_31_1 e0) (yR rfl (lb_ d.v O_29 e0 a R1) (Rn QSn ?_))))))
 refine Lc1 rfl ?_
 refine Lk wn (yCall FN_92 (a1 e0)) (slices_Clone_uint32_ok n j a) ?_
 rintro _ w ⟨s,rfl,a⟩
 refine ⟨_,rfl,?_⟩
 refine Dn [] [0,1,2] [6] (Rn (yS rfl (yFb FL_31_0 e0) (yS rfl (lb_ (.bool b) O_4 e0 a R2) (yS rfl (ynot e0) QSn))) ?_)
 refine Lc1 rfl ?_
 replace a:=a.fz
 refine Lk wn (yCall FN_76 (a2 e0 e0)) (integer_big_ok o F0 a) ?_
 rintro _ w ⟨i,rfl,a⟩
 refine ⟨_,rfl,?_⟩
 refine Dn [] [] [7] (Rn QSn ?_)
 refine Lc1 rfl ?_
 refine LT wn (r_stbn (vals':=[.bool h.1,i.v]) (us:=[.bool h.1,i.v]) a ST_31 e0 e0 rfl rfl (one_of rfl) rfl) fun w a=>Dz [] [] (Rn QSn (m _ _ (wp_ret ?_)))
 cases c
 exact k _ _ _ (fin1r Tryz.results80 (rcs2 rfl rfl a R0 ST_31 rfl) ⟨_,rfl,((a.k19).facts (allC F0 (allT (allT allI))))⟩)
theorem exact_reduced_det_ok {m:List (List (Bool×LI))} {i:LI} {c:Bool} {n:LI} {d g:Int} {j h f:Hdr} {out:Bool×LI} (b:exact_reduced_det m i c n d g=some out) (J:imm (rS (rP rB (rS (rI .u32)))) j.v m∈ros) (x:imm I1 h.v i∈ros) (o:imm (rI .u32) f.v n∈ros) (a:St w0 ros rs w):
  Calls Tryz.prog 79 #[.agg #[j.v,h.v,.bool c,f.v,iV d],iV g] w (fun e w=>∃ (p:Hdr),e=.returned (.agg #[.bool out.1,p.v])∧St w0 (imm (rI .u32) p.v out.2::ros) rs w):=by
 refine enterQ Tryz.func79 rfl Tryz.ntmps79 rfl fun Q k=>sR fun _ y=>yBb (r_box (vals:=[j.v,h.v,.bool c,f.v,iV d]) a e0 rfl) fun K w a=>yBb (rAl a ZT_31) fun L w a=>wK y (seqQ fun N z q=>blockQ fun _ l=>sR fun _ A=>yY (yFb FL_86_1 e0) ?_)
 refine yY (lb_ h.v O_48 e0 a R1) (yY (yLen SL_48 e0 a (rdI x)) (Ym (iV g) e0 (yY (ylss e0 e0) (Ya (.bool (decide ((i.length:Int) < g))) e0 (wK A ?_)))))
 refine cIf e0 b (fun B b=>?_) fun B b=>?_
 ·refine sR fun _ C=>yY (ybuild (us:=[.bool false,hnil.v]) [] SO_31 bp0 rfl) (yT (r_stbn (vals':=[.bool false,hnil.v]) (us:=[.bool false,hnil.v]) a ST_31 e0 e0 rfl rfl (one_of rfl) rfl) fun w a=>wK C (wp_ret (l _ _ _ (q _ _ _ rfl ?_))))
  cases b
  replace a:=a.immNh (rI .u32)
  exact k _ _ _ (fin1r Tryz.results79 (rcs2 rfl rfl a R0 ST_31 rfl) ⟨_,rfl,(a.k19)⟩)
 ·refine sR fun _ D=>yY (yFb FL_86_3 e0) (yY (lb_ (iV d) O_3 e0 a R1) (yY (ylss e0 rfl) (Ya (.bool (decide (d < 0))) e0 (wK D ?_))))
  refine cIf e0 b (fun E b=>?_) fun E b=>?_
  ·refine sR fun _ F=>yY (yFb FL_86_2 e0) (yY (lbs_ [.bool c,f.v] ST_31 e0 a R1) (bE b fun r G b=>yC (yCall FN_80 (a1 e0)) (integer_Neg_ok G o a) ?_))
   rintro _ w ⟨s,rfl,a⟩
   refine ⟨_,rfl,?_⟩
   refine yT (r_stbn (vals':=[.bool r.1,s.v]) (us:=[.bool r.1,s.v]) a ST_31 e0 e0 rfl rfl (one_of rfl) rfl) fun w a=>wK F (wp_ret (l _ _ _ (q _ _ _ rfl ?_)))
   cases b
   exact k _ _ _ (fin1r Tryz.results79 (rcs2 rfl rfl a R0 ST_31 rfl) ⟨_,rfl,(a.k19)⟩)
  ·refine wp_skip (l _ _ _ (z _ _ (sR fun _ H=>yY (yFb FL_86_2 e0) (yY (lbs_ [.bool c,f.v] ST_31 e0 a R1) (bE b fun t I b=>yC (yCall FN_104 (a1 e0)) (integer_Norm_ok I o a) ?_)))))
   rintro _ w ⟨u,rfl,a⟩
   refine ⟨_,rfl,?_⟩
   refine yT (r_stbn (vals':=[.bool t.1,u.v]) (us:=[.bool t.1,u.v]) a ST_31 e0 e0 rfl rfl (one_of rfl) rfl) fun w a=>wK H (wp_ret ?_)
   cases b
   exact k _ _ _ (fin1r Tryz.results79 (rcs2 rfl rfl a R0 ST_31 rfl) ⟨_,rfl,(a.k19)⟩)
theorem exact_Det_ok {h:List (List (Bool×LI))} {c:Hdr} {out:Bool×LI×Int} (b:exact_Det h=some out) (d:imm (rS (rP rB (rS (rI .u32)))) c.v h∈ros) (a:St w0 ros rs w):
  Calls Tryz.prog 35 #[c.v] w (fun e w=>∃ (i:Hdr),e=.returned (.tuple #[.agg #[.bool out.1,i.v],iV out.2.2])∧St w0 (imm (rI .u32) i.v out.2.1::ros) rs w):=by
 refine enterQ Tryz.func35 rfl Tryz.ntmps35 rfl fun Q j=>sR fun _ m=>yBb (rAl a ZT_31) fun z w a=>Ya (iV 0) rfl (wK m (sR fun _ n=>Ym c.v e0 (bE b fun f o b=>yC (yCall FN_52 (a1 e0)) (exact_square_ok o d a) ?_)))
 rintro _ w ⟨rfl,a⟩
 refine ⟨_,rfl,?_⟩
 refine Ya (iV f) e0 (wK n (seqQ fun A p q=>sR fun _ r=>Ym (iV f) e0 (yY (yneq e0 rfl) (wK r ?_))))
 rcases iteS b with ⟨g,b⟩ | ⟨g,b⟩
 ·refine condF e0 (nF (dT g)) (wp_skip (p _ _ (sR fun _ s=>Ym c.v e0 (bE b fun B t b=>?_))))
  replace a:=a.immNh (rP rB (rS (rI .u32)))
  refine yC (yCall FN_54 (a2 e0 rfl)) (exact_twin_ok t (mtF d) F0 a) ?_
  rintro _ w ⟨C,D,rfl,a⟩
  refine ⟨_,rfl,?_⟩
  refine Ym c.v e0 (yY (yLen SL_22 e0 a (rdI (mtF d))) (bE b fun E u b=>yC (yCall FN_61 (a2 e0 e0)) (exact_eliminate_ok u a) ?_))
  rintro _ w ⟨F,G,H,rfl,a⟩
  refine ⟨_,rfl,?_⟩
  refine Ym c.v e0 (yY (yLen SL_22 e0 a (rdI (F_2 d))) (bE b fun k x b=>?_))
  replace a:=a.ffz.fz
  refine yC (yCall FN_79 (a2 e0 e0)) (exact_reduced_det_ok x F1 F0 F2 a) ?_
  rintro _ w ⟨l,rfl,a⟩
  refine ⟨_,rfl,?_⟩
  refine yT (r_stbn (vals':=[.bool k.1,l.v]) (us:=[.bool k.1,l.v]) a ST_31 e0 e0 rfl rfl (one_of rfl) rfl) fun w a=>Ya (iV 0) rfl (wK s (wp_ret ?_))
  cases b
  exact j _ _ _ (fin2r Tryz.results35 (rcs2 rfl rfl a R0 ST_31 rfl) ⟨rfl,rfl⟩ ⟨_,rfl,((a.k10).facts (allC F0 (allT (allT (allT (allT (allT allI)))))))⟩)
 ·refine condT e0 (nT (dF g)) (sR fun _ y=>yY (ybuild (us:=[.bool false,hnil.v]) [] SO_31 bp0 rfl) (Ym (iV f) e0 (yT (r_stbn (vals':=[.bool false,hnil.v]) (us:=[.bool false,hnil.v]) a ST_31 e0 e0 rfl rfl (one_of rfl) rfl) fun w a=>Ya (iV f) e0 (wK y (wp_ret (q _ _ _ rfl ?_))))))
  cases b
  replace a:=a.immNh (rI .u32)
  exact j _ _ _ (fin2r Tryz.results35 (rcs2 rfl rfl a R0 ST_31 rfl) ⟨rfl,rfl⟩ ⟨_,rfl,(a.k10)⟩)
theorem exact_Rank_ok {i:List (List (Bool×LI))} {c:Hdr} {out:Int×Int} (a:exact_Rank i=some out) (f:imm (rS (rP rB (rS (rI .u32)))) c.v i∈ros) (b:St w0 ros rs w):
  Calls Tryz.prog 28 #[c.v] w (fun e w=>e=.returned (.tuple #[iV out.1,iV out.2])∧St w0 ros rs w):=by
 refine enterQ Tryz.func28 rfl Tryz.ntmps28 rfl fun Q j=>sR fun _ k=>Ya (iV 0) rfl (Ya (iV 0) rfl (wK k (sR fun _ l=>Ym c.v e0 (bE a fun d m a=>yC (yCall FN_64 (a1 e0)) (exact_check_ok m f b) ?_))))
 rintro _ w ⟨rfl,b⟩
 refine ⟨_,rfl,?_⟩
 refine Ya (iV d) e0 (wK l (seqQ fun A n o=>sR fun _ p=>Ym (iV d) e0 (yY (yneq e0 rfl) (wK p ?_))))
 rcases iteS a with ⟨g,a⟩ | ⟨g,a⟩
 ·refine condF e0 (nF (dT g)) (wp_skip (n _ _ (sR fun _ q=>Ym c.v e0 (bE a fun B r a=>?_))))
  replace b:=b.immNh (rP rB (rS (rI .u32)))
  refine yC (yCall FN_54 (a2 e0 rfl)) (exact_twin_ok r (mtF f) F0 b) ?_
  rintro _ w ⟨s,C,rfl,b⟩
  refine ⟨_,rfl,?_⟩
  refine Ym c.v e0 (bE a fun D t a=>yC (yCall FN_65 (a1 e0)) (exact_columns_ok t (mtF f) b) ?_)
  rintro _ w ⟨rfl,b⟩
  refine ⟨_,rfl,?_⟩
  refine bE a fun h u a=>yC (yCall FN_61 (a2 e0 e0)) (exact_eliminate_ok u b) ?_
  rintro _ w ⟨E,x,y,rfl,b⟩
  refine ⟨_,rfl,?_⟩
  refine yY (yFv (cs:=[s.v,x.v,.bool h.2.2.1,y.v,iV h.2.2.2.2]) FV_86_1 e0 rfl) (yY (yLen SL_48 e0 b rO2) (Ya (iV (h.2.1.length:Int)) e0 (Ya (iV 0) rfl (wK q (wp_ret ?_)))))
  cases a
  exact j _ _ _ (fin2r Tryz.results28 ⟨rfl,rfl⟩ ⟨rfl,rfl⟩ ⟨rfl,((b.k1e).facts (allT (allT allI)))⟩)
 ·refine condT e0 (nT (dF g)) (sR fun _ z=>Ym (iV d) e0 (Ya (iV 0) rfl (Ya (iV d) e0 (wK z (wp_ret (o _ _ _ rfl ?_))))))
  cases a
  exact j _ _ _ (fin2r Tryz.results28 ⟨rfl,rfl⟩ ⟨rfl,rfl⟩ ⟨rfl,b⟩)
theorem integer_Abs_ok {d:Bool} {f:LI} {c:Hdr} {out:Bool×LI} (b:integer_Abs d f=some out) (j:imm (rI .u32) c.v f∈ros) (a:St w0 ros rs w):
  Calls Tryz.prog 63 #[.agg #[.bool d,c.v]] w (fun e w=>∃ (g:Hdr),e=.returned (.agg #[.bool out.1,g.v])∧St w0 (imm (rI .u32) g.v out.2::ros) rs w):=by
 refine enterQ Tryz.func63 rfl Tryz.ntmps63 rfl fun Q k=>sR fun _ l=>yBb (r_box (vals:=[.bool d,c.v]) a e0 rfl) fun p w a=>yBb (rAl a ZT_31) fun q w a=>wK l (sR fun _ m=>yY (yFb FL_31_1 e0) (yY (lb_ c.v O_29 e0 a R1) (bE b fun r n b=>?_)))
 refine yC (yCall FN_92 (a1 e0)) (slices_Clone_uint32_ok n j a) ?_
 rintro _ w ⟨s,rfl,a⟩
 refine ⟨_,rfl,?_⟩
 refine bE b fun h o b=>?_
 replace a:=a.fz
 refine yC (yCall FN_76 (a2 rfl e0)) (integer_big_ok o F0 a) ?_
 rintro _ w ⟨i,rfl,a⟩
 refine ⟨_,rfl,?_⟩
 refine yT (r_stbn (vals':=[.bool h.1,i.v]) (us:=[.bool h.1,i.v]) a ST_31 e0 e0 rfl rfl (one_of rfl) rfl) fun w a=>wK m (wp_ret ?_)
 cases b
 exact k _ _ _ (fin1r Tryz.results63 (rcs2 rfl rfl a R0 ST_31 rfl) ⟨_,rfl,((a.k19).facts (allC F0 (allT (allT allI))))⟩)
theorem exact_reduced_turned_ok {k:List (List (Bool×LI))} {l:LI} {f:Bool} {m:LI} {h:Int} {c:Bool} {n:LI} {i j g d:Hdr} {out:Bool×LI} (b:exact_reduced_turned k l f m h c n=some out) (I:imm (rS (rP rB (rS (rI .u32)))) i.v k∈ros) (J:imm I1 j.v l∈ros) (x:imm (rI .u32) g.v m∈ros) (o:imm (rI .u32) d.v n∈ros) (a:St w0 ros rs w):
  Calls Tryz.prog 62 #[.agg #[i.v,j.v,.bool f,g.v,iV h],.agg #[.bool c,d.v]] w (fun e w=>∃ (p:Hdr),e=.returned (.agg #[.bool out.1,p.v])∧St w0 (imm (rI .u32) p.v out.2::ros) rs w):=by
 refine enterQ Tryz.func62 rfl Tryz.ntmps62 rfl fun Q q=>sR fun _ y=>yBb (r_box (vals:=[i.v,j.v,.bool f,g.v,iV h]) a e0 rfl) fun K w a=>yBb (r_box (vals:=[.bool c,d.v]) a e0 rfl) fun L w a=>yBb (rAl a ZT_31) fun N w a=>wK y (seqQ fun O z A=>sR fun _ B=>?_)
 refine yY (yFb FL_86_2 e0) (yY (lbs_ [.bool f,g.v] ST_31 e0 a R2) (bE b fun R C b=>yC (yCall FN_29 (a1 e0)) (integer_Sign_ok C x a) ?_))
 rintro _ w ⟨rfl,a⟩
 refine ⟨_,rfl,?_⟩
 refine yY (ylss e0 rfl) (wK B ?_)
 refine cIf e0 b (fun D b=>?_) fun D b=>?_
 ·refine sR fun _ E=>yY (lbs_ [.bool c,d.v] ST_31 e0 a R1) (bE b fun r F b=>yC (yCall FN_80 (a1 e0)) (integer_Neg_ok F o a) ?_)
  rintro _ w ⟨s,rfl,a⟩
  refine ⟨_,rfl,?_⟩
  refine yT (r_stbn (vals':=[.bool r.1,s.v]) (us:=[.bool r.1,s.v]) a ST_31 e0 e0 rfl rfl (one_of rfl) rfl) fun w a=>wK E (wp_ret (A _ _ _ rfl ?_))
  cases b
  exact q _ _ _ (fin1r Tryz.results62 (rcs2 rfl rfl a R0 ST_31 rfl) ⟨_,rfl,(a.k1e)⟩)
 ·refine wp_skip (z _ _ (sR fun _ G=>yY (lbs_ [.bool c,d.v] ST_31 e0 a R1) (bE b fun t H b=>yC (yCall FN_104 (a1 e0)) (integer_Norm_ok H o a) ?_)))
  rintro _ w ⟨u,rfl,a⟩
  refine ⟨_,rfl,?_⟩
  refine yT (r_stbn (vals':=[.bool t.1,u.v]) (us:=[.bool t.1,u.v]) a ST_31 e0 e0 rfl rfl (one_of rfl) rfl) fun w a=>wK G (wp_ret ?_)
  cases b
  exact q _ _ _ (fin1r Tryz.results62 (rcs2 rfl rfl a R0 ST_31 rfl) ⟨_,rfl,(a.k1e)⟩)
theorem integer_GCD_ok {n:Bool} {x:LI} {o:Bool} {y:LI} {j h:Hdr} {out:Bool×LI} (c:integer_GCD n x o y=some out) (F:imm (rI .u32) j.v x∈ros) (G:imm (rI .u32) h.v y∈ros) (b:St w0 ros rs w):
  Calls Tryz.prog 44 #[.agg #[.bool n,j.v],.agg #[.bool o,h.v]] w (fun e w=>∃ (z:Hdr),e=.returned (.agg #[.bool out.1,z.v])∧St w0 (imm (rI .u32) z.v out.2::ros) rs w):=by
 refine enterQ Tryz.func44 rfl Tryz.ntmps44 rfl fun Q H=>sR fun _ I=>yBb (r_box (vals:=[.bool n,j.v]) b e0 rfl) fun b5 w b=>yBb (r_box (vals:=[.bool o,h.v]) b e0 rfl) fun b6 w b=>yBb (rAl b ZT_31) fun k w b=>wK I (sQ fun _ J=>bE c fun c0 K c=>bE c fun c1 L c=>?_)
 refine bE c fun c2 N c=>bE c fun c3 O c=>dR [0,1,3,7,0,16,63,127,255,511] [2,3,6,7,8,9] 6 folM ?_
 replace b:=b.drew
 refine Dn [0,1,4,5] [] [2] (yR rfl (yFb FL_31_1 e0) (yR rfl (lb_ j.v O_29 e0 b R2) (yR rfl (yFb FL_31_1 e0) (yR rfl (lb_ h.v O_29 e0 b R1) (Rn QSn ?_)))))
 refine Lc1 rfl ?_
 refine Lk wn (yCall FN_73 (a1 e0)) (integer_trim_ok K F b) ?_
 rintro _ w ⟨c4,rfl,b⟩
 refine ⟨_,rfl,?_⟩
 refine Dn [] [4,5] [3] (Rn (yS rfl (yFb FL_31_1 e0) (yS rfl (lb_ h.v O_29 e0 b R1) QSn)) ?_)
 refine Lc1 rfl ?_
 refine Lk wn (yCall FN_92 (a1 e0)) (slices_Clone_uint32_ok L F0 b) ?_
 rintro _ w ⟨R,rfl,b⟩
 refine ⟨_,rfl,?_⟩
 refine Dn [] [4,5] [6] (Rn (yS rfl (yFb FL_31_1 e0) (yS rfl (lb_ h.v O_29 e0 b R2) QSn)) ?_)
 refine Lc1 rfl ?_
 refine Lk wn (yCall FN_73 (a1 e0)) (integer_trim_ok N (mtF G) b) ?_
 rintro _ w ⟨c5,rfl,b⟩
 refine ⟨_,rfl,?_⟩
 refine Dn [] [] [7] (Rn QSn ?_)
 refine Lc1 rfl ?_
 refine Lk wn (yCall FN_92 (a1 e0)) (slices_Clone_uint32_ok O F0 b) ?_
 rintro _ w ⟨S,rfl,b⟩
 refine ⟨_,rfl,?_⟩
 refine Dn [] [] [8] (Rn QSn ?_)
 refine Lc1 rfl ?_
 refine Ly wn (a_ R.v e0) (Dn [] [] [9] (Rn QSn ?_))
 refine Lc1 rfl ?_
 refine Ly wn (a_ S.v e0) (Dz [] [] (Rn QSn (J _ _ (sQ fun _ T=>blockQ fun U V=>bE c fun W X c=>?_))))
 have Z:∀ (p:LI) (l:Hdr) (f:FV) w,f 4=(pB k)→f 5=l.v→St w0 (imm (rI .u32) l.v p::ros) (box k 31 [.bool false,hnil.v]::rs) w→p=W→U (.exit 0) (fr 30 f) w:=by
  intro p l f w A a0 b ho
  subst ho
  refine V _ _ _ (T _ _ (sR fun _ a3=>Ym l.v (eh a0) (bE c fun B a4 c=>yC (yCall FN_76 (a2 rfl e0)) (integer_big_ok a4 F0 b) ?_)))
  rintro _ w ⟨C,rfl,b⟩
  refine ⟨_,rfl,?_⟩
  refine yT (r_stbn (vals':=[.bool B.1,C.v]) (us:=[.bool B.1,C.v]) b ST_31 (eh A) e0 rfl rfl (one_of rfl) rfl) fun w b=>wK a3 (wp_ret ?_)
  cases c
  exact H _ _ _ (fin1r Tryz.results44 (rcs2 rfl A b R0 ST_31 rfl) ⟨_,rfl,((b.k10).facts (allC F0 (allT (allT allI))))⟩)
 replace b:=((b.k17).fz).fz
 refine loopQ (fun s a w=>∃ (q r:LI) (f:FV) (m d:Hdr),(q,r)=s∧a=fr 30 f∧f 4=(pB k)∧f 5=m.v∧f 6=d.v∧St w0 (imm (rI .u32) m.v q::imm (rI .u32) d.v r::ros) (box k 31 [.bool false,hnil.v]::rs) w) X ⟨_,_,_,_,_,rfl,rfl,rfl,rfl,rfl,((b.k1v).facts (allC F1 (allC F0 (allT (allT (allT (allT allI)))))))⟩ ?_
 rintro _ _ w c6 ⟨q,r,f,m,d,rfl,rfl,D,E,t,b⟩ g a5 c7 a6 a7
 refine seqQ fun c8 a8 a9=>sR fun _ b0=>Ym d.v (eh t) (yY (yLen SL_29 e0 b (rdI F1)) (yY (ygtr e0 rfl) (wK b0 ?_)))
 refine cIf e0 g (fun b1 g=>?_) fun b1 g=>?_
 ·refine wp_skip (a8 _ _ (blockQ fun _ b2=>sR fun _ b3=>Ym m.v (eh E) (Ym d.v (eh t) (bE g fun c9 b4 g=>yC (yCall FN_93 (a2 e0 e0)) (integer_divide_ok b4 F0 F1 b) ?_))))
  rintro _ w ⟨u,i,rfl,b⟩
  refine ⟨_,rfl,?_⟩
  refine Ym (.tuple #[u.v,i.v]) e0 (yY (x_ u.v e0) (yY (x_ i.v e0) (Ya u.v e0 (Ya i.v e0 (wK b3 (wR (Ym d.v (eh t) (Ym i.v e0 (Ya d.v e0 (Ya i.v e0 (wN (b2 _ _ _ ?_))))))))))))
  cases g
  exact a6 _ _ _ rfl ⟨_,_,_,_,_,rfl,rfl,D,rfl,rfl,(b.facts (allC F3 (allC F1 (allT (allT (allT (allT allI)))))))⟩
 ·refine wp_exit (a9 _ _ _ rfl ?_)
  cases g
  exact a7 _ _ _ _ rfl rfl (Z _ _ _ _ D E (b.facts (allC F0 (allT (allT allI)))) (a5 _ rfl))
theorem exact_Kernel_ok {b0:List (List (Bool×LI))} {D:Hdr} {out:(List (Bool×LI))×Int} (c:exact_Kernel b0=some out) (U:imm (rS (rP rB (rS (rI .u32)))) D.v b0∈ros) (b:St w0 ros rs w):
  Calls Tryz.prog 36 #[D.v] w (fun e w=>∃ (b1:Hdr),e=.returned (.tuple #[b1.v,iV out.2])∧St w0 ros (row 31 (rP rB (rS (rI .u32))) b1.v out.1::rs) w):=by
 refine enterQ Tryz.func36 rfl Tryz.ntmps36 rfl fun Q V=>sR fun _ d7=>Ya hnil.v rfl (Ya (iV 0) rfl (wK d7 (sR fun _ d8=>Ym D.v e0 (bE c fun I d9 c=>yC (yCall FN_64 (a1 e0)) (exact_check_ok d9 U b) ?_))))
 rintro _ w ⟨rfl,b⟩
 refine ⟨_,rfl,?_⟩
 refine Ya (iV I) e0 (wK d8 (seqQ fun o7 e1 e2=>sR fun _ e3=>Ym (iV I) e0 (yY (yneq e0 rfl) (wK e3 ?_))))
 rcases iteS c with ⟨W,c⟩ | ⟨W,c⟩
 ·refine condF e0 (nF (dT W)) (wp_skip (e1 _ _ (sR fun _ e4=>Ym D.v e0 (bE c fun r e5 c=>yC (yCall FN_65 (a1 e0)) (exact_columns_ok e5 U b) ?_))))
  rintro _ w ⟨rfl,b⟩
  refine ⟨_,rfl,?_⟩
  refine Ya (iV r) e0 (wK e4 (sR fun _ e6=>Ym D.v e0 (bE c fun o8 e7 c=>?_)))
  replace b:=b.immNh (rP rB (rS (rI .u32)))
  refine yC (yCall FN_54 (a2 e0 rfl)) (exact_twin_ok e7 (mtF U) F0 b) ?_
  rintro _ w ⟨k,o9,rfl,b⟩
  refine ⟨_,rfl,?_⟩
  refine Ym (iV r) e0 (bE c fun d e8 c=>yC (yCall FN_61 (a2 e0 e0)) (exact_eliminate_ok e8 b) ?_)
  rintro _ w ⟨y,j,l,rfl,b⟩
  refine ⟨_,rfl,?_⟩
  refine yBb (rAl b ZT_86) fun p w b=>yT (r_stbn (vals':=[k.v,j.v,.bool d.2.2.1,l.v,iV d.2.2.2.2]) (us:=[k.v,j.v,.bool d.2.2.1,l.v,iV d.2.2.2.2]) b ST_86 e0 e0 rfl rfl (one_of rfl) rfl) fun w b=>wK e6 (sR fun _ e9=>Ya (iV 0) rfl (wK e9 (sQ fun _ f0=>blockQ fun f1 f2=>bE c fun f3 f4 c=>?_)))
  have f5:∀ (q:Int) (f:FV) w,f 5=iV r→f 6=(pB p)→f 7=iV q→St w0 (imm (rI .u32) l.v d.2.2.2.1::ros) (row 32 rH k.v y::fam 31 (rP rB (rS (rI .u32))) y d.1::row 3 I1 j.v d.2.1::box p 86 [k.v,j.v,.bool d.2.2.1,l.v,iV d.2.2.2.2]::rs) w→q=f3→f1 (.exit 0) (fr 103 f) w:=by
   intro q f w b2 X J b ho
   subst ho
   refine f2 _ _ _ (f0 _ _ (seqQ fun p0 f6 f7=>sR fun _ f8=>Ym (iV q) (eh J) (Ym (iV r) (eh b2) (yY (yeql e0 e0) (wK f8 ?_)))))
   refine cIf e0 c (fun f9 c=>?_) fun f9 c=>?_
   ·refine sR fun _ g0=>Ya hnil.v rfl (Ya (iV 0) rfl (wK g0 (wp_ret (f7 _ _ _ rfl ?_))))
    cases c
    replace b:=b.rowNh 31 (rP rB (rS (rI .u32)))
    exact V _ _ _ (fin2r Tryz.results36 ⟨rfl,rfl⟩ ⟨rfl,rfl⟩ ⟨_,rfl,((b.k1w).facts (allT allI))⟩)
   ·refine wp_skip (f6 _ _ (sR fun _ g1=>Ym (iV r) (eh b2) (bE c fun p1 g2 c=>yH (rMk b SL_32 e0 g2) fun g w b=>Ya g.v e0 (wK g1 (sR fun _ g3=>Ym g.v e0 ?_)))))
    refine Ym (iV q) (eh J) (yY (yFb FL_86_2 (eh X)) (yY (lbs_ [.bool d.2.2.1,l.v] ST_31 e0 b R4) (bE c fun g4 g5 c=>yC (yCall FN_63 (a1 e0)) (integer_Abs_ok g5 F0 b) ?_)))
    rintro _ w ⟨g6,rfl,b⟩
    refine ⟨_,rfl,?_⟩
    refine bE c fun p2 b3 c=>yY (yIs SL_32 e0 e0 b rO0 b3) (yT (r_stn (cs:=[.bool g4.1,g6.v]) b ST_31 e0 e0 rfl (mkP mkB (mkS F0)) b3) fun w b=>wK g3 (sR fun _ g7=>Ym g.v e0 (Ym (iV q) (eh J) (bE c fun Z b4 c=>yY (yIa SL_32 e0 e0 b rO0 b4) ?_))))
    obtain ⟨p3,p4,cc38,b⟩:=b.ld rO0 b4
    replace b:=b.eltP
    obtain ⟨p5,p6,rfl,b⟩:=b
    replace b:=b.eltB
    obtain ⟨rfl,b⟩:=b
    replace b:=b.eltS
    obtain ⟨a0,rfl,b⟩:=b
    refine yY (yCn (cs:=[.bool Z.1,a0.v]) ST_31 rfl e0 cc38) (yBb (rAl b ZT_31) fun z w b=>yT (r_stbn (vals':=[.bool Z.1,a0.v]) (us:=[.bool Z.1,a0.v]) b ST_31 e0 e0 rfl rfl (one_of rfl) rfl) fun w b=>wK g7 (sQ fun _ g8=>sR fun _ g9=>yY (yFb FL_86_1 (eh X)) (yY (lb_ j.v O_48 e0 b R5) (yY (yLen SL_48 e0 b rO4) (Ym (iV 0) rfl ?_)))))
    refine wK g9 (blockQ fun h0 h1=>bE c fun h3 h4 c=>?_)
    have h5:∀ (K:List (Bool×LI)) (E:Bool) (L:LI) (A:Hdr) (f:FV) w,f 8=g.v→f 9=(pB z)→St w0 (imm (rI .u32) A.v L::ros) (row 31 (rP rB (rS (rI .u32))) g.v K::box z 31 [.bool E,A.v]::rs) w→(K,E,L)=h3→h0 (.exit 2) (fr 103 f) w:=by
     intro K E L A f w b5 h6 b ho
     subst ho
     refine h1 _ _ _ (g8 _ _ (sQ fun _ h8=>sR fun _ h9=>Ym g.v (eh b5) (yY (yLen SL_32 e0 b rO0) (Ym (iV 0) rfl (wK h9 (blockQ fun i0 i1=>bE c fun i2 i3 c=>?_))))))
     have i4:∀ (a3:List (Bool×LI)) (f:FV) w,f 8=g.v→St w0 ros (row 31 (rP rB (rS (rI .u32))) g.v a3::rs) w→a3=i2→i0 (.exit 4) (fr 103 f) w:=by
      intro a3 f w i5 b ho
      subst ho
      refine i1 _ _ _ (h8 _ _ (sR fun _ i6=>Ym g.v (eh i5) (Ya g.v e0 (Ya (iV 0) rfl (wK i6 (wp_ret ?_))))))
      cases c
      exact V _ _ _ (fin2r Tryz.results36 ⟨rfl,rfl⟩ ⟨rfl,rfl⟩ ⟨_,rfl,b⟩)
     refine loopQ (fun s a w=>∃ (a4:List (Bool×LI)) (o:Int) (f:FV),(a4,o)=s∧a=fr 103 f∧f 8=g.v∧f 9=(pB z)∧f 85=iV (K.length:Int)∧f 86=iV o∧St w0 (imm (rI .u32) A.v L::ros) (row 31 (rP rB (rS (rI .u32))) g.v a4::box z 31 [.bool E,A.v]::rs) w) i3 ⟨_,_,_,rfl,rfl,b5,h6,rfl,rfl,b⟩ ?_
     rintro _ _ w p7 ⟨a4,o,f,rfl,rfl,F,b6,b7,a5,b⟩ m i7 p8 i8 i9
     refine sR fun _ j0=>yY (ylss (eh a5) (eh b7)) (wK j0 (seqQ fun p9 j1 j2=>?_))
     refine cIf e0 m (fun j3 m=>?_) fun j3 m=>?_
     ·refine wp_skip (j1 _ _ (sQ fun _ j4=>blockQ fun _ j5=>sR fun _ j7=>Ym (iV o) (eh a5) (Ya (iV o) e0 (wK j7 (bE m fun j8 b8 m=>bE m fun B j9 m=>bE m fun q0 b9 m=>dR [0,0,0,0,12,28,0,124,252,508,508,1023,3071] [7,12] 2 folM ?_)))))
      replace b:=b.drew
      refine Dn [0,1,2,3,4,5,6] [] [7] (yR rfl (m_ g.v (eh F)) (yR rfl (m_ (iV o) e0) (yR rfl (m_ g.v (eh F)) (yR rfl (m_ (iV o) e0) (yR rfl (yIa SL_32 e0 e0 b rO0 b8) ?_)))))
      obtain ⟨q2,q3,cc127,b⟩:=b.ld rO0 b8
      replace b:=b.eltP
      obtain ⟨q4,q5,rfl,b⟩:=b
      replace b:=b.eltB
      obtain ⟨rfl,b⟩:=b
      replace b:=b.eltS
      obtain ⟨k0,rfl,b⟩:=b
      refine yR rfl (yCn (cs:=[.bool j8.1,k0.v]) ST_31 rfl e0 cc127) (yR rfl (lbs_ [.bool E,A.v] ST_31 (eh b6) b R1) (Rn QSn ?_))
      refine Lc1 rfl ?_
      refine Lk wn (yCall FN_81 (a2 e0 e0)) (integer_Quo_ok j9 F0 F1 b) ?_
      rintro _ w ⟨a6,rfl,b⟩
      refine ⟨_,rfl,?_⟩
      refine Dn [8,9,10,11] [0,1] [12] (yR rfl (m_ (.tuple #[.agg #[.bool B.1,a6.v],iV B.2.2]) e0) (yR rfl (x_ (.agg #[.bool B.1,a6.v]) e0) (yR rfl (x_ (iV B.2.2) e0) (yR rfl (yIs SL_32 e0 e0 b rO0 b9) (Rn (yS rfl (m_ g.v (eh F)) (yS rfl (m_ (iV o) e0) QSn)) ?_)))))
      refine Lc1 rfl ?_
      refine LT wn (r_stn (cs:=[.bool B.1,a6.v]) b ST_31 e0 e0 rfl (mkP mkB (mkS F0)) b9) fun w b=>Dz [] [10] (Rn (yS rfl (x_ (iV B.2.2) e0) QSn) (j5 _ _ _ (j4 _ _ (wR (yY (yadd (eh a5) rfl) (Ym (iV (wa .i64 o 1)) e0 (wN ?_)))))))
      cases m
      exact i8 _ _ _ rfl ⟨_,_,_,rfl,rfl,F,b6,b7,rfl,(b.facts (allC F2 (allT (allT (allT allI)))))⟩
     ·refine wp_exit (j2 _ _ _ rfl ?_)
      cases m
      exact i9 _ _ _ _ rfl rfl (i4 _ _ _ F ((b.k18).facts (allT allI)) (i7 _ rfl))
    replace b:=(((b.k1x).ffz).k1h).fz
    refine loopQ (fun s a w=>∃ (a7:List (Bool×LI)) (N:Bool) (a8:LI) (t:Int) (f:FV) (O:Hdr),(a7,N,a8,t)=s∧a=fr 103 f∧f 6=(pB p)∧f 7=iV q∧f 8=g.v∧f 9=(pB z)∧f 56=j.v∧f 57=iV (d.2.1.length:Int)∧f 58=iV t∧St w0 (imm (rS (rP rB (rS (rI .u32)))) k.v d.1::imm I1 j.v d.2.1::imm (rI .u32) l.v d.2.2.2.1::imm (rI .u32) O.v a8::ros) (box p 86 [k.v,j.v,.bool d.2.2.1,l.v,iV d.2.2.2.2]::row 31 (rP rB (rS (rI .u32))) g.v a7::box z 31 [.bool N,O.v]::rs) w) h4 ⟨_,_,_,_,_,_,rfl,rfl,X,J,rfl,rfl,rfl,rfl,rfl,((b.k1y).facts (allC F1 (allC F0 (allC F4 (allC F2 (allT (allT (allT (allT (allT allI))))))))))⟩ ?_
    rintro _ _ w q6 ⟨a7,N,a8,t,f,O,rfl,rfl,a9,c0,C,R,c1,c2,S,b⟩ h k9 q7 l0 l1
    refine sR fun _ l2=>yY (ylss (eh S) (eh c2)) (wK l2 (seqQ fun q8 l3 l4=>?_))
    refine cIf e0 h (fun l5 h=>?_) fun l5 h=>?_
    ·refine wp_skip (l3 _ _ (sQ fun _ l6=>blockQ fun _ l7=>sR fun _ l8=>Ym (iV t) (eh S) (bE h fun G c3 h=>yY (yIa SL_48 (eh c1) (eh S) b (rdI F1) c3) (yY (yI O_3 e0 b (rdI F1) c3) (Ya (iV t) e0 (Ya (iV G) e0 (wK l8 ?_)))))))
     refine sQ fun _ l9=>bE h fun q9 c5 h=>bE h fun m0 c6 h=>bE h fun r0 m1 h=>bE h fun m2 m3 h=>bE h fun r1 c7 h=>dR [0,0,0,0,8,0,56,120,0,504,1016,2044,4092,8191,16383] [11,12,14] 3 folM ?_
     replace b:=b.drew
     refine Dn [0,1,2,3,4,5,6,7,8,9,10] [] [11] (yR rfl (m_ g.v (eh C)) (yR rfl (m_ (iV G) e0) (yR rfl (lbs_ [k.v,j.v,.bool d.2.2.1,l.v,iV d.2.2.2.2] ST_86 (eh a9) b R0) (yR rfl (yFb FL_86_0 (eh a9)) (yR rfl (lb_ k.v O_22 e0 b R0) (yR rfl (m_ (iV t) e0) (yR rfl (yIa SL_22 e0 e0 b (rdI F0) c5) ?_)))))))
     obtain ⟨r2,b⟩:=iLs b F0 c5
     refine yR rfl (yCt O_32 e0 b F1 rfl) (yR rfl (m_ (iV q) (eh c0)) (yR rfl (yIa SL_32 e0 e0 b (rdI F0) c6) ?_))
     obtain ⟨r4,r7,b⟩:=iLd b F0 c6
     obtain ⟨r8,s0,rfl,b⟩:=b.eltP
     obtain ⟨rfl,b⟩:=b.eltB
     obtain ⟨m4,rfl,b⟩:=b.eltS
     refine yR rfl (yCtn (cs:=[.bool m0.1,m4.v]) ST_31 rfl e0 b F1) (Rn QSn ?_)
     refine Lc1 rfl ?_
     refine Lk wn (yCall FN_62 (a2 e0 e0)) (exact_reduced_turned_ok m1 F4 F5 F6 F0 b) ?_
     rintro _ w ⟨s1,rfl,b⟩
     refine ⟨_,rfl,?_⟩
     refine Dn [] [0,1] [12] (Rn (yS rfl (m_ g.v (eh C)) (yS rfl (m_ (iV G) e0) QSn)) ?_)
     refine Lc1 rfl ?_
     refine Lk wn (yCall FN_80 (a1 e0)) (integer_Neg_ok m3 F0 b) ?_
     rintro _ w ⟨m5,rfl,b⟩
     refine ⟨_,rfl,?_⟩
     refine Dn [13] [0,1] [14] (yR rfl (yIs SL_32 e0 e0 b rO1 c7) (Rn (yS rfl (m_ g.v (eh C)) (yS rfl (m_ (iV G) e0) QSn)) ?_))
     refine Lc1 rfl ?_
     replace b:=b.k17
     refine LT wn (r_stn (cs:=[.bool m2.1,m5.v]) b ST_31 e0 e0 rfl (mkP mkB (mkS F0)) c7) fun w b=>Dz [] [] (Rn QSn (l9 _ _ (bE h fun m6 c8 h=>bE h fun c9 m7 h=>dR [0,0,0,6,14,31,63] [5,6] 2 folM ?_)))
     replace b:=b.drew
     refine Dn [0,1,2,3,4] [] [5] (yR rfl (lbs_ [.bool N,O.v] ST_31 (eh R) b R2) (yR rfl (m_ g.v (eh C)) (yR rfl (m_ (iV G) e0) (yR rfl (yIa SL_32 e0 e0 b rO0 c8) ?_))))
     obtain ⟨s2,s3,cc148,b⟩:=b.ld rO0 c8
     replace b:=b.eltP
     obtain ⟨s4,s5,rfl,b⟩:=b
     replace b:=b.eltB
     obtain ⟨rfl,b⟩:=b
     replace b:=b.eltS
     obtain ⟨m8,rfl,b⟩:=b
     refine yR rfl (yCn (cs:=[.bool m6.1,m8.v]) ST_31 rfl e0 cc148) (Rn QSn ?_)
     refine Lc1 rfl ?_
     refine Lk wn (yCall FN_44 (a2 e0 e0)) (integer_GCD_ok m7 F10 F0 b) ?_
     rintro _ w ⟨d0,rfl,b⟩
     refine ⟨_,rfl,?_⟩
     refine Dn [] [] [6] (Rn QSn ?_)
     refine Lc1 rfl ?_
     replace b:=b.k1h
     refine LT wn (r_stbn (vals':=[.bool c9.1,d0.v]) (us:=[.bool c9.1,d0.v]) b ST_31 (eh R) e0 rfl rfl (one_of rfl) rfl) fun w b=>Dz [] [] (Rn QSn (l7 _ _ _ (l6 _ _ (wR (yY (yadd (eh S) rfl) (Ym (iV (wa .i64 t 1)) e0 (wN ?_)))))))
     cases h
     exact l0 _ _ _ rfl ⟨_,_,_,_,_,_,rfl,rfl,a9,c0,C,R,c1,c2,rfl,((b.k1y).facts (allC F8 (allC F9 (allC F10 (allC F0 (allT (allT (allT (allT (allT (allT (allT (allT (allT (allT (allT (allT allI)))))))))))))))))⟩
    ·refine wp_exit (l4 _ _ _ rfl ?_)
     cases h
     exact l1 _ _ _ _ rfl rfl (h5 _ _ _ _ _ _ C R ((b.k1z).facts (allC F3 (allT (allT (allT (allT allI)))))) (k9 _ rfl))
  refine loopQ (fun s a w=>∃ (n:Int) (f:FV),n=s∧a=fr 103 f∧f 5=iV r∧f 6=(pB p)∧f 7=iV n∧St w0 (imm (rI .u32) l.v d.2.2.2.1::ros) (row 32 rH k.v y::fam 31 (rP rB (rS (rI .u32))) y d.1::row 3 I1 j.v d.2.1::box p 86 [k.v,j.v,.bool d.2.2.1,l.v,iV d.2.2.2.2]::rs) w) f4 ⟨_,_,rfl,rfl,rfl,rfl,rfl,((b.k1q).facts (allC F0 (allT (allT allI))))⟩ ?_
  rintro _ _ w s6 ⟨n,f,rfl,rfl,d1,T,H,b⟩ u m9 s7 n0 n1
  refine seqQ fun s8 n2 n6=>sR fun _ n7=>Ym (iV n) (eh H) (yY (yFb FL_86_1 (eh T)) (yY (lb_ j.v O_48 e0 b R3) (yY (yLen SL_48 e0 b rO2) (yY (ylss e0 e0) (Ym (.bool (decide (n < (d.2.1.length:Int)))) e0 (bE u fun n8 x u=>?_))))))
  refine joinW 8 (fun f w=>f 5=iV r∧f 6=(pB p)∧f 7=iV n∧f 37=.bool n8∧St w0 (imm (rI .u32) l.v d.2.2.2.1::ros) (row 32 rH k.v y::fam 31 (rP rB (rS (rI .u32))) y d.1::row 3 I1 j.v d.2.1::box p 86 [k.v,j.v,.bool d.2.2.1,l.v,iV d.2.2.2.2]::rs) w) (fun d2=>?_) ?_
  ·rcases iteS x with ⟨i,x⟩ | ⟨i,x⟩
   ·refine yG (dT i) (yFb FL_86_1 (eh T)) (yG (dT i) (lb_ j.v O_48 e0 b R3) (yG (dT i) (m_ (iV n) (eh H)) (bE x fun n9 d3 x=>yG (dT i) (yIa SL_48 e0 e0 b rO2 d3) (yG (dT i) (yI O_3 e0 b rO2 d3) (yG (dT i) (m_ (iV n) (eh H)) (yG (dT i) (yeql e0 e0) (yY (pt_ (.bool (decide (n9=n))) e0 (dT i) e0) ?_)))))))
    cases x
    exact d2 _ _ ⟨d1,T,H,rfl,b⟩
   ·refine gN (dF i) (gN (dF i) (gN (dF i) (gN (dF i) (gN (dF i) (gN (dF i) (gN (dF i) (yY (pf_ (.bool false) e0 (dF i) rfl) ?_)))))))
    cases x
    exact d2 _ _ ⟨d1,T,H,rfl,b⟩
  rintro f w ⟨d4,d5,d6,o0,b⟩
  refine wK n7 (cB (eh o0) u (fun o1 u=>?_) fun o1 u=>?_)
  ·refine wp_skip (n2 _ _ (blockQ fun _ o2=>wR (Ym (iV n) (eh d6) (yY (yadd e0 rfl) (Ya (iV (wa .i64 n 1)) e0 (wN (o2 _ _ _ ?_)))))))
   cases u
   exact n0 _ _ _ rfl ⟨_,_,rfl,rfl,d4,d5,rfl,b⟩
  ·refine wp_exit (n6 _ _ _ rfl ?_)
   cases u
   exact n1 _ _ _ _ rfl rfl (f5 _ _ _ d4 d5 d6 b (m9 _ rfl))
 ·refine condT e0 (nT (dF W)) (sR fun _ o6=>Ym (iV I) e0 (Ya hnil.v rfl (Ya (iV I) e0 (wK o6 (wp_ret (e2 _ _ _ rfl ?_))))))
  cases c
  replace b:=b.rowNh 31 (rP rB (rS (rI .u32)))
  exact V _ _ _ (fin2r Tryz.results36 ⟨rfl,rfl⟩ ⟨rfl,rfl⟩ ⟨_,rfl,b⟩)
theorem exact_Bound_ok {p:List (List (Bool×LI))} {k:Hdr} {out:Bool×LI×Int} (c:exact_Bound p=some out) (z:imm (rS (rP rB (rS (rI .u32)))) k.v p∈ros) (b:St w0 ros rs w):
  Calls Tryz.prog 37 #[k.v] w (fun e w=>∃ (O:Hdr),e=.returned (.tuple #[.agg #[.bool out.1,O.v],iV out.2.2])∧St w0 (imm (rI .u32) O.v out.2.1::ros) rs w):=by
 refine enterQ Tryz.func37 rfl Tryz.ntmps37 rfl fun Q R=>sR fun _ b7=>yBb (rAl b ZT_31) fun h w b=>Ya (iV 0) rfl (wK b7 (sR fun _ b9=>Ym k.v e0 (bE c fun A c0 c=>yC (yCall FN_64 (a1 e0)) (exact_check_ok c0 z b) ?_)))
 rintro _ w ⟨rfl,b⟩
 refine ⟨_,rfl,?_⟩
 refine Ya (iV A) e0 (wK b9 (seqQ fun h5 c1 c2=>sR fun _ c3=>Ym (iV A) e0 (yY (yneq e0 rfl) (wK c3 ?_))))
 rcases iteS c with ⟨G,c⟩ | ⟨G,c⟩
 ·refine condF e0 (nF (dT G)) (wp_skip (c1 _ _ (sR fun _ c4=>bE c fun S c6 c=>yC (yCall FN_82 (a1 rfl)) (integer_FromInt_ok c6 b) ?_)))
  rintro _ w ⟨T,rfl,b⟩
  refine ⟨_,rfl,?_⟩
  refine yBb (rAl b ZT_31) fun i w b=>yT (r_stbn (vals':=[.bool S.1,T.v]) (us:=[.bool S.1,T.v]) b ST_31 e0 e0 rfl rfl (one_of rfl) rfl) fun w b=>wK c4 (sQ fun _ c7=>sR fun _ c8=>Ym k.v e0 (yY (yLen SL_22 e0 b (rdI (mtF z))) (Ym (iV 0) rfl (wK c8 ?_))))
  refine blockQ fun c9 d0=>bE c fun d1 d2 c=>?_
  have d3:∀ (l:Bool) (H:LI) (m:Hdr) (f:FV) w,f 2=(pB h)→f 5=(pB i)→St w0 (imm (rI .u32) m.v H::ros) (box h 31 [.bool false,hnil.v]::box i 31 [.bool l,m.v]::rs) w→(l,H)=d1→c9 (.exit 0) (fr 41 f) w:=by
   intro l H m f w U d4 b ho
   subst ho
   refine d0 _ _ _ (c7 _ _ (sR fun _ d5=>yY (lbs_ [.bool l,m.v] ST_31 (eh d4) b R1) (yT (r_stbn (vals':=[.bool l,m.v]) (us:=[.bool l,m.v]) b ST_31 (eh U) e0 rfl rfl (one_of rfl) rfl) fun w b=>Ya (iV 0) rfl (wK d5 (wp_ret ?_)))))
   cases c
   exact R _ _ _ (fin2r Tryz.results37 (rcs2 rfl U b R0 ST_31 rfl) ⟨rfl,rfl⟩ ⟨_,rfl,(b.k19)⟩)
  refine loopQ (fun s a w=>∃ (n:Bool) (q:LI) (o:Int) (f:FV) (j:Hdr),(n,q,o)=s∧a=fr 41 f∧f 2=(pB h)∧f 5=(pB i)∧f 18=k.v∧f 19=iV (p.length:Int)∧f 20=iV o∧St w0 (imm (rI .u32) j.v q::ros) (box h 31 [.bool false,hnil.v]::box i 31 [.bool n,j.v]::rs) w) d2 ⟨_,_,_,_,_,rfl,rfl,rfl,rfl,rfl,rfl,rfl,(b.k17)⟩ ?_
  rintro _ _ w h6 ⟨n,q,o,f,j,rfl,rfl,V,W,X,Z,I,b⟩ d d6 h8 d7 d8
  refine sR fun _ d9=>yY (ylss (eh I) (eh Z)) (wK d9 (seqQ fun h9 e1 e2=>?_))
  refine cIf e0 d (fun e3 d=>?_) fun e3 d=>?_
  ·refine wp_skip (e1 _ _ (sQ fun _ e4=>blockQ fun _ e5=>sR fun _ e6=>bE d fun a0 a3 d=>yY (yIa SL_22 (eh X) (eh I) b (rdI (mtF z)) a3) ?_))
   obtain ⟨B,b⟩:=iLs b (mtF z) a3
   refine yY (yCt O_32 e0 b F1 rfl) (Ya B.v e0 (wK e6 (sR fun _ e7=>yBb (rAl b ZT_31) fun C w b=>wK e7 (sQ fun _ e8=>sR fun _ e9=>Ym B.v e0 ?_))))
   refine yY (yLen SL_32 e0 b (rdI F0)) (Ym (iV 0) rfl (wK e9 (blockQ fun f0 f1=>bE d fun f2 f3 d=>?_)))
   have f4:∀ (D:Bool) (J:LI) (E:Hdr) (f:FV) w,f 2=(pB h)→f 5=(pB i)→f 8=(pB C)→f 18=k.v→f 19=iV (p.length:Int)→f 20=iV o→St w0 (imm (rI .u32) j.v q::imm (rI .u32) E.v J::ros) (box h 31 [.bool false,hnil.v]::box i 31 [.bool n,j.v]::box C 31 [.bool D,E.v]::rs) w→(D,J)=f2→f0 (.exit 2) (fr 41 f) w:=by
    intro D J E f w f5 K f6 f7 f8 f9 b ho
    subst ho
    refine f1 _ _ _ (e8 _ _ (wR (yY (lbs_ [.bool n,j.v] ST_31 (eh K) b R1) (yY (lbs_ [.bool D,E.v] ST_31 (eh f6) b R2) (bE d fun a4 g0 d=>yC (yCall FN_32 (a2 e0 e0)) (integer_Mul_ok g0 F0 F1 b) ?_)))))
    rintro _ w ⟨a5,rfl,b⟩
    refine ⟨_,rfl,?_⟩
    refine yT (r_stbn (vals':=[.bool a4.1,a5.v]) (us:=[.bool a4.1,a5.v]) (b.k17) ST_31 (eh K) e0 rfl rfl (one_of rfl) rfl) fun w b=>wN (e5 _ _ _ (e4 _ _ (wR (yY (yadd (eh f9) rfl) (Ym (iV (wa .i64 o 1)) e0 (wN ?_))))))
    cases d
    exact d7 _ _ _ rfl ⟨_,_,_,_,_,rfl,rfl,f5,K,f7,f8,rfl,((b.k1a).facts (allC F0 (allT (allT (allT allI)))))⟩
   replace b:=b.immNh (rI .u32)
   refine loopQ (fun s a w=>∃ (r:Bool) (L:LI) (F:Int) (f:FV) (t:Hdr),(r,L,F)=s∧a=fr 41 f∧f 2=(pB h)∧f 5=(pB i)∧f 8=(pB C)∧f 18=k.v∧f 19=iV (p.length:Int)∧f 20=iV o∧f 24=B.v∧f 25=iV (a0.length:Int)∧f 26=iV F∧St w0 (imm (rI .u32) j.v q::imm (rI .u32) t.v L::imm (rP rB (rS (rI .u32))) B.v a0::ros) (box h 31 [.bool false,hnil.v]::box i 31 [.bool n,j.v]::box C 31 [.bool r,t.v]::rs) w) f3 ⟨_,_,_,_,_,rfl,rfl,V,W,rfl,X,Z,I,rfl,rfl,rfl,((b.k1c).facts (allC F3 (allC F0 (allC F1 (allT (allT (allT (allT allI))))))))⟩ ?_
   rintro _ _ w i0 ⟨r,L,F,f,t,rfl,rfl,a6,a7,u,a8,a9,b0,b1,b2,N,b⟩ g g1 i1 g2 g3
   refine sR fun _ g4=>yY (ylss (eh N) (eh b2)) (wK g4 (seqQ fun i2 g5 g6=>?_))
   refine cIf e0 g (fun g7 g=>?_) fun g7 g=>?_
   ·refine wp_skip (g5 _ _ (sQ fun _ g8=>blockQ fun _ g9=>sR fun _ h0=>bE g fun x b4 g=>yY (yIa SL_32 (eh b1) (eh N) b (rdI F2) b4) ?_))
    obtain ⟨i3,i4,b⟩:=iLd b F2 b4
    obtain ⟨i5,i6,rfl,b⟩:=b.eltP
    obtain ⟨rfl,b⟩:=b.eltB
    obtain ⟨y,rfl,b⟩:=b.eltS
    refine yY (yCtn (cs:=[.bool x.1,y.v]) ST_31 rfl e0 b F1) (yBb (rAl b ZT_31) fun i7 w b=>yT (r_stbn (vals':=[.bool x.1,y.v]) (us:=[.bool x.1,y.v]) b ST_31 e0 e0 rfl rfl (one_of rfl) rfl) fun w b=>wK h0 (bE g fun i8 h1 g=>bE g fun b5 h3 g=>dR [0,0,0,6,15,31] [3,4,5] 3 folM ?_))
    replace b:=b.drew
    refine Dn [0,1,2] [] [3] (yR rfl (lbs_ [.bool r,t.v] ST_31 (eh u) b R3) (yR rfl (lbs_ [.bool x.1,y.v] ST_31 e0 b R0) (yR rfl (lbs_ [.bool x.1,y.v] ST_31 e0 b R0) (Rn QSn ?_))))
    refine Lc1 rfl ?_
    refine Lk wn (yCall FN_32 (a2 e0 e0)) (integer_Mul_ok h1 F0 F0 b) ?_
    rintro _ w ⟨i9,rfl,b⟩
    refine ⟨_,rfl,?_⟩
    refine Dn [] [0] [4] (Rn (yS rfl (lbs_ [.bool r,t.v] ST_31 (eh u) b R3) QSn) ?_)
    refine Lc1 rfl ?_
    refine Lk wn (yCall FN_75 (a2 e0 e0)) (integer_Add_ok h3 F4 F0 b) ?_
    rintro _ w ⟨b6,rfl,b⟩
    refine ⟨_,rfl,?_⟩
    refine Dn [] [] [5] (Rn QSn ?_)
    refine Lc1 rfl ?_
    replace b:=b.k13
    refine LT wn (r_stbn (vals':=[.bool b5.1,b6.v]) (us:=[.bool b5.1,b6.v]) b ST_31 (eh u) e0 rfl rfl (one_of rfl) rfl) fun w b=>Dz [] [] (Rn QSn (g9 _ _ _ (g8 _ _ (wR (yY (yadd (eh N) rfl) (Ym (iV (wa .i64 F 1)) e0 (wN ?_)))))))
    cases g
    exact g2 _ _ _ rfl ⟨_,_,_,_,_,rfl,rfl,a6,a7,u,a8,a9,b0,b1,b2,rfl,((b.k1b).facts (allC F4 (allC F0 (allC F6 (allT (allT (allT (allT (allT (allT (allT allI)))))))))))⟩
   ·refine wp_exit (g6 _ _ _ rfl ?_)
    cases g
    exact g3 _ _ _ _ rfl rfl (f4 _ _ _ _ _ a6 a7 u a8 a9 b0 (b.facts (allC F0 (allC F1 (allT (allT (allT allI)))))) (g1 _ rfl))
  ·refine wp_exit (e2 _ _ _ rfl ?_)
   cases d
   exact d8 _ _ _ _ rfl rfl (d3 _ _ _ _ _ V W b (d6 _ rfl))
 ·refine condT e0 (nT (dF G)) (sR fun _ h4=>yY (ybuild (us:=[.bool false,hnil.v]) [] SO_31 bp0 rfl) (Ym (iV A) e0 (yT (r_stbn (vals':=[.bool false,hnil.v]) (us:=[.bool false,hnil.v]) b ST_31 e0 e0 rfl rfl (one_of rfl) rfl) fun w b=>Ya (iV A) e0 (wK h4 (wp_ret (c2 _ _ _ rfl ?_))))))
  cases c
  replace b:=b.immNh (rI .u32)
  exact R _ _ _ (fin2r Tryz.results37 (rcs2 rfl rfl b R0 ST_31 rfl) ⟨rfl,rfl⟩ ⟨_,rfl,(b.k10)⟩)
theorem sparsekit_Limbs_ok {q r:LI} {h i:Hdr} {out:Bool} (d:sparsekit_Limbs q r=some out) (j:imm (rI .u32) h.v q∈ros) (l:imm (rI .u32) i.v r∈ros) (b:St w0 ros rs w):
  Calls Tryz.prog 69 #[h.v,i.v] w (fun e w=>e=.returned (.bool out)∧St w0 ros rs w):=by
 refine enterQ Tryz.func69 rfl Tryz.ntmps69 rfl fun Q m=>sR fun _ E=>Ya (.bool false) rfl (wK E (seqQ fun a4 F G=>sR fun _ H=>Ym h.v e0 (yY (yLen SL_29 e0 b (rdI j)) (Ym i.v e0 (yY (yLen SL_29 e0 b (rdI l)) (yY (yneq e0 e0) ?_))))))
 refine wK H ?_
 rcases iteS d with ⟨n,d⟩ | ⟨n,d⟩
 ·refine condF e0 (nF (dT n)) (wp_skip (F _ _ (seqQ fun a5 I J=>sR fun _ K=>Ya (iV 0) rfl (wK K (blockQ fun t u=>bE d fun x L d=>?_)))))
  have N:∀ (f:FV) w,St w0 ros rs w→.inl ()=x→t (.exit 0) (fr 26 f) w:=by
   intro f w b ho
   subst ho
   refine u _ _ _ (I _ _ (sR fun _ O=>Ya (.bool true) rfl (wK O (wp_ret ?_))))
   cases d
   exact m _ _ _ (fin1r Tryz.results69 ⟨rfl,rfl⟩ ⟨rfl,b⟩)
  have R:∀ (f:FV) w,f 4=.bool false→St w0 ros rs w→.inr ()=x→t .ret (fr 26 f) w:=by
   intro f w S b ho
   subst ho
   refine u _ _ _ (J _ _ _ rfl ?_)
   cases d
   exact m _ _ _ (fin1r Tryz.results69 ⟨rfl,S⟩ ⟨rfl,b⟩)
  refine loopQ (fun s a w=>∃ (g:Int) (f:FV),g=s∧a=fr 26 f∧f 0=h.v∧f 1=i.v∧f 5=iV g∧St w0 ros rs w) L ⟨_,_,rfl,rfl,rfl,rfl,rfl,b⟩ ?_
  rintro _ _ w a6 ⟨g,f,rfl,rfl,o,y,k,b⟩ c z a7 T A
  refine seqQ fun a8 U V=>sR fun _ W=>Ym (iV g) (eh k) (Ym h.v (eh o) (yY (yLen SL_29 e0 b (rdI j)) (yY (ylss e0 e0) (wK W ?_))))
  refine cIf e0 c (fun X c=>?_) fun X c=>?_
  ·refine wp_skip (U _ _ (seqQ fun a9 Z a0=>blockQ fun _ B=>sQ fun _ a1=>bE c fun b0 C c=>bE c fun b1 D c=>dR [0,0,3,7,0,0,48,112,255] [] 0 folM ?_))
   replace b:=b.drew
   refine Dz [0,1,2,3,4,5,6,7,8] [] (yR rfl (m_ h.v (eh o)) (yR rfl (m_ (iV g) (eh k)) (yR rfl (yIa SL_29 e0 e0 b (rdI j) C) (yR rfl (yI O_103 e0 b (rdI j) C) (yR rfl (m_ i.v (eh y)) (yR rfl (m_ (iV g) (eh k)) (yR rfl (yIa SL_29 e0 e0 b (rdI l) D) (yR rfl (yI O_103 e0 b (rdI l) D) (yR rfl (yneq e0 e0) (Rn QSn (a1 _ _ ?_)))))))))))
   rcases iteS c with ⟨p,c⟩ | ⟨p,c⟩
   ·refine condF e0 (nF (dT p)) (wp_skip (B _ _ _ (Z _ _ (wR (Ym (iV g) (eh k) (yY (yadd e0 rfl) (Ya (iV (wa .i64 g 1)) e0 (wN ?_))))))))
    cases c
    exact T _ _ _ rfl ⟨_,_,rfl,rfl,o,y,rfl,b⟩
   ·refine condT e0 (nT (dF p)) (sR fun _ a2=>Ya (.bool false) rfl (wK a2 (wp_ret (B _ _ _ (a0 _ _ _ rfl ?_)))))
    cases c
    exact A _ _ _ _ rfl rfl (R _ _ rfl b (z _ rfl))
  ·refine wp_exit (V _ _ _ rfl ?_)
   cases c
   exact A _ _ _ _ rfl rfl (N _ _ b (z _ rfl))
 ·refine condT e0 (nT (dF n)) (sR fun _ a3=>Ya (.bool false) rfl (wK a3 (wp_ret (G _ _ _ rfl ?_))))
  cases d
  exact m _ _ _ (fin1r Tryz.results69 ⟨rfl,rfl⟩ ⟨rfl,b⟩)
theorem sparsekit_Big_ok {d:Bool} {k:LI} {g:Bool} {l:LI} {h i:Hdr} {out:Bool} (j:sparsekit_Big d k g l=some out) (o:imm (rI .u32) h.v k∈ros) (p:imm (rI .u32) i.v l∈ros) (a:St w0 ros rs w):
  Calls Tryz.prog 23 #[.agg #[.bool d,h.v],.agg #[.bool g,i.v]] w (fun e w=>e=.returned (.bool out)∧St w0 ros rs w):=by
 refine enterQ Tryz.func23 rfl Tryz.ntmps23 rfl fun Q q=>sR fun _ r=>yBb (r_box (vals:=[.bool d,h.v]) a e0 rfl) fun y w a=>yBb (r_box (vals:=[.bool g,i.v]) a e0 rfl) fun z w a=>Ya (.bool false) rfl (wK r (sR fun _ s=>yY (yFb FL_31_0 e0) (yY (lb_ (.bool d) O_4 e0 a R1) ?_)))
 refine yY (yFb FL_31_0 e0) (yY (lb_ (.bool g) O_4 e0 a R0) (yY (yeqb (by kernel_rfl) e0 e0) (Ym (.bool (d == g)) e0 (bE j fun m c j=>?_))))
 refine joinW 6 (fun f w=>f 16=.bool m∧St w0 ros rs w) (fun n=>?_) ?_
 ·rcases iteS c with ⟨b,c⟩ | ⟨b,c⟩
  ·refine yG b (yFb FL_31_1 e0) (yG b (lb_ h.v O_29 e0 a R1) (yG b (yFb FL_31_1 e0) (yG b (lb_ i.v O_29 e0 a R0) (bE c fun t u c=>Yc (wG b) rfl (yCall FN_69 (a2 e0 e0)) (sparsekit_Limbs_ok u o p a) ?_))))
   rintro _ w ⟨rfl,a⟩
   refine ⟨_,rfl,?_⟩
   refine yY (pt_ (.bool t) e0 b e0) ?_
   cases c
   exact n _ _ ⟨rfl,(a.k19)⟩
  ·refine gN (bfalse b) (gN (bfalse b) (gN (bfalse b) (gN (bfalse b) (gN (bfalse b) (yY (pf_ (.bool false) e0 (bfalse b) rfl) ?_)))))
   cases c
   exact n _ _ ⟨rfl,(a.k19)⟩
 rintro f w ⟨x,a⟩
 refine Ya (.bool m) (eh x) (wK s (wp_ret ?_))
 cases j
 exact q _ _ _ (fin1r Tryz.results23 ⟨rfl,rfl⟩ ⟨rfl,a⟩)
end Go.Proofs.YtpfmbaidflhamaaGreatDoor
