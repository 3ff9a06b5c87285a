/- Walks: each function computes its model, printed. -/
import Derived.Test.YtpfmbaidflhamaaGreatDoorW6
namespace Go.Proofs.YtpfmbaidflhamaaGreatDoor
open Go Sx M
set_option maxRecDepth 100000
set_option maxHeartbeats 40000000
set_option linter.unusedVariables false
attribute [local irreducible] wpList Code.wp Calls DR QR QS LA LS St
variable {w0:World} {ros:List Fact} {rs:List Res} {w:World}
theorem exact_Inertia_ok {t:List (List (Bool×LI))} {d:Hdr} {out:Int×Int×Int×Int} (c:exact_Inertia t=some out) (n:imm (rS (rP rB (rS (rI .u32)))) d.v t∈ros) (b:St w0 ros rs w):
  Calls Tryz.prog 14 #[d.v] w (fun e w=>e=.returned (.tuple #[iV out.1,iV out.2.1,iV out.2.2.1,iV out.2.2.2])∧St w0 ros rs w):=by
 refine enterQ Tryz.func14 rfl Tryz.ntmps14 rfl fun Q O=>sR fun _ g0=>Ya (iV 0) rfl (Ya (iV 0) rfl (Ya (iV 0) rfl (Ya (iV 0) rfl (wK g0 (sR fun _ g1=>Ym d.v e0 (bE c fun D g2 c=>yC (yCall FN_52 (a1 e0)) (exact_square_ok g2 n b) ?_))))))
 rintro _ w ⟨rfl,b⟩
 refine ⟨_,rfl,?_⟩
 refine Ya (iV D) e0 (wK g1 (seqQ fun t0 g3 g4=>sR fun _ g5=>Ym (iV D) e0 (yY (yneq e0 rfl) (wK g5 ?_))))
 rcases iteS c with ⟨R,c⟩ | ⟨R,c⟩
 ·refine condF e0 (nF (dT R)) (wp_skip (g3 _ _ (seqQ fun t1 g6 g7=>sR fun _ g8=>Ym d.v e0 (yY (yLen SL_22 e0 b (rdI n)) (Ym (iV 0) rfl (wK g8 (blockQ fun a7 a8=>bE c fun a9 g9 c=>?_)))))))
  have h0:∀ (f:FV) w,f 0=d.v→f 3=iV 0→f 4=iV 0→St w0 ros rs w→.inl ()=a9→a7 (.exit 0) (fr 89 f) w:=by
   intro f w b0 h1 h3 b ho
   subst ho
   refine a8 _ _ _ (g6 _ _ (sR fun _ h4=>Ym d.v (eh b0) (bE c fun t2 h5 c=>?_)))
   replace b:=b.immNh (rP rB (rS (rI .u32)))
   refine yC (yCall FN_54 (a2 e0 rfl)) (exact_twin_ok h5 (mtF n) F0 b) ?_
   rintro _ w ⟨t3,t4,rfl,b⟩
   refine ⟨_,rfl,?_⟩
   refine bE c fun o h6 c=>?_
   replace b:=b.ffz
   refine yC (yCall FN_53 (a1 e0)) (exact_characteristic_ok h6 F0 b) ?_
   rintro _ w ⟨h,rfl,b⟩
   refine ⟨_,rfl,?_⟩
   refine Ya h.v e0 (wK h4 (sQ fun _ h7=>blockQ fun h8 h9=>bE c fun i0 i1 c=>?_))
   have i2:∀ (k:Int) (f:FV) w,f 0=d.v→f 3=iV k→f 4=iV 0→f 10=h.v→St w0 ros (row 31 (rP rB (rS (rI .u32))) h.v o::rs) w→k=i0→h8 (.exit 4) (fr 89 f) w:=by
    intro k f w i3 i4 i5 i6 b ho
    subst ho
    refine h9 _ _ _ (h7 _ _ (sR fun _ i7=>Ya (iV 0) rfl (wK i7 (sQ fun _ i8=>sR fun _ i9=>Ym h.v (eh i6) (yY (yLen SL_32 e0 b rO0) (Ym (iV 0) rfl (wN ?_)))))))
    refine i9 _ _ (blockQ fun j0 j1=>bE c fun j2 j3 c=>?_)
    have j4:∀ (u:Int) (f:FV) w,f 0=d.v→f 3=iV k→f 4=iV u→St w0 ros rs w→u=j2→j0 (.exit 6) (fr 89 f) w:=by
     intro u f w j5 b1 b2 b ho
     subst ho
     refine j1 _ _ _ (i8 _ _ (sR fun _ j6=>Ym d.v (eh j5) (yY (yLen SL_22 e0 b (rdI n)) (Ym (iV k) (eh b1) (yY (ysub e0 e0) (Ym (iV u) (eh b2) (yY (ysub e0 e0) (Ym (iV k) (eh b1) (Ym (iV u) (eh b2) (Ya (iV (ws .i64 (ws .i64 (t.length:Int) k) u)) e0 (Ya (iV k) e0 ?_)))))))))))
     refine Ya (iV u) e0 (Ya (iV 0) rfl (wK j6 (wp_ret ?_)))
     cases c
     exact O _ _ _ (fin4r Tryz.results14 ⟨rfl,rfl⟩ ⟨rfl,rfl⟩ ⟨rfl,rfl⟩ ⟨rfl,rfl⟩ ⟨rfl,b⟩)
    refine loopQ (fun s a w=>∃ (B A r:Int) (f:FV),(B,A,r)=s∧a=fr 89 f∧f 0=d.v∧f 3=iV k∧f 4=iV B∧f 11=iV A∧f 63=h.v∧f 64=iV (o.length:Int)∧f 65=iV r∧St w0 ros (row 31 (rP rB (rS (rI .u32))) h.v o::rs) w) j3 ⟨_,_,_,_,rfl,rfl,i3,i4,i5,rfl,rfl,rfl,rfl,b⟩ ?_
    rintro _ _ w b3 ⟨B,A,r,f,rfl,rfl,S,T,U,V,W,X,E,b⟩ j j7 t5 j8 j9
    refine sR fun _ k0=>yY (ylss (eh E) (eh X)) (wK k0 (seqQ fun t6 k7 k8=>?_))
    refine cIf e0 j (fun k9 j=>?_) fun k9 j=>?_
    ·refine wp_skip (k7 _ _ (sQ fun _ l0=>blockQ fun l1 l2=>sR fun _ l3=>bE j fun F b4 j=>yY (yIa SL_32 (eh W) (eh E) b rO0 b4) ?_))
     obtain ⟨t7,t8,cc187,b⟩:=b.ld rO0 b4
     replace b:=b.eltP
     obtain ⟨t9,u0,rfl,b⟩:=b
     replace b:=b.eltB
     obtain ⟨rfl,b⟩:=b
     replace b:=b.eltS
     obtain ⟨G,rfl,b⟩:=b
     refine yY (yCn (cs:=[.bool F.1,G.v]) ST_31 rfl e0 cc187) (yBb (rAl b ZT_31) fun u1 w b=>yT (r_stbn (vals':=[.bool F.1,G.v]) (us:=[.bool F.1,G.v]) b ST_31 e0 e0 rfl rfl (one_of rfl) rfl) fun w b=>wK l3 (sR fun _ l4=>yY (lbs_ [.bool F.1,G.v] ST_31 e0 b R0) (bE j fun x l5 j=>yC (yCall FN_29 (a1 e0)) (integer_Sign_ok l5 F0 b) ?_)))
     rintro _ w ⟨rfl,b⟩
     refine ⟨_,rfl,?_⟩
     refine Ya (iV x) e0 (wK l4 (sQ fun l6 l7=>sR fun _ l8=>Ym (iV x) e0 (Ym (iV A) (eh V) (yY (ymul e0 e0) (yY (ylss e0 rfl) (wK l8 ?_))))))
     have b5:∀ (C:Int) (f:FV) w,f 0=d.v→f 3=iV k→f 4=iV C→f 11=iV A→f 14=iV x→f 63=h.v→f 64=iV (o.length:Int)→f 65=iV r→St w0 ros (row 31 (rP rB (rS (rI .u32))) h.v o::rs) w→exact_Inertia_j12 x r A C=some b3→l6 .normal (fr 89 f) w:=by
      intro C f w b6 b7 b8 l9 b9 c0 c1 c2 b c
      refine l7 _ _ (sR fun _ m0=>Ym (iV x) (eh b9) (yY (yneq e0 rfl) (wK m0 ?_)))
      have c3:∀ (Z:Int) (f:FV) w,f 0=d.v→f 3=iV k→f 4=iV C→f 11=iV Z→f 63=h.v→f 64=iV (o.length:Int)→f 65=iV r→St w0 ros (row 31 (rP rB (rS (rI .u32))) h.v o::rs) w→exact_Inertia_j13 C r Z=some b3→l1 .normal (fr 89 f) w:=by
       intro Z f w m1 m2 m3 m4 m5 m6 m7 b c
       refine l2 _ _ _ (l0 _ _ (wR (yY (yadd (eh m7) rfl) (Ym (iV (wa .i64 r 1)) e0 (wN ?_)))))
       cases c
       exact j8 _ _ _ rfl ⟨_,_,_,_,rfl,rfl,m1,m2,m3,m4,m5,m6,rfl,b⟩
      rcases iteS c with ⟨a0,c⟩ | ⟨a0,c⟩
      ·exact condF e0 (nF (dT a0)) (wp_skip (c3 _ _ _ b6 b7 b8 l9 c0 c1 c2 b c))
      ·exact condT e0 (nT (dF a0)) (wR (Ym (iV x) (eh b9) (Ya (iV x) e0 (wN (c3 _ _ _ b6 b7 b8 rfl c0 c1 c2 b c)))))
     refine cIf e0 j (fun m8 j=>?_) fun m8 j=>?_
     ·exact wR (Ym (iV B) (eh U) (yY (yadd e0 rfl) (Ya (iV (wa .i64 B 1)) e0 (wN (b5 _ _ _ S T rfl V rfl W X E ((b.k20).facts (allT allI)) j)))))
     ·exact wp_skip (b5 _ _ _ S T U V rfl W X E ((b.k20).facts (allT allI)) j)
    ·refine wp_exit (k8 _ _ _ rfl ?_)
     cases j
     exact j9 _ _ _ _ rfl rfl (j4 _ _ _ S T U (b.k10) (j7 _ rfl))
   refine loopQ (fun s a w=>∃ (p:Int) (f:FV),p=s∧a=fr 89 f∧f 0=d.v∧f 3=iV p∧f 4=iV 0∧f 10=h.v∧St w0 ros (row 31 (rP rB (rS (rI .u32))) h.v o::rs) w) i1 ⟨_,_,rfl,rfl,b0,h1,h3,rfl,(b.facts (allT (allT allI)))⟩ ?_
   rintro _ _ w u2 ⟨p,f,rfl,rfl,a3,H,c5,a4,b⟩ y m9 u3 n0 n1
   refine seqQ fun u4 n2 n4=>sR fun _ n5=>Ym (iV p) (eh H) (Ym d.v (eh a3) (yY (yLen SL_22 e0 b (rdI n)) (yY (ylss e0 e0) (Ym (.bool (decide (p < (t.length:Int)))) e0 (bE y fun n7 q y=>?_)))))
   refine joinW 7 (fun f w=>f 0=d.v∧f 3=iV p∧f 4=iV 0∧f 10=h.v∧f 60=.bool n7∧St w0 ros (row 31 (rP rB (rS (rI .u32))) h.v o::rs) w) (fun c6=>?_) ?_
   ·rcases iteS q with ⟨i,q⟩ | ⟨i,q⟩
    ·refine yG (dT i) (m_ h.v (eh a4)) (yG (dT i) (m_ (iV p) (eh H)) (bE q fun n8 c7 q=>yG (dT i) (yIa SL_32 e0 e0 b rO0 c7) ?_))
     obtain ⟨u5,u6,cc207,b⟩:=b.ld rO0 c7
     replace b:=b.eltP
     obtain ⟨u7,u8,rfl,b⟩:=b
     replace b:=b.eltB
     obtain ⟨rfl,b⟩:=b
     replace b:=b.eltS
     obtain ⟨n9,rfl,b⟩:=b
     refine yG (dT i) (yCn (cs:=[.bool n8.1,n9.v]) ST_31 rfl e0 cc207) (bE q fun o0 o1 q=>Yc (wG (dT i)) rfl (yCall FN_29 (a1 e0)) (integer_Sign_ok o1 F0 b) ?_)
     rintro _ w ⟨rfl,b⟩
     refine ⟨_,rfl,?_⟩
     refine yG (dT i) (yeql e0 rfl) (yY (pt_ (.bool (decide (o0=0))) e0 (dT i) e0) ?_)
     cases q
     exact c6 _ _ ⟨a3,H,c5,a4,rfl,(b.facts (allT allI))⟩
    ·refine gN (dF i) (gN (dF i) (gN (dF i) (gN (dF i) (gN (dF i) (gN (dF i) (yY (pf_ (.bool false) e0 (dF i) rfl) ?_))))))
     cases q
     exact c6 _ _ ⟨a3,H,c5,a4,rfl,b⟩
   rintro f w ⟨c8,c9,d0,d1,o2,b⟩
   refine wK n5 (cB (eh o2) y (fun o4 y=>?_) fun o4 y=>?_)
   ·refine wp_skip (n2 _ _ (blockQ fun _ o5=>wR (Ym (iV p) (eh c9) (yY (yadd e0 rfl) (Ya (iV (wa .i64 p 1)) e0 (wN (o5 _ _ _ ?_)))))))
    cases y
    exact n0 _ _ _ rfl ⟨_,_,rfl,rfl,c8,rfl,d0,d1,b⟩
   ·refine wp_exit (n4 _ _ _ rfl ?_)
    cases y
    exact n1 _ _ _ _ rfl rfl (i2 _ _ _ c8 c9 d0 d1 b (m9 _ rfl))
  have o7:∀ (f:FV) w,f 2=iV 0→f 3=iV 0→f 4=iV 0→f 5=iV 80→St w0 ros rs w→.inr ()=a9→a7 .ret (fr 89 f) w:=by
   intro f w o8 o9 p0 p1 b ho
   subst ho
   refine a8 _ _ _ (g7 _ _ _ rfl ?_)
   cases c
   exact O _ _ _ (fin4r Tryz.results14 ⟨rfl,o8⟩ ⟨rfl,o9⟩ ⟨rfl,p0⟩ ⟨rfl,p1⟩ ⟨rfl,b⟩)
  refine loopQ (fun s a w=>∃ (l:Int) (f:FV),l=s∧a=fr 89 f∧f 0=d.v∧f 3=iV 0∧f 4=iV 0∧f 20=d.v∧f 21=iV (t.length:Int)∧f 22=iV l∧St w0 ros rs w) g9 ⟨_,_,rfl,rfl,rfl,rfl,rfl,rfl,rfl,rfl,b⟩ ?_
  rintro _ _ w u9 ⟨l,f,rfl,rfl,d2,d3,d4,d5,d6,I,b⟩ m d7 v0 p2 d8
  refine sR fun _ p3=>yY (ylss (eh I) (eh d6)) (wK p3 (seqQ fun v1 p4 p5=>?_))
  refine cIf e0 m (fun p6 m=>?_) fun p6 m=>?_
  ·refine wp_skip (p4 _ _ (seqQ fun v2 p7 p8=>blockQ fun _ d9=>sR fun _ p9=>Ym (iV l) (eh I) (bE m fun e1 e2 m=>yY (yIa SL_22 (eh d5) (eh I) b (rdI n) e2) ?_)))
   obtain ⟨J,b⟩:=iLs b n e2
   refine yY (yCt O_32 e0 b F1 rfl) (Ya (iV l) e0 (Ya J.v e0 (wK p9 (sR fun _ q0=>Ym J.v e0 (yY (yLen SL_32 e0 b (rdI F0)) (Ym (iV 0) rfl (wK q0 (blockQ fun e3 e4=>bE m fun e5 q2 m=>?_))))))))
   have q3:∀ (f:FV) w,f 0=d.v→f 3=iV 0→f 4=iV 0→f 20=d.v→f 21=iV (t.length:Int)→f 22=iV l→St w0 ros rs w→.inl ()=e5→e3 (.exit 2) (fr 89 f) w:=by
    intro f w q4 q5 q6 q7 q8 q9 b ho
    subst ho
    refine e4 _ _ _ (d9 _ _ _ (p7 _ _ (wR (yY (yadd (eh q9) rfl) (Ym (iV (wa .i64 l 1)) e0 (wN ?_))))))
    cases m
    exact p2 _ _ _ rfl ⟨_,_,rfl,rfl,q4,q5,q6,q7,q8,rfl,b⟩
   have r0:∀ (f:FV) w,f 2=iV 0→f 3=iV 0→f 4=iV 0→f 5=iV 80→St w0 ros rs w→.inr ()=e5→e3 .ret (fr 89 f) w:=by
    intro f w r1 r2 r4 r5 b ho
    subst ho
    refine e4 _ _ _ (d9 _ _ _ (p8 _ _ _ rfl ?_))
    cases m
    exact d8 _ _ _ _ rfl rfl (o7 _ _ r1 r2 r4 r5 b (d7 _ rfl))
   refine loopQ (fun s a w=>∃ (z:Int) (f:FV),z=s∧a=fr 89 f∧f 0=d.v∧f 3=iV 0∧f 4=iV 0∧f 6=iV l∧f 20=d.v∧f 21=iV (t.length:Int)∧f 22=iV l∧f 27=J.v∧f 28=iV (e1.length:Int)∧f 29=iV z∧St w0 (imm (rP rB (rS (rI .u32))) J.v e1::ros) rs w) q2 ⟨_,_,rfl,rfl,d2,d3,d4,rfl,d5,d6,I,rfl,rfl,rfl,(b.facts (allC F0 (allT (allT allI))))⟩ ?_
   rintro _ _ w v3 ⟨z,f,rfl,rfl,a5,e6,e7,e8,e9,f0,f1,f2,f3,K,b⟩ g f4 v4 r6 f5
   refine sR fun _ r7=>yY (ylss (eh K) (eh f3)) (wK r7 (seqQ fun v5 r8 r9=>?_))
   refine cIf e0 g (fun s0 g=>?_) fun s0 g=>?_
   ·refine wp_skip (r8 _ _ (seqQ fun v6 s1 s2=>blockQ fun _ f6=>sR fun _ s3=>Ym (iV z) (eh K) (bE g fun L f7 g=>yY (yIa SL_32 (eh f2) (eh K) b (rdI F0) f7) ?_)))
    obtain ⟨v7,v8,b⟩:=iLd b F0 f7
    obtain ⟨v9,w1,rfl,b⟩:=b.eltP
    obtain ⟨rfl,b⟩:=b.eltB
    obtain ⟨N,rfl,b⟩:=b.eltS
    refine yY (yCtn (cs:=[.bool L.1,N.v]) ST_31 rfl e0 b F1) (yBb (rAl b ZT_31) fun w2 w b=>Ya (iV z) e0 (yT (r_stbn (vals':=[.bool L.1,N.v]) (us:=[.bool L.1,N.v]) b ST_31 e0 e0 rfl rfl (one_of rfl) rfl) fun w b=>wK s3 (sQ fun _ s4=>bE g fun w3 f8 g=>bE g fun s5 f9 g=>bE g fun w4 s6 g=>dR [0,0,0,6,14,0,62,126,255,511] [8] 1 folM ?_)))
    replace b:=b.drew
    refine Dn [0,1,2,3,4,5,6,7] [] [8] (yR rfl (lbs_ [.bool L.1,N.v] ST_31 e0 b R0) (yR rfl (m_ d.v (eh a5)) (yR rfl (m_ (iV z) e0) (yR rfl (yIa SL_22 e0 e0 b (rdI (F_3 n)) f8) ?_))))
    obtain ⟨w5,b⟩:=iLs b (F_3 n) f8
    refine yR rfl (yCt O_32 e0 b F1 rfl) (yR rfl (m_ (iV l) (eh e8)) (yR rfl (yIa SL_32 e0 e0 b (rdI F0) f9) ?_))
    obtain ⟨w6,w7,b⟩:=iLd b F0 f9
    obtain ⟨w8,w9,rfl,b⟩:=b.eltP
    obtain ⟨rfl,b⟩:=b.eltB
    obtain ⟨s7,rfl,b⟩:=b.eltS
    refine yR rfl (yCtn (cs:=[.bool s5.1,s7.v]) ST_31 rfl e0 b F1) (Rn QSn ?_)
    refine Lc1 rfl ?_
    refine Lk wn (yCall FN_47 (a2 e0 e0)) (integer_Cmp_ok s6 F4 F0 b) ?_
    rintro _ w ⟨rfl,b⟩
    refine ⟨_,rfl,?_⟩
    refine Dz [9] [] (yR rfl (yneq e0 rfl) (Rn QSn (s4 _ _ ?_)))
    rcases iteS g with ⟨a6,g⟩ | ⟨a6,g⟩
    ·refine condF e0 (nF (dT a6)) (wp_skip (f6 _ _ _ (s1 _ _ (wR (yY (yadd (eh K) rfl) (Ym (iV (wa .i64 z 1)) e0 (wN ?_)))))))
     cases g
     exact r6 _ _ _ rfl ⟨_,_,rfl,rfl,a5,e6,e7,e8,e9,f0,f1,f2,f3,rfl,((b.k10).facts (allC F6 (allT (allT (allT (allT (allT (allT (allT allI)))))))))⟩
    ·refine condT e0 (nT (dF a6)) (sR fun _ s8=>Ya (iV 0) rfl (Ya (iV 0) rfl (Ya (iV 0) rfl (Ya (iV 80) rfl (wK s8 (wp_ret (f6 _ _ _ (s2 _ _ _ rfl ?_))))))))
     cases g
     exact f5 _ _ _ _ rfl rfl (r0 _ _ rfl rfl rfl rfl ((b.k10).facts (allT (allT (allT (allT (allT (allT (allT allI)))))))) (f4 _ rfl))
   ·refine wp_exit (r9 _ _ _ rfl ?_)
    cases g
    exact f5 _ _ _ _ rfl rfl (q3 _ _ a5 e6 e7 e9 f0 f1 (b.facts (allT allI)) (f4 _ rfl))
  ·refine wp_exit (p5 _ _ _ rfl ?_)
   cases m
   exact d8 _ _ _ _ rfl rfl (h0 _ _ d2 d3 d4 b (d7 _ rfl))
 ·refine condT e0 (nT (dF R)) (sR fun _ s9=>Ym (iV D) e0 (Ya (iV 0) rfl (Ya (iV 0) rfl (Ya (iV 0) rfl (Ya (iV D) e0 (wK s9 (wp_ret (g4 _ _ _ rfl ?_))))))))
  cases c
  exact O _ _ _ (fin4r Tryz.results14 ⟨rfl,rfl⟩ ⟨rfl,rfl⟩ ⟨rfl,rfl⟩ ⟨rfl,rfl⟩ ⟨rfl,b⟩)
theorem slices_Reverse_string_ok {l:List ByteArray} {d:Hdr} {out:(List ByteArray)} (m:slices_Reverse_string l=some out) (b:St w0 ros (row 9 rG d.v l::rs) w):
  Calls Tryz.prog 97 #[d.v] w (fun e w=>e=.returned (.tuple #[])∧St w0 ros (row 9 rG d.v out::rs) w):=by
 refine enterQ Tryz.func97 rfl Tryz.ntmps97 rfl fun Q u=>sR fun _ x=>Ym d.v e0 (yY (yLen SL_110 e0 b rO0) (yY (ysub e0 rfl) (Ya (iV 0) rfl (Ya (iV (ws .i64 (l.length:Int) 1)) e0 (wK x (blockQ fun y z=>bE m fun A B m=>?_))))))
 have C:∀ (n:List ByteArray) (f:FV) w,St w0 ros (row 9 rG d.v n::rs) w→n=A→y (.exit 0) (fr 28 f) w:=by
  intro n f w b ho
  subst ho
  refine z _ _ _ ?_
  cases m
  exact u _ _ _ (fin0n Tryz.results97 ⟨rfl,b⟩)
 refine loopQ (fun s a w=>∃ (o:List ByteArray) (h g:Int) (f:FV),(o,h,g)=s∧a=fr 28 f∧f 0=d.v∧f 2=iV h∧f 3=iV g∧St w0 ros (row 9 rG d.v o::rs) w) B ⟨_,_,_,_,rfl,rfl,rfl,rfl,rfl,b⟩ ?_
 rintro _ _ w R ⟨o,h,g,f,rfl,rfl,i,k,j,b⟩ c D S E F
 refine seqQ fun T G H=>sR fun _ I=>Ym (iV h) (eh k) (Ym (iV g) (eh j) (yY (ylss e0 e0) (wK I ?_)))
 refine cIf e0 c (fun J c=>?_) fun J c=>?_
 ·refine wp_skip (G _ _ (sQ fun _ K=>blockQ fun _ L=>bE c fun N p c=>bE c fun O q c=>bE c fun U r c=>bE c fun V t c=>dR [0,0,0,0,0,0,48,112,0,0,768,1792,4083,8179,16383,32767] [13,15] 2 folM ?_))
  replace b:=b.drew
  refine Dn [0,1,2,3,4,5,6,7,8,9,10,11,12] [] [13] (yR rfl (m_ d.v (eh i)) (yR rfl (m_ (iV h) (eh k)) (yR rfl (m_ d.v (eh i)) (yR rfl (m_ (iV g) (eh j)) (yR rfl (m_ d.v (eh i)) (yR rfl (m_ (iV g) (eh j)) (yR rfl (yIa SL_110 e0 e0 b rO0 p) (yR rfl (ySt O_9 e0 b rO0 p) (yR rfl (m_ d.v (eh i)) (yR rfl (m_ (iV h) (eh k)) (yR rfl (yIa SL_110 e0 e0 b rO0 q) (yR rfl (ySt O_9 e0 b rO0 q) (yR rfl (yIs SL_110 e0 e0 b rO0 r) ?_)))))))))))))
  refine Rn QSn ?_
  refine Lc1 rfl ?_
  refine LT wn (r_sti (cs:=[.string N]) b O_9 rfl e0 e0 rfl mkG r) fun w b=>Dn [14] [2,3] [15] (yR rfl (yIs SL_110 e0 e0 b rO0 t) (Rn (yS rfl (m_ d.v (eh i)) (yS rfl (m_ (iV g) (eh j)) QSn)) ?_))
  refine Lc1 rfl ?_
  refine LT wn (r_sti (cs:=[.string O]) b O_9 rfl e0 e0 rfl mkG t) fun w b=>Dz [] [] (Rn QSn (L _ _ _ (K _ _ (wR (Ym (iV h) (eh k) (yY (yadd e0 rfl) (Ym (iV g) (eh j) (yY (ysub e0 rfl) (Ya (iV (wa .i64 h 1)) e0 (Ya (iV (ws .i64 g 1)) e0 (wN ?_)))))))))))
  cases c
  exact E _ _ _ rfl ⟨_,_,_,_,rfl,rfl,i,rfl,rfl,b⟩
 ·refine wp_exit (H _ _ _ rfl ?_)
  cases c
  exact F _ _ _ _ rfl rfl (C _ _ _ b (D _ rfl))
theorem integer_Format_ok {h:Bool} {A:LI} {i:Hdr} {out:ByteArray} (c:integer_Format h A=some out) (H:imm (rI .u32) i.v A∈ros) (b:St w0 ros rs w):
  Calls Tryz.prog 45 #[.agg #[.bool h,i.v]] w (fun e w=>e=.returned (.string out)∧St w0 ros rs w):=by
 refine enterQ Tryz.func45 rfl Tryz.ntmps45 rfl fun Q B=>sR fun _ I=>yBb (r_box (vals:=[.bool h,i.v]) b e0 rfl) fun k w b=>Ya (.string (⟨#[]⟩:ByteArray)) rfl (wK I (sR fun _ J=>yY (yFb FL_31_1 e0) (yY (lb_ i.v O_29 e0 b R0) (bE c fun e3 K c=>yC (yCall FN_73 (a1 e0)) (integer_trim_ok K H b) ?_))))
 rintro _ w ⟨e4,rfl,b⟩
 refine ⟨_,rfl,?_⟩
 refine bE c fun e5 L c=>yC (yCall FN_92 (a1 e0)) (slices_Clone_uint32_ok L F0 b) ?_
 rintro _ w ⟨N,rfl,b⟩
 refine ⟨_,rfl,?_⟩
 refine Ya N.v e0 (wK J (sR fun _ O=>Ya hnil.v rfl (wK O (sQ fun _ R=>blockQ fun S T=>bE c fun U V c=>?_))))
 have W:∀ (u:List ByteArray) (p:Hdr) (f:FV) w,f 1=(pB k)→f 4=p.v→St w0 ros (box k 31 [.bool h,i.v]::row 9 rG p.v u::rs) w→u=U→S (.exit 0) (fr 49 f) w:=by
  intro u p f w X x b ho
  subst ho
  refine T _ _ _ (R _ _ (seqQ fun e6 Z a0=>sR fun _ a3=>Ym p.v (eh x) (yY (yLen SL_110 e0 b rO1) (yY (yeql e0 rfl) (wK a3 ?_)))))
  refine cIf e0 c (fun a4 c=>?_) fun a4 c=>?_
  ·refine sR fun _ a5=>Ya (.string (⟨#[48]⟩:ByteArray)) rfl (wK a5 (wp_ret (a0 _ _ _ rfl ?_)))
   cases c
   exact B _ _ _ (fin1r Tryz.results45 ⟨rfl,rfl⟩ ⟨rfl,(b.k19)⟩)
  ·refine wp_skip (Z _ _ (sQ fun a6 a7=>sR fun _ a8=>yY (yFb FL_31_0 (eh X)) (yY (lb_ (.bool h) O_4 e0 b R0) (wK a8 ?_))))
   have C:∀ (y:List ByteArray) (q:Hdr) (f:FV) w,f 4=q.v→St w0 ros (row 9 rG q.v y::rs) w→integer_Format_j4 y=some out→a6 .normal (fr 49 f) w:=by
    intro y q f w D b c
    refine a7 _ _ (sR fun _ a9=>Ym q.v (eh D) (bE c fun e7 b0 c=>yC (yCall FN_97 (a1 e0)) (slices_Reverse_string_ok b0 b) ?_))
    rintro _ w ⟨rfl,b⟩
    refine ⟨_,rfl,?_⟩
    refine wK a9 (sR fun _ b1=>Ym q.v (eh D) (bE c fun b2 b3 c=>?_))
    replace b:=b.fz
    refine yC (yCall FN_98 (a2 e0 rfl)) (joinG_ok b3 F0 b) ?_
    rintro _ w ⟨rfl,b⟩
    refine ⟨_,rfl,?_⟩
    refine Ya (.string b2) e0 (wK b1 (wp_ret ?_))
    cases c
    exact B _ _ _ (fin1r Tryz.results45 ⟨rfl,rfl⟩ ⟨rfl,(b.facts (allT allI))⟩)
   refine cB e0 c (fun b5 c=>?_) fun b5 c=>?_
   ·exact wR (Ym p.v (eh x) (yH (rLt (n:=1) (l:=[(⟨#[45]⟩:ByteArray)]) b SL_110 [.string (⟨#[45]⟩:ByteArray)] (bp1 rfl) rfl rfl (mks1 (cs:=[.string (⟨#[45]⟩:ByteArray)]) rfl mkG mks0)) fun e8 w b=>bE c fun e9 b6 c=>yH (rAp (b.k1h) SL_110 e0 e0 rO1 b6) fun b7 w b=>Ya b7.v e0 (wN (C _ _ _ _ rfl (b.k1v) c))))
   ·exact wp_skip (C _ _ _ _ x (b.k20) c)
 replace b:=b.fz.rowNh 9 rG
 refine loopQ (fun s a w=>∃ (z:LI) (r:List ByteArray) (f:FV) (t m:Hdr),(z,r)=s∧a=fr 49 f∧f 1=(pB k)∧f 3=t.v∧f 4=m.v∧St w0 (imm (rI .u32) t.v z::ros) (box k 31 [.bool h,i.v]::row 9 rG m.v r::rs) w) V ⟨_,_,_,_,_,rfl,rfl,rfl,rfl,rfl,((b.k17).facts (allC F0 (allT (allT allI))))⟩ ?_
 rintro _ _ w b8 ⟨z,r,f,t,m,rfl,rfl,E,F,G,b⟩ d b9 f0 c0 c1
 refine seqQ fun f1 c2 c3=>sR fun _ c4=>Ym t.v (eh F) (yY (yLen SL_29 e0 b (rdI F0)) (yY (ygtr e0 rfl) (wK c4 ?_)))
 refine cIf e0 d (fun c5 d=>?_) fun c5 d=>?_
 ·refine wp_skip (c2 _ _ (blockQ fun _ c6=>sR fun _ c7=>Ym t.v (eh F) (bE d fun o c8 d=>yC (yCall FN_94 (a2 e0 rfl)) (integer_short_ok c8 F0 b) ?_)))
  rintro _ w ⟨g,rfl,b⟩
  refine ⟨_,rfl,?_⟩
  refine Ym (.tuple #[g.v,.int .u32 o.2]) e0 (yY (x_ g.v e0) (yY (x_ (.int .u32 o.2) e0) (Ya g.v e0 (Ya (.int .u32 o.2) e0 (wK c7 (sR fun _ c9=>Ym (.int .u32 o.2) e0 (yY (ycv (k':=.i64) (by kernel_rfl) (by kernel_rfl) e0) (bE d fun j d0 d=>yC (yCall FN_95 (a1 e0)) (itoaG_ok d0 b) ?_))))))))
  rintro _ w ⟨rfl,b⟩
  refine ⟨_,rfl,?_⟩
  refine Ya (.string j) e0 (wK c9 (sQ fun d1 d2=>sR fun _ d3=>Ym g.v e0 (yY (yLen SL_29 e0 b (rdI F0)) (yY (ygtr e0 rfl) (wK d3 ?_)))))
  have d4:∀ (f:FV) w,f 1=(pB k)→f 4=m.v→f 5=g.v→f 7=.string j→St w0 (imm (rI .u32) g.v o.1::ros) (box k 31 [.bool h,i.v]::row 9 rG m.v r::rs) w→integer_Format_j5 r j o=some b8→d1 .normal (fr 49 f) w:=by
   intro f w d5 d6 d7 d8 b c
   refine d2 _ _ (wR (Ym m.v (eh d6) (Ym (.string j) (eh d8) (yH (rLt (n:=1) (l:=[j]) b SL_110 [.string j] (bp1 e0) rfl rfl (mks1 (cs:=[.string j]) rfl mkG mks0)) fun f2 w b=>bE c fun f3 d9 c=>yH (rAp (b.k1h) SL_110 e0 e0 rO1 d9) fun e1 w b=>Ym g.v (eh d7) (Ya e1.v e0 (Ya g.v e0 (wN (c6 _ _ _ ?_))))))))
   cases c
   exact c0 _ _ _ rfl ⟨_,_,_,_,_,rfl,rfl,d5,rfl,rfl,(b.k3d)⟩
  refine cIf e0 d (fun e2 d=>?_) fun e2 d=>?_
  ·cases d
  ·exact wp_skip (d4 _ _ E G rfl rfl (b.facts (allC F0 (allT (allT allI)))) d)
 ·refine wp_exit (c3 _ _ _ rfl ?_)
  cases d
  exact c1 _ _ _ _ rfl rfl (W _ _ _ _ E G (b.facts (allT allI)) (b9 _ rfl))
theorem sparselaw08_awake_ok {out:Bool} (c:sparselaw08_awake=some out) (a:St w0 ros rs w):
  Calls Tryz.prog 10 #[] w (fun e w=>e=.returned (.bool out)∧St w0 ros rs w):=by
 refine enterQ Tryz.func10 rfl Tryz.ntmps10 rfl fun Q d7=>sR fun _ d8=>Ya (.bool false) rfl (wK d8 (sR fun _ d9=>bE c fun y e1 c=>yC (yCall FN_50 (a1 rfl)) (sparselaw08_num_ok e1 a) ?_))
 rintro _ w ⟨K,rfl,a⟩
 refine ⟨_,rfl,?_⟩
 refine bE c fun z e2 c=>yC (yCall FN_50 (a1 rfl)) (sparselaw08_num_ok e2 a) ?_
 rintro _ w ⟨L,rfl,a⟩
 refine ⟨_,rfl,?_⟩
 refine yH (rLt (n:=2) (l:=[(y.1,y.2),(z.1,z.2)]) (((a.k17).fz).fz) SL_32 [.agg #[.bool y.1,K.v],.agg #[.bool z.1,L.v]] (bp2 e0 e0) rfl rfl (mks1 (cs:=[.bool y.1,K.v]) rfl (mkP mkB (mkS F1)) (mks1 (cs:=[.bool z.1,L.v]) rfl (mkP mkB (mkS F0)) mks0))) fun N w a=>bE c fun A e3 c=>yC (yCall FN_50 (a1 rfl)) (sparselaw08_num_ok e3 a) ?_
 rintro _ w ⟨O,rfl,a⟩
 refine ⟨_,rfl,?_⟩
 refine bE c fun B e4 c=>yC (yCall FN_50 (a1 rfl)) (sparselaw08_num_ok e4 a) ?_
 rintro _ w ⟨R,rfl,a⟩
 refine ⟨_,rfl,?_⟩
 refine yH (rLt (n:=2) (l:=[(A.1,A.2),(B.1,B.2)]) (((a.k17).fz).fz) SL_32 [.agg #[.bool A.1,O.v],.agg #[.bool B.1,R.v]] (bp2 e0 e0) rfl rfl (mks1 (cs:=[.bool A.1,O.v]) rfl (mkP mkB (mkS F1)) (mks1 (cs:=[.bool B.1,R.v]) rfl (mkP mkB (mkS F0)) mks0))) fun S w a=>yH (rLt (n:=2) (l:=[[(y.1,y.2),(z.1,z.2)],[(A.1,A.2),(B.1,B.2)]]) (((a.k17).fz).fz) SL_22 [N.v,S.v] (bp2 e0 e0) rfl rfl (mks1 (cs:=[N.v]) rfl (mkS F1) (mks1 (cs:=[S.v]) rfl (mkS F0) mks0))) fun T w a=>Ya T.v e0 (wK d9 (sR fun _ e5=>Ym T.v e0 (bE c fun H e6 c=>yC (yCall FN_50 (a1 rfl)) (sparselaw08_num_ok e6 a) ?_)))
 rintro _ w ⟨U,rfl,a⟩
 refine ⟨_,rfl,?_⟩
 refine bE c fun I e7 c=>yC (yCall FN_50 (a1 rfl)) (sparselaw08_num_ok e7 a) ?_
 rintro _ w ⟨V,rfl,a⟩
 refine ⟨_,rfl,?_⟩
 refine yH (rLt (n:=2) (l:=[(H.1,H.2),(I.1,I.2)]) (((a.k17).fz).fz) SL_32 [.agg #[.bool H.1,U.v],.agg #[.bool I.1,V.v]] (bp2 e0 e0) rfl rfl (mks1 (cs:=[.bool H.1,U.v]) rfl (mkP mkB (mkS F1)) (mks1 (cs:=[.bool I.1,V.v]) rfl (mkP mkB (mkS F0)) mks0))) fun i5 w a=>bE c fun d e8 c=>?_
 replace a:=((a.k17).fz).fz
 refine yC (yCall FN_19 (a2 e0 e0)) (exact_Solve_ok e8 F1 F0 a) ?_
 rintro _ w ⟨m,j,rfl,a⟩
 refine ⟨_,rfl,?_⟩
 refine Ym (.tuple #[m.v,.agg #[.bool d.2.1,j.v],iV d.2.2.2]) e0 (yY (x_ m.v e0) (yY (x_ (.agg #[.bool d.2.1,j.v]) e0) (yY (x_ (iV d.2.2.2) e0) (yBb (rAl a ZT_31) fun C w a=>Ya m.v e0 (yT (r_stbn (vals':=[.bool d.2.1,j.v]) (us:=[.bool d.2.1,j.v]) a ST_31 e0 e0 rfl rfl (one_of rfl) rfl) fun w a=>Ya (iV d.2.2.2) e0 (wK e5 (sR fun _ e9=>?_)))))))
 refine bE c fun D f0 c=>yC (yCall FN_50 (a1 rfl)) (sparselaw08_num_ok f0 a) ?_
 rintro _ w ⟨W,rfl,a⟩
 refine ⟨_,rfl,?_⟩
 refine bE c fun E f1 c=>yC (yCall FN_50 (a1 rfl)) (sparselaw08_num_ok f1 a) ?_
 rintro _ w ⟨X,rfl,a⟩
 refine ⟨_,rfl,?_⟩
 refine yH (rLt (n:=2) (l:=[(D.1,D.2),(E.1,E.2)]) (((a.k17).fz).fz) SL_32 [.agg #[.bool D.1,W.v],.agg #[.bool E.1,X.v]] (bp2 e0 e0) rfl rfl (mks1 (cs:=[.bool D.1,W.v]) rfl (mkP mkB (mkS F1)) (mks1 (cs:=[.bool E.1,X.v]) rfl (mkP mkB (mkS F0)) mks0))) fun Z w a=>bE c fun F f2 c=>yC (yCall FN_50 (a1 rfl)) (sparselaw08_num_ok f2 a) ?_
 rintro _ w ⟨a0,rfl,a⟩
 refine ⟨_,rfl,?_⟩
 refine bE c fun G f3 c=>yC (yCall FN_50 (a1 rfl)) (sparselaw08_num_ok f3 a) ?_
 rintro _ w ⟨a3,rfl,a⟩
 refine ⟨_,rfl,?_⟩
 refine yH (rLt (n:=2) (l:=[(F.1,F.2),(G.1,G.2)]) (((a.k17).fz).fz) SL_32 [.agg #[.bool F.1,a0.v],.agg #[.bool G.1,a3.v]] (bp2 e0 e0) rfl rfl (mks1 (cs:=[.bool F.1,a0.v]) rfl (mkP mkB (mkS F1)) (mks1 (cs:=[.bool G.1,a3.v]) rfl (mkP mkB (mkS F0)) mks0))) fun a4 w a=>yH (rLt (n:=2) (l:=[[(D.1,D.2),(E.1,E.2)],[(F.1,F.2),(G.1,G.2)]]) (((a.k17).fz).fz) SL_22 [Z.v,a4.v] (bp2 e0 e0) rfl rfl (mks1 (cs:=[Z.v]) rfl (mkS F1) (mks1 (cs:=[a4.v]) rfl (mkS F0) mks0))) fun i6 w a=>bE c fun b f4 c=>?_
 replace a:=a.fz
 refine yC (yCall FN_14 (a1 e0)) (exact_Inertia_ok f4 F0 a) ?_
 rintro _ w ⟨rfl,a⟩
 refine ⟨_,rfl,?_⟩
 refine Ym (.tuple #[iV b.1,iV b.2.1,iV b.2.2.1,iV b.2.2.2]) e0 (yY (x_ (iV b.1) e0) (yY (x_ (iV b.2.1) e0) (yY (x_ (iV b.2.2.1) e0) (yY (x_ (iV b.2.2.2) e0) (Ya (iV b.1) e0 (Ya (iV b.2.1) e0 (Ya (iV b.2.2.1) e0 (Ya (iV b.2.2.2) e0 (wK e9 (sR fun _ f5=>Ym (iV d.2.2.2) e0 ?_))))))))))
 refine yY (yeql e0 rfl) (Ym (.bool (decide (d.2.2.2=0))) e0 ?_)
 refine joinW 4 (fun f w=>f 2=m.v∧f 3=(pB C)∧f 5=iV b.1∧f 6=iV b.2.1∧f 7=iV b.2.2.1∧f 8=iV b.2.2.2∧f 44=.bool ((decide (d.2.2.2=0)) && (decide ((d.1.length:Int)=2)))∧St w0 (imm (rI .u32) j.v d.2.2.1::ros) (row 31 (rP rB (rS (rI .u32))) m.v d.1::box C 31 [.bool d.2.1,j.v]::rs) w) (fun a5=>?_) ?_
 ·rcases Bool.eq_false_or_eq_true (decide (d.2.2.2=0)) with k | k
  ·exact yG k (m_ m.v e0) (yG k (yLen SL_32 e0 a rO1) (yG k (yeql e0 rfl) (yY (pt_ (.bool (decide ((d.1.length:Int)=2))) e0 k e0) (a5 _ _ ⟨rfl,rfl,rfl,rfl,rfl,rfl,(congrArg Value.bool (andT k)),((a.k17).facts (allC F7 (allT (allT (allT (allT (allT (allT (allT (allT (allT (allT (allT (allT (allT (allT (allT (allT (allT (allT allI))))))))))))))))))))⟩))))
  ·exact gN k (gN k (gN k (yY (pf_ (.bool false) e0 k rfl) (a5 _ _ ⟨rfl,rfl,rfl,rfl,rfl,rfl,(congrArg Value.bool (andF k)),((a.k17).facts (allC F7 (allT (allT (allT (allT (allT (allT (allT (allT (allT (allT (allT (allT (allT (allT (allT (allT (allT (allT allI))))))))))))))))))))⟩))))
 rintro f w ⟨J,a6,a7,a8,a9,b0,f6,a⟩
 refine Ym (.bool ((decide (d.2.2.2=0)) && (decide ((d.1.length:Int)=2)))) (eh f6) (bE c fun b1 o c=>?_)
 refine joinW 6 (fun f w=>f 2=m.v∧f 3=(pB C)∧f 5=iV b.1∧f 6=iV b.2.1∧f 7=iV b.2.2.1∧f 8=iV b.2.2.2∧f 51=.bool b1∧St w0 (imm (rI .u32) j.v d.2.2.1::ros) (row 31 (rP rB (rS (rI .u32))) m.v d.1::box C 31 [.bool d.2.1,j.v]::rs) w) (fun b2=>?_) ?_
 ·rcases iteS o with ⟨h,o⟩ | ⟨h,o⟩
  ·refine yG h (m_ m.v (eh J)) (bE o fun f7 b3 o=>yG h (yIa SL_32 e0 rfl a rO0 b3) ?_)
   obtain ⟨i7,i8,cc46,a⟩:=a.ld rO0 b3
   replace a:=a.eltP
   obtain ⟨i9,j0,rfl,a⟩:=a
   replace a:=a.eltB
   obtain ⟨rfl,a⟩:=a
   replace a:=a.eltS
   obtain ⟨f8,rfl,a⟩:=a
   refine yG h (yCn (cs:=[.bool f7.1,f8.v]) ST_31 rfl e0 cc46) (bE o fun f9 g0 o=>Yc (wG h) rfl (yCall FN_45 (a1 e0)) (integer_Format_ok g0 F0 a) ?_)
   rintro _ w ⟨rfl,a⟩
   refine ⟨_,rfl,?_⟩
   refine yG h (yegs e0 rfl) (yY (pt_ (.bool (decide (f9=(⟨#[51]⟩:ByteArray)))) e0 h e0) ?_)
   cases o
   exact b2 _ _ ⟨J,a6,a7,a8,a9,b0,rfl,(a.facts (allC F1 (allT (allT allI))))⟩
  ·refine gN (bfalse h) (gN (bfalse h) (gN (bfalse h) (gN (bfalse h) (gN (bfalse h) (yY (pf_ (.bool false) e0 (bfalse h) rfl) ?_)))))
   cases o
   exact b2 _ _ ⟨J,a6,a7,a8,a9,b0,rfl,a⟩
 rintro f w ⟨g1,b4,b5,b6,b7,b8,g2,a⟩
 refine Ym (.bool b1) (eh g2) (bE c fun b9 p c=>?_)
 refine joinW 6 (fun f w=>f 3=(pB C)∧f 5=iV b.1∧f 6=iV b.2.1∧f 7=iV b.2.2.1∧f 8=iV b.2.2.2∧f 58=.bool b9∧St w0 (imm (rI .u32) j.v d.2.2.1::ros) (box C 31 [.bool d.2.1,j.v]::rs) w) (fun c0=>?_) ?_
 ·rcases iteS p with ⟨i,p⟩ | ⟨i,p⟩
  ·refine yG i (m_ m.v (eh g1)) (bE p fun g3 c1 p=>yG i (yIa SL_32 e0 rfl a rO0 c1) ?_)
   obtain ⟨j9,k0,cc61,a⟩:=a.ld rO0 c1
   replace a:=a.eltP
   obtain ⟨k6,k7,rfl,a⟩:=a
   replace a:=a.eltB
   obtain ⟨rfl,a⟩:=a
   replace a:=a.eltS
   obtain ⟨g4,rfl,a⟩:=a
   refine yG i (yCn (cs:=[.bool g3.1,g4.v]) ST_31 rfl e0 cc61) (bE p fun g5 g6 p=>Yc (wG i) rfl (yCall FN_45 (a1 e0)) (integer_Format_ok g6 F0 a) ?_)
   rintro _ w ⟨rfl,a⟩
   refine ⟨_,rfl,?_⟩
   refine yG i (yegs e0 rfl) (yY (pt_ (.bool (decide (g5=(⟨#[51]⟩:ByteArray)))) e0 i e0) ?_)
   cases p
   exact c0 _ _ ⟨b4,b5,b6,b7,b8,rfl,((a.k20).facts (allC F1 (allT (allT allI))))⟩
  ·refine gN (bfalse i) (gN (bfalse i) (gN (bfalse i) (gN (bfalse i) (gN (bfalse i) (yY (pf_ (.bool false) e0 (bfalse i) rfl) ?_)))))
   cases p
   exact c0 _ _ ⟨b4,b5,b6,b7,b8,rfl,(a.k20)⟩
 rintro f w ⟨g7,c2,c3,c4,c5,g8,a⟩
 refine Ym (.bool b9) (eh g8) (bE c fun g x c=>?_)
 refine joinW 4 (fun f w=>f 5=iV b.1∧f 6=iV b.2.1∧f 7=iV b.2.2.1∧f 8=iV b.2.2.2∧f 63=.bool g∧St w0 ros rs w) (fun c6=>?_) ?_
 ·rcases iteS x with ⟨q,x⟩ | ⟨q,x⟩
  ·refine yG q (lbs_ [.bool d.2.1,j.v] ST_31 (eh g7) a R0) (bE x fun g9 h0 x=>Yc (wG q) rfl (yCall FN_45 (a1 e0)) (integer_Format_ok h0 F0 a) ?_)
   rintro _ w ⟨rfl,a⟩
   refine ⟨_,rfl,?_⟩
   refine yG q (yegs e0 rfl) (yY (pt_ (.bool (decide (g9=(⟨#[51]⟩:ByteArray)))) e0 q e0) ?_)
   cases x
   exact c6 _ _ ⟨c2,c3,c4,c5,rfl,((a.k10).facts (allT allI))⟩
  ·refine gN (bfalse q) (gN (bfalse q) (gN (bfalse q) (yY (pf_ (.bool false) e0 (bfalse q) rfl) ?_)))
   cases x
   exact c6 _ _ ⟨c2,c3,c4,c5,rfl,((a.k10).facts (allT allI))⟩
 rintro f w ⟨c7,c8,c9,h1,h3,a⟩
 refine Ym (.bool g) (eh h3) ?_
 refine joinW 3 (fun f w=>f 5=iV b.1∧f 6=iV b.2.1∧f 7=iV b.2.2.1∧f 67=.bool (g && (decide (b.2.2.2=0)))∧St w0 ros rs w) (fun d0=>?_) ?_
 ·rcases Bool.eq_false_or_eq_true g with r | r
  ·exact yG r (m_ (iV b.2.2.2) (eh h1)) (yG r (yeql e0 rfl) (yY (pt_ (.bool (decide (b.2.2.2=0))) e0 r e0) (d0 _ _ ⟨c7,c8,c9,(congrArg Value.bool (andT r)),a⟩)))
  ·exact gN r (gN r (yY (pf_ (.bool false) e0 r rfl) (d0 _ _ ⟨c7,c8,c9,(congrArg Value.bool (andF r)),a⟩)))
 rintro f w ⟨h6,d1,d2,h8,a⟩
 refine Ym (.bool (g && (decide (b.2.2.2=0)))) (eh h8) ?_
 refine joinW 3 (fun f w=>f 6=iV b.2.1∧f 7=iV b.2.2.1∧f 71=.bool ((g && (decide (b.2.2.2=0))) && (decide (b.1=1)))∧St w0 ros rs w) (fun d3=>?_) ?_
 ·rcases Bool.eq_false_or_eq_true (g && (decide (b.2.2.2=0))) with s | s
  ·exact yG s (m_ (iV b.1) (eh h6)) (yG s (yeql e0 rfl) (yY (pt_ (.bool (decide (b.1=1))) e0 s e0) (d3 _ _ ⟨d1,d2,(congrArg Value.bool (andT s)),a⟩)))
  ·exact gN s (gN s (yY (pf_ (.bool false) e0 s rfl) (d3 _ _ ⟨d1,d2,(congrArg Value.bool (andF s)),a⟩)))
 rintro f w ⟨i0,d4,i1,a⟩
 refine Ym (.bool ((g && (decide (b.2.2.2=0))) && (decide (b.1=1)))) (eh i1) ?_
 refine joinW 3 (fun f w=>f 7=iV b.2.2.1∧f 75=.bool (((g && (decide (b.2.2.2=0))) && (decide (b.1=1))) && (decide (b.2.1=0)))∧St w0 ros rs w) (fun d5=>?_) ?_
 ·rcases Bool.eq_false_or_eq_true ((g && (decide (b.2.2.2=0))) && (decide (b.1=1))) with t | t
  ·exact yG t (m_ (iV b.2.1) (eh i0)) (yG t (yeql e0 rfl) (yY (pt_ (.bool (decide (b.2.1=0))) e0 t e0) (d5 _ _ ⟨d4,(congrArg Value.bool (andT t)),a⟩)))
  ·exact gN t (gN t (yY (pf_ (.bool false) e0 t rfl) (d5 _ _ ⟨d4,(congrArg Value.bool (andF t)),a⟩)))
 rintro f w ⟨i2,i3,a⟩
 refine Ym (.bool (((g && (decide (b.2.2.2=0))) && (decide (b.1=1))) && (decide (b.2.1=0)))) (eh i3) ?_
 refine joinW 3 (fun f w=>f 79=.bool ((((g && (decide (b.2.2.2=0))) && (decide (b.1=1))) && (decide (b.2.1=0))) && (decide (b.2.2.1=1)))∧St w0 ros rs w) (fun d6=>?_) ?_
 ·rcases Bool.eq_false_or_eq_true (((g && (decide (b.2.2.2=0))) && (decide (b.1=1))) && (decide (b.2.1=0))) with u | u
  ·exact yG u (m_ (iV b.2.2.1) (eh i2)) (yG u (yeql e0 rfl) (yY (pt_ (.bool (decide (b.2.2.1=1))) e0 u e0) (d6 _ _ ⟨(congrArg Value.bool (andT u)),a⟩)))
  ·exact gN u (gN u (yY (pf_ (.bool false) e0 u rfl) (d6 _ _ ⟨(congrArg Value.bool (andF u)),a⟩)))
 rintro f w ⟨i4,a⟩
 refine Ya (.bool ((((g && (decide (b.2.2.2=0))) && (decide (b.1=1))) && (decide (b.2.1=0))) && (decide (b.2.2.1=1)))) (eh i4) (wK f5 (wp_ret ?_))
 cases c
 exact d7 _ _ _ (fin1r Tryz.results10 ⟨rfl,rfl⟩ ⟨rfl,a⟩)
theorem sparselaw08_ExactValues_ok {d6:List (List (Bool×LI))} {q:Hdr} {out:Bool} (b:sparselaw08_ExactValues d6=some out) (i5:out=true) (A:imm (rS (rP rB (rS (rI .u32)))) q.v d6∈ros) (a:St w0 ros rs w):
  Calls Tryz.prog 6 #[q.v] w (fun e w=>e=.returned (.bool out)∧St w0 ros rs w):=by
 refine enterQ Tryz.func6 rfl Tryz.ntmps6 rfl fun Q b2=>sR fun _ i6=>Ya (.bool false) rfl (wK i6 (seqQ fun s5 i7 i8=>sR fun _ i9=>Ym q.v e0 (bE b fun s6 j0 b=>yC (yCall FN_9 (a1 e0)) (sparselaw08_small_ok j0 A a) ?_)))
 rintro _ w ⟨rfl,a⟩
 refine ⟨_,rfl,?_⟩
 refine yY (ynot e0) (wK i9 ?_)
 rcases iteS b with ⟨c5,b⟩ | ⟨c5,b⟩
 ·refine condF e0 (nF c5) (wp_skip (i7 _ _ (sR fun _ j2=>Ym q.v e0 (bE b fun s7 j3 b=>yC (yCall FN_11 (a1 e0)) (sparsekit_TwinRows_ok j3 A a) ?_))))
  rintro _ w ⟨b3,rfl,a⟩
  refine ⟨_,rfl,?_⟩
  refine Ya b3.v e0 (wK j2 (sR fun _ j4=>Ym b3.v e0 (bE b fun g j5 b=>?_)))
  replace a:=a.fz
  refine yC (yCall FN_35 (a1 e0)) (exact_Det_ok j5 F0 a) ?_
  rintro _ w ⟨r,rfl,a⟩
  refine ⟨_,rfl,?_⟩
  refine Ym (.tuple #[.agg #[.bool g.1,r.v],iV g.2.2]) e0 (yY (x_ (.agg #[.bool g.1,r.v]) e0) (yY (x_ (iV g.2.2) e0) (yBb (rAl a ZT_31) fun N w a=>yT (r_stbn (vals':=[.bool g.1,r.v]) (us:=[.bool g.1,r.v]) a ST_31 e0 e0 rfl rfl (one_of rfl) rfl) fun w a=>Ya (iV g.2.2) e0 (wK j4 (sR fun _ j6=>Ym b3.v e0 (bE b fun c j7 b=>?_))))))
  refine yC (yCall FN_28 (a1 e0)) (exact_Rank_ok j7 F1 a) ?_
  rintro _ w ⟨rfl,a⟩
  refine ⟨_,rfl,?_⟩
  refine Ym (.tuple #[iV c.1,iV c.2]) e0 (yY (x_ (iV c.1) e0) (yY (x_ (iV c.2) e0) (Ya (iV c.1) e0 (Ya (iV c.2) e0 (wK j6 (sR fun _ j8=>Ym b3.v e0 (bE b fun j j9 b=>yC (yCall FN_36 (a1 e0)) (exact_Kernel_ok j9 F1 a) ?_)))))))
  rintro _ w ⟨o,rfl,a⟩
  refine ⟨_,rfl,?_⟩
  refine Ym (.tuple #[o.v,iV j.2]) e0 (yY (x_ o.v e0) (yY (x_ (iV j.2) e0) (Ya o.v e0 (Ya (iV j.2) e0 (wK j8 (sR fun _ k0=>Ym b3.v e0 (bE b fun h l0 b=>yC (yCall FN_37 (a1 e0)) (exact_Bound_ok l0 F1 a) ?_)))))))
  rintro _ w ⟨l,rfl,a⟩
  refine ⟨_,rfl,?_⟩
  refine Ym (.tuple #[.agg #[.bool h.1,l.v],iV h.2.2]) e0 (yY (x_ (.agg #[.bool h.1,l.v]) e0) (yY (x_ (iV h.2.2) e0) (yBb (rAl a ZT_31) fun C w a=>yT (r_stbn (vals':=[.bool h.1,l.v]) (us:=[.bool h.1,l.v]) a ST_31 e0 e0 rfl rfl (one_of rfl) rfl) fun w a=>Ya (iV h.2.2) e0 (wK k0 (seqQ fun s8 l1 l2=>sR fun _ l3=>Ym b3.v e0 ?_)))))
  refine Ym q.v e0 (bE b fun s9 l4 b=>yC (yCall FN_21 (a2 e0 e0)) (sparsekit_Rows_ok l4 F2 (F_3 A) a) ?_)
  rintro _ w ⟨rfl,a⟩
  refine ⟨_,rfl,?_⟩
  refine yY (ynot e0) (wK l3 ?_)
  rcases iteS b with ⟨c6,b⟩ | ⟨c6,b⟩
  ·refine condF e0 (nF c6) (wp_skip (l1 _ _ (seqQ fun t0 l5 l6=>sR fun _ l7=>Ym q.v e0 (bE b fun d l8 b=>yC (yCall FN_12 (a1 e0)) (sparseref08_Check_ok l8 (F_3 A) a) ?_))))
   rintro _ w ⟨rfl,a⟩
   refine ⟨_,rfl,?_⟩
   refine Ya (iV d) e0 (wK l7 (sR fun _ l9=>Ym (iV d) e0 (yY (yneq e0 rfl) (wK l9 ?_))))
   rcases iteS b with ⟨c7,b⟩ | ⟨c7,b⟩
   ·refine condF e0 (nF (dT c7)) (wp_skip (l5 _ _ (seqQ fun t1 m0 m1=>sQ fun _ m2=>bE b fun B b6 b=>bE b fun z Z b=>bE b fun u D b=>bE b fun s x b=>bE b fun a3 p b=>?_)))
    refine joinN (n:=143) (fun f w=>f 0=q.v∧f 4=(pB N)∧f 5=iV g.2.2∧f 116=.bool a3∧St w0 (imm (rI .u32) r.v g.2.1::ros) (box N 31 [.bool g.1,r.v]::rs) w) (fun b4=>?_) ?_
    ·rcases iteS b6 with ⟨m,b6⟩ | ⟨m,b6⟩
     ·have b7:=someI b6
      rcases iteS Z with ⟨t,Z⟩ | ⟨t,Z⟩
      ·have d7:=someI Z
       have a4:z=true:=d7.symm
       rw [if_pos a4] at D
       have d8:=someI D
       have O:u=true:=d8.symm
       rw [if_pos O] at x
       have d9:=someI x
       have R:s=true:=d9.symm
       rw [if_pos R] at p
       have m3:=someI p
       refine dR [0,1,3,7,15,31,63,127,255,511,1023,2047,2047,6143,16383,32767,65535,131071,131071,393215,1048575,2097151,4194303,8388607,16777215,16777215,50331647,134217727,268435455,536870911] [13,19,20,26,27] 5 folM ?_
       replace a:=a.drew
       refine Dn [0,1,2,3,4,5,6,7,8,9,10,11,12] [] [13] (yR rfl (m_ (iV c.2) e0) (yR rfl (yneq e0 rfl) (yR rfl (m_ (.bool (!(decide (c.2=0)))) e0) (Ry rfl rfl (wG (nF (dT m))) (m_ (iV j.2) e0) (Ry rfl rfl (wG (nF (dT m))) (yneq e0 rfl) (yR rfl (pf_ (.bool B) e0 (nF (dT m)) (eqv b7 e0)) (yR rfl (m_ (.bool B) e0) (Rx rfl rfl (wX t) (Rx rfl rfl (wX t) (yR rfl (pt_ (.bool z) e0 t (eqv d7 rfl)) (yR rfl (m_ (.bool z) e0) (Rx rfl rfl (wX a4) (Rx rfl rfl (wX a4) ?_)))))))))))))
       refine Rn QSn ?_
       refine Lc1 rfl ?_
       refine Lx (wX a4) (Dn [14,15,16,17,18] [11] [19] (Rx rfl rfl (wX a4) (yR rfl (pt_ (.bool u) e0 a4 (eqv d8 rfl)) (yR rfl (m_ (.bool u) e0) (Rx rfl rfl (wX O) (Rx rfl rfl (wX O) (Rn (Sx_ rfl rfl (wX a4) rfl QSn) ?_)))))))
       refine Lc1 rfl ?_
       refine Lx (wX O) (Dn [] [17] [20] (Rn (Sx_ rfl rfl (wX O) rfl QSn) ?_))
       refine Lc1 rfl ?_
       refine Lx (wX O) (Dn [21,22,23,24,25] [] [26] (Rx rfl rfl (wX O) (yR rfl (pt_ (.bool s) e0 O (eqv d9 rfl)) (yR rfl (m_ (.bool s) e0) (Rx rfl rfl (wX R) (Rx rfl rfl (wX R) (Rn QSn ?_)))))))
       refine Lc1 rfl ?_
       refine Lx (wX R) (Dn [] [24] [27] (Rn (Sx_ rfl rfl (wX R) rfl QSn) ?_))
       refine Lc1 rfl ?_
       exact Lx (wX R) (Dz [28,29] [] (Rx rfl rfl (wX R) (yR rfl (pt_ (.bool a3) e0 R (eqv m3 rfl)) (Rn QSn (b4 _ _ ⟨rfl,rfl,rfl,rfl,((a.k2s).facts (allC F1 (allT (allT (allT allI)))))⟩)))))
      ·have c2:=someI Z
       rcases iteS D with ⟨i,D⟩ | ⟨i,D⟩
       ·have e1:=someI D
        have S:u=true:=e1.symm
        rw [if_pos S] at x
        have e2:=someI x
        have T:s=true:=e2.symm
        rw [if_pos T] at p
        have m4:=someI p
        refine dR [0,1,3,7,15,31,63,127,255,511,1023,2047,2047,6143,16383,32767,65535,131071,131071,393215,1048575,2097151,4194303,8388607,16777215,16777215,50331647,134217727,268435455,536870911] [13,19,20,26,27] 5 folM ?_
        replace a:=a.drew
        refine Dn [0,1,2,3,4,5,6,7,8,9,10,11,12] [] [13] (yR rfl (m_ (iV c.2) e0) (yR rfl (yneq e0 rfl) (yR rfl (m_ (.bool (!(decide (c.2=0)))) e0) (Ry rfl rfl (wG (nF (dT m))) (m_ (iV j.2) e0) (Ry rfl rfl (wG (nF (dT m))) (yneq e0 rfl) (yR rfl (pf_ (.bool B) e0 (nF (dT m)) (eqv b7 e0)) (yR rfl (m_ (.bool B) e0) (Ry rfl rfl (wG (bfalse t)) (m_ (iV h.2.2) e0) (Ry rfl rfl (wG (bfalse t)) (yneq e0 rfl) (yR rfl (pf_ (.bool z) e0 (bfalse t) (eqv c2 e0)) (yR rfl (m_ (.bool z) e0) (Rx rfl rfl (wX i) (Rx rfl rfl (wX i) ?_)))))))))))))
        refine Rn QSn ?_
        refine Lc1 rfl ?_
        refine Lx (wX i) (Dn [14,15,16,17,18] [11] [19] (Rx rfl rfl (wX i) (yR rfl (pt_ (.bool u) e0 i (eqv e1 rfl)) (yR rfl (m_ (.bool u) e0) (Rx rfl rfl (wX S) (Rx rfl rfl (wX S) (Rn (Sx_ rfl rfl (wX i) rfl QSn) ?_)))))))
        refine Lc1 rfl ?_
        refine Lx (wX S) (Dn [] [17] [20] (Rn (Sx_ rfl rfl (wX S) rfl QSn) ?_))
        refine Lc1 rfl ?_
        refine Lx (wX S) (Dn [21,22,23,24,25] [] [26] (Rx rfl rfl (wX S) (yR rfl (pt_ (.bool s) e0 S (eqv e2 rfl)) (yR rfl (m_ (.bool s) e0) (Rx rfl rfl (wX T) (Rx rfl rfl (wX T) (Rn QSn ?_)))))))
        refine Lc1 rfl ?_
        refine Lx (wX T) (Dn [] [24] [27] (Rn (Sx_ rfl rfl (wX T) rfl QSn) ?_))
        refine Lc1 rfl ?_
        exact Lx (wX T) (Dz [28,29] [] (Rx rfl rfl (wX T) (yR rfl (pt_ (.bool a3) e0 T (eqv m4 rfl)) (Rn QSn (b4 _ _ ⟨rfl,rfl,rfl,rfl,((a.k2s).facts (allC F1 (allT (allT (allT allI)))))⟩)))))
       ·refine bE D fun t2 c8 D=>?_
        have c9:=someI D
        rcases iteS x with ⟨k,x⟩ | ⟨k,x⟩
        ·have e3:=someI x
         have U:s=true:=e3.symm
         rw [if_pos U] at p
         have m5:=someI p
         refine dR [0,1,3,7,15,31,63,127,255,511,1023,2047,2047,6143,16383,32767,65535,131071,131071,393215,1048575,2097151,4194303,8388607,16777215,16777215,50331647,134217727,268435455,536870911] [13,19,20,26,27] 5 folM ?_
         replace a:=a.drew
         refine Dn [0,1,2,3,4,5,6,7,8,9,10,11,12] [] [13] (yR rfl (m_ (iV c.2) e0) (yR rfl (yneq e0 rfl) (yR rfl (m_ (.bool (!(decide (c.2=0)))) e0) (Ry rfl rfl (wG (nF (dT m))) (m_ (iV j.2) e0) (Ry rfl rfl (wG (nF (dT m))) (yneq e0 rfl) (yR rfl (pf_ (.bool B) e0 (nF (dT m)) (eqv b7 e0)) (yR rfl (m_ (.bool B) e0) (Ry rfl rfl (wG (bfalse t)) (m_ (iV h.2.2) e0) (Ry rfl rfl (wG (bfalse t)) (yneq e0 rfl) (yR rfl (pf_ (.bool z) e0 (bfalse t) (eqv c2 e0)) (yR rfl (m_ (.bool z) e0) (Ry rfl rfl (wG (bfalse i)) (m_ (iV c.1) e0) (Ry rfl rfl (wG (bfalse i)) (m_ q.v e0) ?_)))))))))))))
         refine Rn QSn ?_
         refine Lc1 rfl ?_
         refine Lk (wG (bfalse i)) (yCall FN_38 (a1 e0)) (sparseref08_Rank_ok c8 (F_3 A) a) ?_
         rintro _ w ⟨rfl,a⟩
         refine ⟨_,rfl,?_⟩
         refine Dn [14,15,16,17,18] [11] [19] (Ry rfl rfl (wG (bfalse i)) (yneq e0 e0) (yR rfl (pf_ (.bool u) e0 (bfalse i) (eqv c9 e0)) (yR rfl (m_ (.bool u) e0) (Rx rfl rfl (wX k) (Rx rfl rfl (wX k) (Rn (Sy rfl rfl (wG (bfalse i)) (m_ (iV c.1) e0) rfl QSn) ?_))))))
         refine Lc1 rfl ?_
         refine Lx (wX k) (Dn [] [17] [20] (Rn (Sx_ rfl rfl (wX k) rfl QSn) ?_))
         refine Lc1 rfl ?_
         refine Lx (wX k) (Dn [21,22,23,24,25] [] [26] (Rx rfl rfl (wX k) (yR rfl (pt_ (.bool s) e0 k (eqv e3 rfl)) (yR rfl (m_ (.bool s) e0) (Rx rfl rfl (wX U) (Rx rfl rfl (wX U) (Rn QSn ?_)))))))
         refine Lc1 rfl ?_
         refine Lx (wX U) (Dn [] [24] [27] (Rn (Sx_ rfl rfl (wX U) rfl QSn) ?_))
         refine Lc1 rfl ?_
         exact Lx (wX U) (Dz [28,29] [] (Rx rfl rfl (wX U) (yR rfl (pt_ (.bool a3) e0 U (eqv m5 rfl)) (Rn QSn (b4 _ _ ⟨rfl,rfl,rfl,rfl,((a.k2s).facts (allC F1 (allT (allT (allT allI)))))⟩)))))
        ·refine bE x fun t3 e4 x=>bE x fun t4 e5 x=>?_
         have e6:=someI x
         rcases iteS p with ⟨y,p⟩ | ⟨y,p⟩
         ·have m6:=someI p
          refine dR [0,1,3,7,15,31,63,127,255,511,1023,2047,2047,6143,16383,32767,65535,131071,131071,393215,1048575,2097151,4194303,8388607,16777215,16777215,50331647,134217727,268435455,536870911] [13,19,20,26,27] 5 folM ?_
          replace a:=a.drew
          refine Dn [0,1,2,3,4,5,6,7,8,9,10,11,12] [] [13] (yR rfl (m_ (iV c.2) e0) (yR rfl (yneq e0 rfl) (yR rfl (m_ (.bool (!(decide (c.2=0)))) e0) (Ry rfl rfl (wG (nF (dT m))) (m_ (iV j.2) e0) (Ry rfl rfl (wG (nF (dT m))) (yneq e0 rfl) (yR rfl (pf_ (.bool B) e0 (nF (dT m)) (eqv b7 e0)) (yR rfl (m_ (.bool B) e0) (Ry rfl rfl (wG (bfalse t)) (m_ (iV h.2.2) e0) (Ry rfl rfl (wG (bfalse t)) (yneq e0 rfl) (yR rfl (pf_ (.bool z) e0 (bfalse t) (eqv c2 e0)) (yR rfl (m_ (.bool z) e0) (Ry rfl rfl (wG (bfalse i)) (m_ (iV c.1) e0) (Ry rfl rfl (wG (bfalse i)) (m_ q.v e0) ?_)))))))))))))
          refine Rn QSn ?_
          refine Lc1 rfl ?_
          refine Lk (wG (bfalse i)) (yCall FN_38 (a1 e0)) (sparseref08_Rank_ok c8 (F_3 A) a) ?_
          rintro _ w ⟨rfl,a⟩
          refine ⟨_,rfl,?_⟩
          refine Dn [14,15,16,17,18] [11] [19] (Ry rfl rfl (wG (bfalse i)) (yneq e0 e0) (yR rfl (pf_ (.bool u) e0 (bfalse i) (eqv c9 e0)) (yR rfl (m_ (.bool u) e0) (Ry rfl rfl (wG (bfalse k)) (m_ o.v e0) (Ry rfl rfl (wG (bfalse k)) (m_ q.v e0) (Rn (Sy rfl rfl (wG (bfalse i)) (m_ (iV c.1) e0) rfl QSn) ?_))))))
          refine Lc1 rfl ?_
          refine Lk (wG (bfalse k)) (yCall FN_39 (a1 e0)) (sparseref08_Kernel_ok e4 (F_3 A) a) ?_
          rintro _ w ⟨m7,rfl,a⟩
          refine ⟨_,rfl,?_⟩
          refine Dn [] [17] [20] (Rn (Sy rfl rfl (wG (bfalse k)) (m_ o.v e0) rfl QSn) ?_)
          refine Lc1 rfl ?_
          replace a:=((a.k1h).fz).fz
          refine Lk (wG (bfalse k)) (yCall FN_22 (a2 e0 e0)) (sparsekit_Bigs_ok e5 F1 F0 a) ?_
          rintro _ w ⟨rfl,a⟩
          refine ⟨_,rfl,?_⟩
          refine Dn [21,22,23,24,25] [] [26] (Ry rfl rfl (wG (bfalse k)) (ynot e0) (yR rfl (pf_ (.bool s) e0 (bfalse k) (eqv e6 e0)) (yR rfl (m_ (.bool s) e0) (Rx rfl rfl (wX y) (Rx rfl rfl (wX y) (Rn QSn ?_))))))
          refine Lc1 rfl ?_
          refine Lx (wX y) (Dn [] [24] [27] (Rn (Sx_ rfl rfl (wX y) rfl QSn) ?_))
          refine Lc1 rfl ?_
          exact Lx (wX y) (Dz [28,29] [] (Rx rfl rfl (wX y) (yR rfl (pt_ (.bool a3) e0 y (eqv m6 rfl)) (Rn QSn (b4 _ _ ⟨rfl,rfl,rfl,rfl,((a.k20).facts (allC F3 (allT (allT (allT (allT (allT allI)))))))⟩)))))
         ·refine bE p fun t5 m8 p=>bE p fun t6 m9 p=>?_
          have n0:=someI p
          refine dR [0,1,3,7,15,31,63,127,255,511,1023,2047,2047,6143,16383,32767,65535,131071,131071,393215,1048575,2097151,4194303,8388607,16777215,16777215,50331647,134217727,268435455,536870911] [13,19,20,26,27] 5 folM ?_
          replace a:=a.drew
          refine Dn [0,1,2,3,4,5,6,7,8,9,10,11,12] [] [13] (yR rfl (m_ (iV c.2) e0) (yR rfl (yneq e0 rfl) (yR rfl (m_ (.bool (!(decide (c.2=0)))) e0) (Ry rfl rfl (wG (nF (dT m))) (m_ (iV j.2) e0) (Ry rfl rfl (wG (nF (dT m))) (yneq e0 rfl) (yR rfl (pf_ (.bool B) e0 (nF (dT m)) (eqv b7 e0)) (yR rfl (m_ (.bool B) e0) (Ry rfl rfl (wG (bfalse t)) (m_ (iV h.2.2) e0) (Ry rfl rfl (wG (bfalse t)) (yneq e0 rfl) (yR rfl (pf_ (.bool z) e0 (bfalse t) (eqv c2 e0)) (yR rfl (m_ (.bool z) e0) (Ry rfl rfl (wG (bfalse i)) (m_ (iV c.1) e0) (Ry rfl rfl (wG (bfalse i)) (m_ q.v e0) ?_)))))))))))))
          refine Rn QSn ?_
          refine Lc1 rfl ?_
          refine Lk (wG (bfalse i)) (yCall FN_38 (a1 e0)) (sparseref08_Rank_ok c8 (F_3 A) a) ?_
          rintro _ w ⟨rfl,a⟩
          refine ⟨_,rfl,?_⟩
          refine Dn [14,15,16,17,18] [11] [19] (Ry rfl rfl (wG (bfalse i)) (yneq e0 e0) (yR rfl (pf_ (.bool u) e0 (bfalse i) (eqv c9 e0)) (yR rfl (m_ (.bool u) e0) (Ry rfl rfl (wG (bfalse k)) (m_ o.v e0) (Ry rfl rfl (wG (bfalse k)) (m_ q.v e0) (Rn (Sy rfl rfl (wG (bfalse i)) (m_ (iV c.1) e0) rfl QSn) ?_))))))
          refine Lc1 rfl ?_
          refine Lk (wG (bfalse k)) (yCall FN_39 (a1 e0)) (sparseref08_Kernel_ok e4 (F_3 A) a) ?_
          rintro _ w ⟨m7,rfl,a⟩
          refine ⟨_,rfl,?_⟩
          refine Dn [] [17] [20] (Rn (Sy rfl rfl (wG (bfalse k)) (m_ o.v e0) rfl QSn) ?_)
          refine Lc1 rfl ?_
          replace a:=((a.k1h).fz).fz
          refine Lk (wG (bfalse k)) (yCall FN_22 (a2 e0 e0)) (sparsekit_Bigs_ok e5 F1 F0 a) ?_
          rintro _ w ⟨rfl,a⟩
          refine ⟨_,rfl,?_⟩
          refine Dn [21,22,23,24,25] [] [26] (Ry rfl rfl (wG (bfalse k)) (ynot e0) (yR rfl (pf_ (.bool s) e0 (bfalse k) (eqv e6 e0)) (yR rfl (m_ (.bool s) e0) (Ry rfl rfl (wG (bfalse y)) (lbs_ [.bool h.1,l.v] ST_31 e0 a R0) (Ry rfl rfl (wG (bfalse y)) (m_ q.v e0) (Rn QSn ?_))))))
          refine Lc1 rfl ?_
          refine Lk (wG (bfalse y)) (yCall FN_40 (a1 e0)) (sparseref08_Bound_ok m8 (F_5 A) a) ?_
          rintro _ w ⟨t7,rfl,a⟩
          refine ⟨_,rfl,?_⟩
          refine Dn [] [24] [27] (Rn (Sy rfl rfl (wG (bfalse y)) (lbs_ [.bool h.1,l.v] ST_31 e0 a R1) rfl QSn) ?_)
          refine Lc1 rfl ?_
          replace a:=a.fz
          refine Lk (wG (bfalse y)) (yCall FN_23 (a2 e0 e0)) (sparsekit_Big_ok m9 F3 F0 a) ?_
          rintro _ w ⟨rfl,a⟩
          refine ⟨_,rfl,?_⟩
          exact Dz [28,29] [] (Ry rfl rfl (wG (bfalse y)) (ynot e0) (yR rfl (pf_ (.bool a3) e0 (bfalse y) (eqv n0 e0)) (Rn QSn (b4 _ _ ⟨rfl,rfl,rfl,rfl,((a.k20).facts (allC F4 (allT (allT (allT (allT (allT (allT allI))))))))⟩))))
     ·have e7:=someI b6
      have c3:B=true:=e7.symm
      rw [if_pos c3] at Z
      have e8:=someI Z
      have a5:z=true:=e8.symm
      rw [if_pos a5] at D
      have e9:=someI D
      have V:u=true:=e9.symm
      rw [if_pos V] at x
      have f0:=someI x
      have W:s=true:=f0.symm
      rw [if_pos W] at p
      have n1:=someI p
      refine dR [0,1,3,7,15,31,63,127,255,511,1023,2047,2047,6143,16383,32767,65535,131071,131071,393215,1048575,2097151,4194303,8388607,16777215,16777215,50331647,134217727,268435455,536870911] [13,19,20,26,27] 5 folM ?_
      replace a:=a.drew
      refine Dn [0,1,2,3,4,5,6,7,8,9,10,11,12] [] [13] (yR rfl (m_ (iV c.2) e0) (yR rfl (yneq e0 rfl) (yR rfl (m_ (.bool (!(decide (c.2=0)))) e0) (Rx rfl rfl (wX (nT (dF m))) (Rx rfl rfl (wX (nT (dF m))) (yR rfl (pt_ (.bool B) e0 (nT (dF m)) (eqv e7 rfl)) (yR rfl (m_ (.bool B) e0) (Rx rfl rfl (wX c3) (Rx rfl rfl (wX c3) (yR rfl (pt_ (.bool z) e0 c3 (eqv e8 rfl)) (yR rfl (m_ (.bool z) e0) (Rx rfl rfl (wX a5) (Rx rfl rfl (wX a5) ?_)))))))))))))
      refine Rn QSn ?_
      refine Lc1 rfl ?_
      refine Lx (wX a5) (Dn [14,15,16,17,18] [11] [19] (Rx rfl rfl (wX a5) (yR rfl (pt_ (.bool u) e0 a5 (eqv e9 rfl)) (yR rfl (m_ (.bool u) e0) (Rx rfl rfl (wX V) (Rx rfl rfl (wX V) (Rn (Sx_ rfl rfl (wX a5) rfl QSn) ?_)))))))
      refine Lc1 rfl ?_
      refine Lx (wX V) (Dn [] [17] [20] (Rn (Sx_ rfl rfl (wX V) rfl QSn) ?_))
      refine Lc1 rfl ?_
      refine Lx (wX V) (Dn [21,22,23,24,25] [] [26] (Rx rfl rfl (wX V) (yR rfl (pt_ (.bool s) e0 V (eqv f0 rfl)) (yR rfl (m_ (.bool s) e0) (Rx rfl rfl (wX W) (Rx rfl rfl (wX W) (Rn QSn ?_)))))))
      refine Lc1 rfl ?_
      refine Lx (wX W) (Dn [] [24] [27] (Rn (Sx_ rfl rfl (wX W) rfl QSn) ?_))
      refine Lc1 rfl ?_
      exact Lx (wX W) (Dz [28,29] [] (Rx rfl rfl (wX W) (yR rfl (pt_ (.bool a3) e0 W (eqv n1 rfl)) (Rn QSn (b4 _ _ ⟨rfl,rfl,rfl,rfl,((a.k2s).facts (allC F1 (allT (allT (allT allI)))))⟩)))))
    rintro f w ⟨d0,d1,f1,n2,a⟩
    refine m2 _ _ (cB (eh n2) b (fun n3 b=>?_) fun n3 b=>?_)
    ·refine sR fun _ n4=>Ya (.bool false) rfl (wK n4 (wp_ret (m1 _ _ _ rfl ?_)))
     cases b
     exact b2 _ _ _ (fin1r Tryz.results6 ⟨rfl,rfl⟩ ⟨rfl,((a.k10).facts (allT allI))⟩)
    ·refine wp_skip (m0 _ _ (seqQ fun t8 n5 n6=>sR fun _ n7=>Ym q.v (eh d0) (yY (yLen SL_22 e0 a (rdI (mtF A))) (Ym q.v (eh d0) (bE b fun t9 n8 b=>yC (yCall FN_13 (a1 e0)) (sparseref08_Cols_ok n8 (mtF A) a) ?_)))))
     rintro _ w ⟨rfl,a⟩
     refine ⟨_,rfl,?_⟩
     refine yY (yneq e0 e0) (wK n7 ?_)
     rcases iteS b with ⟨d2,b⟩ | ⟨d2,b⟩
     ·refine condF e0 (nF (dT d2)) (wp_skip (n5 _ _ (sQ fun _ n9=>bE b fun f2 a6 b=>bE b fun d3 b8 b=>?_)))
      refine joinN (n:=143) (fun f w=>f 2=.bool d3∧St w0 ros rs w) (fun o0=>?_) ?_
      ·have o1:=(someI b).trans i5
       obtain ⟨d4,b8⟩:=chT b8 o1
       obtain ⟨b5,a6⟩:=chT a6 d4
       refine bE a6 fun u0 o2 a6=>bE a6 fun u1 o3 a6=>?_
       have o4:=someI a6
       refine bE b8 fun u2 o5 b8=>?_
       have o6:=someI b8
       refine dR [0,1,3,7,7,23,63,127,255,511,1023,2047] [5,6,9,11] 4 folM ?_
       replace a:=a.drew
       refine Dn [0,1,2,3,4] [] [5] (yR rfl (m_ (iV g.2.2) (eh f1)) (yR rfl (yeql e0 rfl) (yR rfl (m_ (.bool (decide (g.2.2=0))) e0) (Ry rfl rfl (wG (dT b5)) (lbs_ [.bool g.1,r.v] ST_31 (eh d1) a R0) (Ry rfl rfl (wG (dT b5)) (m_ q.v (eh d0)) (Rn QSn ?_))))))
       refine Lc1 rfl ?_
       refine Lk (wG (dT b5)) (yCall FN_41 (a1 e0)) (sparseref08_Det_ok o2 (mtF A) a) ?_
       rintro _ w ⟨u3,rfl,a⟩
       refine ⟨_,rfl,?_⟩
       refine Dn [] [3] [6] (Rn (Sy rfl rfl (wG (dT b5)) (lbs_ [.bool g.1,r.v] ST_31 (eh d1) a R1) rfl QSn) ?_)
       refine Lc1 rfl ?_
       replace a:=a.fz
       refine Lk (wG (dT b5)) (yCall FN_23 (a2 e0 e0)) (sparsekit_Big_ok o3 F1 F0 a) ?_
       rintro _ w ⟨rfl,a⟩
       refine ⟨_,rfl,?_⟩
       refine Dn [7,8] [] [9] (yR rfl (pt_ (.bool f2) e0 (dT b5) (eqv o4 e0)) (yR rfl (m_ (.bool f2) e0) (Rn QSn ?_)))
       refine Lc1 rfl ?_
       refine Lk (wG d4) (yCall FN_10 a0) (sparselaw08_awake_ok o5 a) ?_
       rintro _ w ⟨rfl,a⟩
       refine ⟨_,rfl,?_⟩
       refine Dn [10] [] [11] (yR rfl (pt_ (.bool d3) e0 d4 (eqv o6 e0)) (Rn QSn ?_))
       refine Lc1 rfl ?_
       exact Ly wn (a_ (.bool d3) e0) (Dz [] [] (Rn QSn (o0 _ _ ⟨rfl,((a.k10).facts (allT (allT allI)))⟩)))
      rintro f w ⟨o7,a⟩
      refine n9 _ _ (wp_ret ?_)
      cases b
      exact b2 _ _ _ (fin1r Tryz.results6 ⟨rfl,o7⟩ ⟨rfl,a⟩)
     ·refine condT e0 (nT (dF d2)) (sR fun _ o8=>Ym (iV g.2.2) (eh f1) (yY (yeql e0 rfl) (Ym (.bool (decide (g.2.2=5))) e0 (bE b fun f3 a7 b=>?_))))
      refine joinW 4 (fun f w=>f 128=.bool f3∧St w0 ros rs w) (fun f4=>?_) ?_
      ·rcases iteS a7 with ⟨I,a7⟩ | ⟨I,a7⟩
       ·refine yG (dT I) (lbs_ [.bool g.1,r.v] ST_31 (eh d1) a R0) (yG (dT I) (ybuild (us:=[.bool false,hnil.v]) [] SO_31 bp0 rfl) (bE a7 fun o9 p0 a7=>?_))
        replace a:=a.immNh (rI .u32)
        refine Yc (wG (dT I)) rfl (yCall FN_23 (a2 e0 e0)) (sparsekit_Big_ok p0 F1 F0 a) ?_
        rintro _ w ⟨rfl,a⟩
        refine ⟨_,rfl,?_⟩
        refine yY (pt_ (.bool o9) e0 (dT I) e0) ?_
        cases a7
        exact f4 _ _ ⟨rfl,((a.k10).facts (allT (allT allI)))⟩
       ·refine gN (dF I) (gN (dF I) (gN (dF I) (yY (pf_ (.bool false) e0 (dF I) rfl) ?_)))
        cases a7
        exact f4 _ _ ⟨rfl,((a.k10).facts (allT allI))⟩
      rintro f w ⟨p1,a⟩
      refine Ym (.bool f3) (eh p1) (bE b fun f5 a8 b=>?_)
      refine joinW 2 (fun f w=>f 131=.bool f5∧St w0 ros rs w) (fun f6=>?_) ?_
      ·rcases iteS a8 with ⟨c0,a8⟩ | ⟨c0,a8⟩
       ·refine bE a8 fun p2 p3 a8=>Yc (wG c0) rfl (yCall FN_10 a0) (sparselaw08_awake_ok p3 a) ?_
        rintro _ w ⟨rfl,a⟩
        refine ⟨_,rfl,?_⟩
        refine yY (pt_ (.bool p2) e0 c0 e0) ?_
        cases a8
        exact f6 _ _ ⟨rfl,a⟩
       ·refine gN (bfalse c0) (yY (pf_ (.bool false) e0 (bfalse c0) rfl) ?_)
        cases a8
        exact f6 _ _ ⟨rfl,a⟩
      rintro f w ⟨p4,a⟩
      refine Ya (.bool f5) (eh p4) (wK o8 (wp_ret (n6 _ _ _ rfl ?_)))
      cases b
      exact b2 _ _ _ (fin1r Tryz.results6 ⟨rfl,rfl⟩ ⟨rfl,a⟩)
   ·refine condT e0 (nT (dF c7)) (sR fun _ p5=>Ym (iV g.2.2) e0 (Ym (iV d) e0 (yY (yeql e0 e0) (Ym (.bool (decide (g.2.2=d))) e0 ?_))))
    refine joinW 4 (fun f w=>f 4=(pB N)∧f 6=iV c.1∧f 8=o.v∧f 9=iV j.2∧f 10=(pB C)∧f 11=iV h.2.2∧f 12=iV d∧f 54=.bool ((decide (g.2.2=d)) && (decide (c.2=d)))∧St w0 (imm (rI .u32) r.v g.2.1::imm (rI .u32) l.v h.2.1::ros) (box N 31 [.bool g.1,r.v]::row 31 (rP rB (rS (rI .u32))) o.v j.1::box C 31 [.bool h.1,l.v]::rs) w) (fun f7=>?_) ?_
    ·rcases Bool.eq_false_or_eq_true (decide (g.2.2=d)) with E | E
     ·exact yG E (m_ (iV c.2) e0) (yG E (m_ (iV d) e0) (yG E (yeql e0 e0) (yY (pt_ (.bool (decide (c.2=d))) e0 E e0) (f7 _ _ ⟨rfl,rfl,rfl,rfl,rfl,rfl,rfl,(congrArg Value.bool (andT E)),((a.k1y).facts (allC F1 (allC F0 (allT (allT (allT allI))))))⟩))))
     ·exact gN E (gN E (gN E (yY (pf_ (.bool false) e0 E rfl) (f7 _ _ ⟨rfl,rfl,rfl,rfl,rfl,rfl,rfl,(congrArg Value.bool (andF E)),((a.k1y).facts (allC F1 (allC F0 (allT (allT (allT allI))))))⟩))))
    rintro f w ⟨f8,f9,g0,p6,g1,g2,d5,p7,a⟩
    refine Ym (.bool ((decide (g.2.2=d)) && (decide (c.2=d)))) (eh p7) ?_
    refine joinW 4 (fun f w=>f 4=(pB N)∧f 6=iV c.1∧f 8=o.v∧f 10=(pB C)∧f 11=iV h.2.2∧f 12=iV d∧f 59=.bool (((decide (g.2.2=d)) && (decide (c.2=d))) && (decide (j.2=d)))∧St w0 (imm (rI .u32) r.v g.2.1::imm (rI .u32) l.v h.2.1::ros) (box N 31 [.bool g.1,r.v]::row 31 (rP rB (rS (rI .u32))) o.v j.1::box C 31 [.bool h.1,l.v]::rs) w) (fun g3=>?_) ?_
    ·rcases Bool.eq_false_or_eq_true ((decide (g.2.2=d)) && (decide (c.2=d))) with F | F
     ·exact yG F (m_ (iV j.2) (eh p6)) (yG F (m_ (iV d) (eh d5)) (yG F (yeql e0 e0) (yY (pt_ (.bool (decide (j.2=d))) e0 F e0) (g3 _ _ ⟨f8,f9,g0,g1,g2,d5,(congrArg Value.bool (andT F)),a⟩))))
     ·exact gN F (gN F (gN F (yY (pf_ (.bool false) e0 F rfl) (g3 _ _ ⟨f8,f9,g0,g1,g2,d5,(congrArg Value.bool (andF F)),a⟩))))
    rintro f w ⟨g4,g5,g6,g7,p8,p9,q0,a⟩
    refine Ym (.bool (((decide (g.2.2=d)) && (decide (c.2=d))) && (decide (j.2=d)))) (eh q0) ?_
    refine joinW 4 (fun f w=>f 4=(pB N)∧f 6=iV c.1∧f 8=o.v∧f 10=(pB C)∧f 64=.bool ((((decide (g.2.2=d)) && (decide (c.2=d))) && (decide (j.2=d))) && (decide (h.2.2=d)))∧St w0 (imm (rI .u32) r.v g.2.1::imm (rI .u32) l.v h.2.1::ros) (box N 31 [.bool g.1,r.v]::row 31 (rP rB (rS (rI .u32))) o.v j.1::box C 31 [.bool h.1,l.v]::rs) w) (fun g8=>?_) ?_
    ·rcases Bool.eq_false_or_eq_true (((decide (g.2.2=d)) && (decide (c.2=d))) && (decide (j.2=d))) with G | G
     ·exact yG G (m_ (iV h.2.2) (eh p8)) (yG G (m_ (iV d) (eh p9)) (yG G (yeql e0 e0) (yY (pt_ (.bool (decide (h.2.2=d))) e0 G e0) (g8 _ _ ⟨g4,g5,g6,g7,(congrArg Value.bool (andT G)),a⟩))))
     ·exact gN G (gN G (gN G (yY (pf_ (.bool false) e0 G rfl) (g8 _ _ ⟨g4,g5,g6,g7,(congrArg Value.bool (andF G)),a⟩))))
    rintro f w ⟨q2,g9,h0,h1,q3,a⟩
    refine Ym (.bool ((((decide (g.2.2=d)) && (decide (c.2=d))) && (decide (j.2=d))) && (decide (h.2.2=d)))) (eh q3) (bE b fun X a9 b=>?_)
    refine joinW 4 (fun f w=>f 6=iV c.1∧f 8=o.v∧f 10=(pB C)∧f 69=.bool X∧St w0 (imm (rI .u32) l.v h.2.1::ros) (row 31 (rP rB (rS (rI .u32))) o.v j.1::box C 31 [.bool h.1,l.v]::rs) w) (fun h3=>?_) ?_
    ·rcases iteS a9 with ⟨J,a9⟩ | ⟨J,a9⟩
     ·refine yG J (lbs_ [.bool g.1,r.v] ST_31 (eh q2) a R0) (yG J (ybuild (us:=[.bool false,hnil.v]) [] SO_31 bp0 rfl) (bE a9 fun q4 q5 a9=>?_))
      replace a:=a.immNh (rI .u32)
      refine Yc (wG J) rfl (yCall FN_23 (a2 e0 e0)) (sparsekit_Big_ok q5 F1 F0 a) ?_
      rintro _ w ⟨rfl,a⟩
      refine ⟨_,rfl,?_⟩
      refine yY (pt_ (.bool q4) e0 J e0) ?_
      cases a9
      exact h3 _ _ ⟨g9,h0,h1,rfl,((a.k1z).facts (allC F2 (allT (allT (allT allI)))))⟩
     ·refine gN (bfalse J) (gN (bfalse J) (gN (bfalse J) (yY (pf_ (.bool false) e0 (bfalse J) rfl) ?_)))
      cases a9
      exact h3 _ _ ⟨g9,h0,h1,rfl,((a.k1z).facts (allC F1 (allT (allT allI))))⟩
    rintro f w ⟨q6,h4,h5,q7,a⟩
    refine Ym (.bool X) (eh q7) ?_
    refine joinW 3 (fun f w=>f 8=o.v∧f 10=(pB C)∧f 73=.bool (X && (decide (c.1=0)))∧St w0 (imm (rI .u32) l.v h.2.1::ros) (row 31 (rP rB (rS (rI .u32))) o.v j.1::box C 31 [.bool h.1,l.v]::rs) w) (fun h7=>?_) ?_
    ·rcases Bool.eq_false_or_eq_true X with K | K
     ·exact yG K (m_ (iV c.1) (eh q6)) (yG K (yeql e0 rfl) (yY (pt_ (.bool (decide (c.1=0))) e0 K e0) (h7 _ _ ⟨h4,h5,(congrArg Value.bool (andT K)),a⟩)))
     ·exact gN K (gN K (yY (pf_ (.bool false) e0 K rfl) (h7 _ _ ⟨h4,h5,(congrArg Value.bool (andF K)),a⟩)))
    rintro f w ⟨q8,h9,q9,a⟩
    refine Ym (.bool (X && (decide (c.1=0)))) (eh q9) ?_
    refine joinW 4 (fun f w=>f 10=(pB C)∧f 78=.bool ((X && (decide (c.1=0))) && (decide ((j.1.length:Int)=0)))∧St w0 (imm (rI .u32) l.v h.2.1::ros) (box C 31 [.bool h.1,l.v]::rs) w) (fun i0=>?_) ?_
    ·rcases Bool.eq_false_or_eq_true (X && (decide (c.1=0))) with H | H
     ·exact yG H (m_ o.v (eh q8)) (yG H (yLen SL_32 e0 a rO0) (yG H (yeql e0 rfl) (yY (pt_ (.bool (decide ((j.1.length:Int)=0))) e0 H e0) (i0 _ _ ⟨h9,(congrArg Value.bool (andT H)),(a.k20)⟩))))
     ·exact gN H (gN H (gN H (yY (pf_ (.bool false) e0 H rfl) (i0 _ _ ⟨h9,(congrArg Value.bool (andF H)),(a.k20)⟩))))
    rintro f w ⟨r0,r1,a⟩
    refine Ym (.bool ((X && (decide (c.1=0))) && (decide ((j.1.length:Int)=0)))) (eh r1) (bE b fun i1 b0 b=>?_)
    refine joinW 4 (fun f w=>f 83=.bool i1∧St w0 ros rs w) (fun i2=>?_) ?_
    ·rcases iteS b0 with ⟨L,b0⟩ | ⟨L,b0⟩
     ·refine yG L (lbs_ [.bool h.1,l.v] ST_31 (eh r0) a R0) (yG L (ybuild (us:=[.bool false,hnil.v]) [] SO_31 bp0 rfl) (bE b0 fun r2 r4 b0=>?_))
      replace a:=a.immNh (rI .u32)
      refine Yc (wG L) rfl (yCall FN_23 (a2 e0 e0)) (sparsekit_Big_ok r4 F1 F0 a) ?_
      rintro _ w ⟨rfl,a⟩
      refine ⟨_,rfl,?_⟩
      refine yY (pt_ (.bool r2) e0 L e0) ?_
      cases b0
      exact i2 _ _ ⟨rfl,((a.k10).facts (allT (allT allI)))⟩
     ·refine gN (bfalse L) (gN (bfalse L) (gN (bfalse L) (yY (pf_ (.bool false) e0 (bfalse L) rfl) ?_)))
      cases b0
      exact i2 _ _ ⟨rfl,((a.k10).facts (allT allI))⟩
    rintro f w ⟨r6,a⟩
    refine Ym (.bool i1) (eh r6) (bE b fun i3 b1 b=>?_)
    refine joinW 2 (fun f w=>f 86=.bool i3∧St w0 ros rs w) (fun i4=>?_) ?_
    ·rcases iteS b1 with ⟨c1,b1⟩ | ⟨c1,b1⟩
     ·refine bE b1 fun r8 r9 b1=>Yc (wG c1) rfl (yCall FN_10 a0) (sparselaw08_awake_ok r9 a) ?_
      rintro _ w ⟨rfl,a⟩
      refine ⟨_,rfl,?_⟩
      refine yY (pt_ (.bool r8) e0 c1 e0) ?_
      cases b1
      exact i4 _ _ ⟨rfl,a⟩
     ·refine gN (bfalse c1) (yY (pf_ (.bool false) e0 (bfalse c1) rfl) ?_)
      cases b1
      exact i4 _ _ ⟨rfl,a⟩
    rintro f w ⟨s0,a⟩
    refine Ya (.bool i3) (eh s0) (wK p5 (wp_ret (l6 _ _ _ rfl ?_)))
    cases b
    exact b2 _ _ _ (fin1r Tryz.results6 ⟨rfl,rfl⟩ ⟨rfl,a⟩)
  ·refine condT e0 (nT (bfalse c6)) (sR fun _ s1=>Ya (.bool false) rfl (wK s1 (wp_ret (l2 _ _ _ rfl ?_))))
   cases b
   exact b2 _ _ _ (fin1r Tryz.results6 ⟨rfl,rfl⟩ ⟨rfl,((a.k1e).facts (allT (allT (allT allI))))⟩)
 ·refine condT e0 (nT (bfalse c5)) (sR fun _ s2=>bE b fun s3 s4 b=>yC (yCall FN_10 a0) (sparselaw08_awake_ok s4 a) ?_)
  rintro _ w ⟨rfl,a⟩
  refine ⟨_,rfl,?_⟩
  refine Ya (.bool s3) e0 (wK s2 (wp_ret (i8 _ _ _ rfl ?_)))
  cases b
  exact b2 _ _ _ (fin1r Tryz.results6 ⟨rfl,rfl⟩ ⟨rfl,a⟩)
end Go.Proofs.YtpfmbaidflhamaaGreatDoor
