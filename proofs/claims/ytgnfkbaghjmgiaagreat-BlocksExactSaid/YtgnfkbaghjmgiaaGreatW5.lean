/- Walks: each function computes its model, printed. -/
import Derived.Test.YtgnfkbaghjmgiaaGreatW4
namespace Go.Proofs.YtgnfkbaghjmgiaaGreat
open Go Sx M
set_option maxRecDepth 100000
set_option maxHeartbeats 40000000
set_option linter.unusedVariables false
attribute [local irreducible] wpList Code.wp Calls DR QR QS LA LS St
variable {w0 : World} {ros : List Fact} {rs : List Res} {w : World}
theorem sparseref15_Triangular_ok {U j : Int} {i1 i2 i3 : LI} {Z a0 a3 : Hdr} {out : LI × LI × LI × Int} (o : sparseref15_Triangular U j i1 i2 i3 = some out) (e1 : imm I1 Z.v i1 ∈ ros) (e2 : imm I1 a0.v i2 ∈ ros) (e3 : imm (rI .u64) a3.v i3 ∈ ros) (b : St w0 ros rs w) :
  Calls Tryz.prog 10 #[.agg #[iV U, iV j, Z.v, a0.v, a3.v]] w (fun e w => ∃ (i4 i5 i6 : Hdr), e = .returned (.tuple #[.agg #[i4.v, i5.v, i6.v], iV out.2.2.2]) ∧ St w0 ros (row 3 I1 i4.v out.1 :: row 3 I1 i5.v out.2.1 :: row 3 I1 i6.v out.2.2.1 :: rs) w) := by
 refine enterQ Tryz.func10 rfl Tryz.ntmps10 rfl fun Q c1 => sR fun _ o4 => yBb (r_box (vals := [iV U, iV j, Z.v, a0.v, a3.v]) b e0 rfl) fun G8 w b => yBb (rAl b ZT_27) fun k w b => Ya (iV 0) rfl (wK o4 (seqQ fun G9 o5 o6 => sR fun _ o7 => yY (lbs_ [iV U, iV j, Z.v, a0.v, a3.v] ST_25 e0 b R1) ?_))
 refine bE o fun c2 o8 o => yC (yCall FN_23 (a1 e0)) (sparseref09_Check_ok o8 e1 e2 e3 b) ?_
 rintro _ w ⟨rfl, b⟩
 refine ⟨_, rfl, ?_⟩
 refine Ya (iV c2) e0 (wK o7 (sR fun _ o9 => Ym (iV c2) e0 (yY (yneq e0 rfl) (wK o9 ?_))))
 rcases iteS o with ⟨e4, o⟩ | ⟨e4, o⟩
 ·refine condF e0 (nF (dT e4)) (wp_skip (o5 _ _ (seqQ fun H0 p0 p1 => sR fun _ p2 => yY (yFb FL_25_0 e0) (yY (lb_ (iV U) O_3 e0 b R1) (yY (yFb FL_25_1 e0) (yY (lb_ (iV j) O_3 e0 b R1) (yY (yneq e0 e0) (wK p2 ?_))))))))
  rcases iteS o with ⟨e5, o⟩ | ⟨e5, o⟩
  ·refine condF e0 (nF (dT e5)) (wp_skip (p0 _ _ (sR fun _ p3 => yY (lbs_ [iV U, iV j, Z.v, a0.v, a3.v] ST_25 e0 b R1) (bE o fun y p4 o => yC (yCall FN_35 (a1 e0)) (sparseref15_Perfect_ok p4 e1 e2 e3 b) ?_))))
   rintro _ w ⟨d, rfl, b⟩
   refine ⟨_, rfl, ?_⟩
   refine Ym (.tuple #[d.v, .bool y.2]) e0 (yY (x_ d.v e0) (yY (x_ (.bool y.2) e0) (Ya d.v e0 (Ya (.bool y.2) e0 (wK p3 (seqQ fun H1 p5 p6 => sR fun _ p7 => Ym (.bool y.2) e0 (yY (ynot e0) (wK p7 ?_))))))))
   rcases iteS o with ⟨e6, o⟩ | ⟨e6, o⟩
   ·refine condF e0 (nF e6) (wp_skip (p5 _ _ (sR fun _ p8 => yY (yFb FL_25_1 e0) (yY (lb_ (iV j) O_3 e0 b R2) (Ya (iV j) e0 (wK p8 (sR fun _ p9 => yY (lbs_ [iV U, iV j, Z.v, a0.v, a3.v] ST_25 e0 b R2) (Ym d.v e0 ?_))))))))
    refine bE o fun G q0 o => ?_
    replace b := b.fz
    refine yC (yCall FN_36 (a2 e0 e0)) (sparseref15_Arcs_ok q0 (mtF e1) (mtF e2) (mtF e3) F0 b) ?_
    rintro _ w ⟨g, p, rfl, b⟩
    refine ⟨_, rfl, ?_⟩
    refine Ya g.v e0 (wK p9 (sR fun _ q4 => Ym (iV j) e0 (bE o fun H2 q5 o => yH (rMk b SL_50 e0 q5) fun c w b => Ya c.v e0 (wK q4 (sR fun _ q6 => ?_)))))
    refine yH (rLt (n := 1) (l := [0]) b SL_22 [iV 0] (bp1 rfl) rfl rfl (mks1 (cs := [iV 0]) rfl mkI mks0)) fun c3 w b => yY (ybuild (us := [hnil.v, hnil.v, c3.v]) [(2, c3.v)] SO_27 (bp1 e0) rfl) (yBb (rAl b ZT_27) fun m w b => yT (r_stbn (vals' := [hnil.v, hnil.v, c3.v]) (us := [hnil.v, hnil.v, c3.v]) b ST_27 e0 e0 rfl rfl (one_of rfl) rfl) fun w b => wK q6 (sQ fun _ q7 => blockQ fun q8 q9 => bE o fun r0 r1 o => ?_))
    have r2 : ∀ (e7 e8 e9 : LI) (a4 a5 a6 : Hdr) (f : FV) w, f 2 = (pB k) → f 10 = (pB m) → St w0 ros (box k 27 [hnil.v, hnil.v, hnil.v] :: row 3 I1 a4.v e7 :: row 3 I1 a5.v e8 :: row 3 I1 a6.v e9 :: box m 27 [a4.v, a5.v, a6.v] :: rs) w → (e7, e8, e9) = r0 → q8 (.exit 0) (fr 148 f) w := by
     intro e7 e8 e9 a4 a5 a6 f w i7 r3 b ho
     subst ho
     refine q9 _ _ _ (q7 _ _ (sR fun _ r4 => yY (lbs_ [a4.v, a5.v, a6.v] ST_27 (eh r3) b R4) (yT (r_stbn (vals' := [a4.v, a5.v, a6.v]) (us := [a4.v, a5.v, a6.v]) b ST_27 (eh i7) e0 rfl rfl (one_of rfl) rfl) fun w b => Ya (iV 0) rfl (wK r4 (wp_ret ?_)))))
     cases o
     exact c1 _ _ _ (fin2r Tryz.results10 (rcs2 rfl i7 b R0 ST_27 rfl) ⟨rfl, rfl⟩ ⟨_, _, _, rfl, (b.k1t)⟩)
    replace b := (b.rowNh 3 I1).rowNh 3 I1
    refine loopQ (fun s a w => ∃ (I : List Bool) (D J E : LI) (f : FV) (h t i : Hdr), (I, D, J, E) = s ∧ a = fr 148 f ∧ f 2 = (pB k) ∧ f 5 = d.v ∧ f 7 = iV j ∧ f 8 = g.v ∧ f 9 = c.v ∧ f 10 = (pB m) ∧ St w0 (imm I1 d.v y.1 :: ros) (box k 27 [hnil.v, hnil.v, hnil.v] :: row 50 rH g.v p :: fam 4 rB p G :: row 4 rB c.v I :: row 3 I1 h.v D :: row 3 I1 t.v J :: row 3 I1 i.v E :: box m 27 [h.v, t.v, i.v] :: rs) w) r1 ⟨_, _, _, _, _, _, _, _, rfl, rfl, rfl, rfl, rfl, rfl, rfl, rfl, (b.k3j)⟩ ?_
    rintro _ _ w H3 ⟨I, D, J, E, f, h, t, i, rfl, rfl, i8, r5, f0, r6, r7, f1, b⟩ z r8 H4 r9 s0
    refine seqQ fun H5 s1 s2 => sR fun _ s3 => yY (yFb FL_27_1 (eh f1)) (yY (lb_ t.v O_22 e0 b R7) (yY (yLen SL_22 e0 b rO5) (Ym (iV j) (eh f0) (yY (ylss e0 e0) (wK s3 ?_)))))
    refine cIf e0 z (fun s4 z => ?_) fun s4 z => ?_
    ·refine wp_skip (s1 _ _ (blockQ fun _ s5 => sR fun _ s6 => Ya (iV (-1)) rfl (wK s6 (sQ fun _ s7 => sR fun _ s8 => Ym (iV j) (eh f0) (yY (ysub e0 rfl) (Ya (iV (ws .i64 j 1)) e0 ?_))))))
     refine wK s8 (blockQ fun s9 t0 => bE z fun t1 t2 z => ?_)
     have t3 : ∀ (S : Int) (f : FV) w, f 2 = (pB k) → f 5 = d.v → f 7 = iV j → f 8 = g.v → f 9 = c.v → f 10 = (pB m) → f 11 = iV S → St w0 (imm I1 d.v y.1 :: ros) (box k 27 [hnil.v, hnil.v, hnil.v] :: row 50 rH g.v p :: fam 4 rB p G :: row 4 rB c.v I :: row 3 I1 h.v D :: row 3 I1 t.v J :: row 3 I1 i.v E :: box m 27 [h.v, t.v, i.v] :: rs) w → S = t1 → s9 (.exit 2) (fr 148 f) w := by
      intro S f w t4 t5 i9 t6 t7 t8 t9 b ho
      subst ho
      refine t0 _ _ _ (s7 _ _ (sR fun _ u0 => Ym (iV j) (eh i9) (bE z fun H6 u1 z => yH (rMk b SL_50 e0 u1) fun K w b => Ya K.v e0 (wK u0 (sQ fun _ u2 => sR fun _ u3 => ?_)))))
      refine Ya (iV 0) rfl (wK u3 (blockQ fun u4 u5 => bE z fun u6 u7 z => ?_))
      have u8 : ∀ (f2 : List Bool) (a7 : LI) (f3 : List Bool) (a8 : Hdr) (f : FV) w, f 2 = (pB k) → f 5 = d.v → f 7 = iV j → f 8 = g.v → f 9 = c.v → f 10 = (pB m) → f 15 = K.v → St w0 (imm I1 d.v y.1 :: ros) (box k 27 [hnil.v, hnil.v, hnil.v] :: row 50 rH g.v p :: fam 4 rB p G :: row 4 rB c.v f2 :: row 3 I1 h.v D :: row 3 I1 a8.v a7 :: row 3 I1 i.v E :: box m 27 [h.v, a8.v, i.v] :: row 4 rB K.v f3 :: rs) w → (f2, a7, f3) = u6 → u4 (.exit 6) (fr 148 f) w := by
       intro f2 a7 f3 a8 f w u9 v0 v1 v2 v3 V v4 b ho
       subst ho
       refine u5 _ _ _ (u2 _ _ (sQ fun _ v5 => bE z fun H7 v6 z => bE z fun H8 v7 z => dR [0, 1, 0, 4, 15, 31, 63] [3, 4, 6] 3 folM ?_))
       replace b := b.drew
       refine Dn [0, 1, 2] [] [3] (yR rfl (yFb FL_27_0 (eh V)) (yR rfl (lb_ h.v O_22 e0 b R7) (yR rfl (m_ K.v (eh v4)) (Rn QSn ?_))))
       refine Lc1 rfl ?_
       replace b := (b.k2b).fz
       refine Lk wn (yCall FN_27 (a2 e0 rfl)) (sparseref13_Chosen_ok v6 F0 b) ?_
       rintro _ w ⟨H9, rfl, b⟩
       refine ⟨_, rfl, ?_⟩
       refine Dn [] [0, 1] [4] (Rn (yS rfl (yFb FL_27_0 (eh V)) (yS rfl (lb_ h.v O_22 e0 b R8) QSn)) ?_)
       refine Lc1 rfl ?_
       replace b := b.k1k
       refine LH wn (rAp b SL_22 e0 e0 rO1 v7) fun j0 w b => Dn [5] [] [6] (yR rfl (yFb FL_27_0 (eh V)) (Rn QSn ?_))
       refine Lc1 rfl ?_
       replace b := b.k2b
       refine LT wn (r_stb1 (vals' := [j0.v, a8.v, i.v]) b O_22 e0 e0 rfl rfl rfl rfl) fun w b => Dz [] [] (Rn QSn (v5 _ _ (wR (yY (yFb FL_27_2 (eh V)) (yY (lb_ i.v O_22 e0 b R0) (yY (yFb FL_27_1 (eh V)) (yY (lb_ a8.v O_22 e0 b R0) (yY (yLen SL_22 e0 b rO7) (yH (rLt (n := 1) (l := [(a7.length : Int)]) b SL_22 [iV (a7.length : Int)] (bp1 e0) rfl rfl (mks1 (cs := [iV (a7.length : Int)]) rfl mkI mks0)) fun I0 w b => bE z fun I2 v8 z => ?_)))))))))
       refine yH (rAp (b.k39) SL_22 e0 e0 rO1 v8) fun v9 w b => yY (yFb FL_27_2 (eh V)) (yT (r_stb1 (vals' := [j0.v, a8.v, v9.v]) (b.k17) O_22 e0 e0 rfl rfl rfl rfl) fun w b => wN (s5 _ _ _ ?_))
       cases z
       exact r9 _ _ _ rfl ⟨_, _, _, _, _, _, _, _, rfl, rfl, u9, v0, v1, v2, v3, V, ((b.k3k).facts (allC F1 (allT (allT allI))))⟩
      refine loopQ (fun s a w => ∃ (c4 : List Bool) (c5 : LI) (c6 : List Bool) (A : Int) (f : FV) (a9 : Hdr), (c4, c5, c6, A) = s ∧ a = fr 148 f ∧ f 2 = (pB k) ∧ f 5 = d.v ∧ f 7 = iV j ∧ f 8 = g.v ∧ f 9 = c.v ∧ f 10 = (pB m) ∧ f 11 = iV S ∧ f 15 = K.v ∧ f 16 = iV A ∧ St w0 (imm I1 d.v y.1 :: ros) (box k 27 [hnil.v, hnil.v, hnil.v] :: row 50 rH g.v p :: fam 4 rB p G :: row 4 rB c.v c4 :: row 3 I1 h.v D :: row 3 I1 a9.v c5 :: row 3 I1 i.v E :: box m 27 [h.v, a9.v, i.v] :: row 4 rB K.v c6 :: rs) w) u7 ⟨_, _, _, _, _, _, rfl, rfl, t4, t5, i9, t6, t7, t8, t9, rfl, rfl, (b.k3l)⟩ ?_
      rintro _ _ w w1 ⟨c4, c5, c6, A, f, a9, rfl, rfl, f4, f5, c7, b1, f6, f7, c8, f8, b2, b⟩ q w2 I3 w3 w4
      refine seqQ fun I4 w5 w6 => sR fun _ w7 => Ym (iV A) (eh b2) (Ym (iV j) (eh c7) (yY (ylss e0 e0) (wK w7 ?_)))
      refine cIf e0 q (fun w8 q => ?_) fun w8 q => ?_
      ·refine wp_skip (w5 _ _ (sQ fun _ w9 => blockQ fun x0 x4 => sR fun _ x6 => Ym g.v (eh b1) (Ym (iV S) (eh c8) (bE q fun I5 f9 q => ?_))))
       obtain ⟨I6, c9⟩ := b.famI R2 f9
       refine yY (yIa SLH_70 e0 e0 b rO1 c9) (yY (yF1 O_50 e0 b rO1 c9 rfl) (Ym (iV A) (eh b2) (bE q fun x8 j1 q => yY (yIa SL_50 e0 e0 b (rdF R2 c9 f9) j1) (yY (yB O_4 e0 b (rdF R2 c9 f9) j1) (Ym (.bool x8) e0 (bE q fun x9 N q => ?_))))))
       refine joinW 8 (fun f w => f 2 = (pB k) ∧ f 5 = d.v ∧ f 7 = iV j ∧ f 8 = g.v ∧ f 9 = c.v ∧ f 10 = (pB m) ∧ f 11 = iV S ∧ f 15 = K.v ∧ f 16 = iV A ∧ f 117 = .bool x9 ∧ St w0 (imm I1 d.v y.1 :: ros) (box k 27 [hnil.v, hnil.v, hnil.v] :: row 50 rH g.v p :: fam 4 rB p G :: row 4 rB c.v c4 :: row 3 I1 h.v D :: row 3 I1 a9.v c5 :: row 3 I1 i.v E :: box m 27 [h.v, a9.v, i.v] :: row 4 rB K.v c6 :: rs) w) (fun j2 => ?_) ?_
       ·rcases iteS N with ⟨B, N⟩ | ⟨B, N⟩
        ·refine yG B (m_ g.v (eh b1)) (yG B (m_ (iV A) (eh b2)) (bE N fun I7 g0 N => ?_))
         obtain ⟨I8, d0⟩ := b.famI R2 g0
         refine yG B (yIa SLH_70 e0 e0 b rO1 d0) (yG B (yF1 O_50 e0 b rO1 d0 rfl) (yG B (m_ (iV S) (eh c8)) (bE N fun y0 j3 N => yG B (yIa SL_50 e0 e0 b (rdF R2 d0 g0) j3) (yG B (yB O_4 e0 b (rdF R2 d0 g0) j3) (yY (pt_ (.bool y0) e0 B e0) ?_)))))
         cases N
         exact j2 _ _ ⟨f4, f5, c7, b1, f6, f7, c8, f8, b2, rfl, b⟩
        ·refine gN (bfalse B) (gN (bfalse B) (gN (bfalse B) (gN (bfalse B) (gN (bfalse B) (gN (bfalse B) (gN (bfalse B) (yY (pf_ (.bool false) e0 (bfalse B) rfl) ?_)))))))
         cases N
         exact j2 _ _ ⟨f4, f5, c7, b1, f6, f7, c8, f8, b2, rfl, b⟩
       rintro f w ⟨j4, g1, j5, j6, g2, d1, j7, g3, b3, y1, b⟩
       refine wK x6 ?_
       have j8 : ∀ (g4 : List Bool) (g5 : LI) (g6 : List Bool) (g7 : Hdr) (f : FV) w, f 2 = (pB k) → f 5 = d.v → f 7 = iV j → f 8 = g.v → f 9 = c.v → f 10 = (pB m) → f 11 = iV S → f 15 = K.v → f 16 = iV A → St w0 (imm I1 d.v y.1 :: ros) (box k 27 [hnil.v, hnil.v, hnil.v] :: row 50 rH g.v p :: fam 4 rB p G :: row 4 rB c.v g4 :: row 3 I1 h.v D :: row 3 I1 g7.v g5 :: row 3 I1 i.v E :: box m 27 [h.v, g7.v, i.v] :: row 4 rB K.v g6 :: rs) w → sparseref15_Triangular_j161 A g4 g5 g6 = some w1 → x0 .normal (fr 148 f) w := by
        intro g4 g5 g6 g7 f w y2 y3 y4 y5 y6 y7 y8 y9 z0 b o
        refine x4 _ _ _ (w9 _ _ (wR (Ym (iV A) (eh z0) (yY (yadd e0 rfl) (Ya (iV (wa .i64 A 1)) e0 (wN ?_))))))
        cases o
        exact w3 _ _ _ rfl ⟨_, _, _, _, _, _, rfl, rfl, y2, y3, y4, y5, y6, y7, y8, y9, rfl, b⟩
       refine cB (eh y1) q (fun z1 q => ?_) fun z1 q => ?_
       ·refine sR fun _ z3 => Ym c.v (eh g2) (Ym (iV A) (eh b3) (bE q fun I9 j9 q => yY (yIs SL_50 e0 e0 b rO3 j9) (yT (r_sti (cs := [.bool true]) (b.k14) O_4 rfl e0 rfl rfl mkB j9) fun w b => wK z3 (sR fun _ z4 => yY (yFb FL_27_1 (eh d1)) (yY (lb_ a9.v O_22 e0 b R7) ?_)))))
        refine Ym (iV A) (eh b3) (yH (rLt (n := 1) (l := [A]) b SL_22 [iV A] (bp1 e0) rfl rfl (mks1 (cs := [iV A]) rfl mkI mks0)) fun J0 w b => bE q fun J1 z6 q => yH (rAp (b.k1a) SL_22 e0 e0 rO1 z6) fun z7 w b => yY (yFb FL_27_1 (eh d1)) (yT (r_stb1 (vals' := [h.v, z7.v, i.v]) (b.k2b) O_22 e0 e0 rfl rfl rfl rfl) fun w b => wK z4 (wR (Ym K.v (eh g3) (Ym d.v (eh g1) ?_)))))
        exact Ym (iV A) (eh b3) (bE q fun J2 k0 q => yY (yIa SL_22 e0 e0 b (rdI F0) k0) (yY (yI O_3 e0 b (rdI F0) k0) (bE q fun J3 l0 q => yY (yIs SL_50 e0 e0 b rO9 l0) (yT (r_sti (cs := [.bool true]) (b.k39) O_4 rfl e0 rfl rfl mkB l0) fun w b => wN (j8 _ _ _ _ _ _ j4 g1 j5 j6 g2 d1 j7 g3 b3 (b.k3m) q)))))
       ·exact wp_skip (j8 _ _ _ _ _ _ j4 g1 j5 j6 g2 d1 j7 g3 b3 b q)
      ·refine wp_exit (w6 _ _ _ rfl ?_)
       cases q
       exact w4 _ _ _ _ rfl rfl (u8 _ _ _ _ _ _ f4 f5 c7 b1 f6 f7 f8 b (w2 _ rfl))
     refine loopQ (fun s a w => ∃ (T x : Int) (f : FV), (T, x) = s ∧ a = fr 148 f ∧ f 2 = (pB k) ∧ f 5 = d.v ∧ f 7 = iV j ∧ f 8 = g.v ∧ f 9 = c.v ∧ f 10 = (pB m) ∧ f 11 = iV T ∧ f 12 = iV x ∧ St w0 (imm I1 d.v y.1 :: ros) (box k 27 [hnil.v, hnil.v, hnil.v] :: row 50 rH g.v p :: fam 4 rB p G :: row 4 rB c.v I :: row 3 I1 h.v D :: row 3 I1 t.v J :: row 3 I1 i.v E :: box m 27 [h.v, t.v, i.v] :: rs) w) t2 ⟨_, _, _, rfl, rfl, i8, r5, f0, r6, r7, f1, rfl, rfl, b⟩ ?_
     rintro _ _ w z9 ⟨T, x, f, rfl, rfl, l1, l2, l3, l4, g8, l5, l6, g9, b⟩ H A0 J4 A1 A2
     refine seqQ fun J5 A3 A4 => sR fun _ A5 => Ym (iV x) (eh g9) (yY (ygeq e0 rfl) (wK A5 ?_))
     refine cIf e0 H (fun A6 H => ?_) fun A6 H => ?_
     ·refine wp_skip (A3 _ _ (sQ fun _ A7 => blockQ fun A8 A9 => sR fun _ B0 => Ym c.v (eh g8) (Ym (iV x) (eh g9) (bE H fun B1 l7 H => yY (yIa SL_50 e0 e0 b rO3 l7) (yY (yB O_4 e0 b rO3 l7) (yY (ynot e0) (Ya (.bool (!B1)) e0 (wN ?_))))))))
      refine B0 _ _ (sQ fun _ B2 => sR fun _ B3 => Ya (iV 0) rfl (wK B3 (blockQ fun B4 B5 => bE H fun B6 B7 H => ?_)))
      have B8 : ∀ (d2 : Bool) (f : FV) w, f 2 = (pB k) → f 5 = d.v → f 7 = iV j → f 8 = g.v → f 9 = c.v → f 10 = (pB m) → f 11 = iV T → f 12 = iV x → f 13 = .bool d2 → St w0 (imm I1 d.v y.1 :: ros) (box k 27 [hnil.v, hnil.v, hnil.v] :: row 50 rH g.v p :: fam 4 rB p G :: row 4 rB c.v I :: row 3 I1 h.v D :: row 3 I1 t.v J :: row 3 I1 i.v E :: box m 27 [h.v, t.v, i.v] :: rs) w → d2 = B6 → B4 (.exit 4) (fr 148 f) w := by
       intro d2 f w l8 l9 m0 m1 m2 m3 B9 h0 C0 b ho
       subst ho
       refine B5 _ _ _ (B2 _ _ (sR fun _ C1 => Ym (.bool d2) (eh C0) (wK C1 ?_)))
       have m4 : ∀ (h1 : Int) (f : FV) w, f 2 = (pB k) → f 5 = d.v → f 7 = iV j → f 8 = g.v → f 9 = c.v → f 10 = (pB m) → f 11 = iV h1 → f 12 = iV x → St w0 (imm I1 d.v y.1 :: ros) (box k 27 [hnil.v, hnil.v, hnil.v] :: row 50 rH g.v p :: fam 4 rB p G :: row 4 rB c.v I :: row 3 I1 h.v D :: row 3 I1 t.v J :: row 3 I1 i.v E :: box m 27 [h.v, t.v, i.v] :: rs) w → sparseref15_Triangular_j173 x h1 = some z9 → A8 .normal (fr 148 f) w := by
        intro h1 f w C2 C3 C4 C5 C6 C7 C8 C9 b o
        refine A9 _ _ _ (A7 _ _ (wR (Ym (iV x) (eh C9) (yY (ysub e0 rfl) (Ya (iV (ws .i64 x 1)) e0 (wN ?_))))))
        cases o
        exact A1 _ _ _ rfl ⟨_, _, _, rfl, rfl, C2, C3, C4, C5, C6, C7, C8, rfl, b⟩
       refine cB e0 H (fun D0 H => ?_) fun D0 H => ?_
       ·exact wR (Ym (iV x) (eh h0) (Ya (iV x) e0 (wN (m4 _ _ _ l8 l9 m0 m1 m2 m3 rfl h0 b H))))
       ·exact wp_skip (m4 _ _ _ l8 l9 m0 m1 m2 m3 B9 h0 b H)
      refine loopQ (fun s a w => ∃ (W : Bool) (F : Int) (f : FV), (W, F) = s ∧ a = fr 148 f ∧ f 2 = (pB k) ∧ f 5 = d.v ∧ f 7 = iV j ∧ f 8 = g.v ∧ f 9 = c.v ∧ f 10 = (pB m) ∧ f 11 = iV T ∧ f 12 = iV x ∧ f 13 = .bool W ∧ f 14 = iV F ∧ St w0 (imm I1 d.v y.1 :: ros) (box k 27 [hnil.v, hnil.v, hnil.v] :: row 50 rH g.v p :: fam 4 rB p G :: row 4 rB c.v I :: row 3 I1 h.v D :: row 3 I1 t.v J :: row 3 I1 i.v E :: box m 27 [h.v, t.v, i.v] :: rs) w) B7 ⟨_, _, _, rfl, rfl, l1, l2, l3, l4, g8, l5, l6, g9, rfl, rfl, b⟩ ?_
      rintro _ _ w J6 ⟨W, F, f, rfl, rfl, d3, d4, b4, b5, b6, d5, d6, b7, m5, b0, b⟩ X D1 J7 D2 D3
      refine seqQ fun J8 D4 D5 => sR fun _ D6 => Ym (iV F) (eh b0) (Ym (iV j) (eh b4) (yY (ylss e0 e0) (wK D6 ?_)))
      refine cIf e0 X (fun D7 X => ?_) fun D7 X => ?_
      ·refine wp_skip (D4 _ _ (sQ fun _ D8 => blockQ fun _ D9 => wR (Ym (.bool W) (eh m5) (Ym (.bool W) e0 (bE X fun m6 L X => ?_)))))
       refine joinW 24 (fun f w => f 2 = (pB k) ∧ f 5 = d.v ∧ f 7 = iV j ∧ f 8 = g.v ∧ f 9 = c.v ∧ f 10 = (pB m) ∧ f 11 = iV T ∧ f 12 = iV x ∧ f 14 = iV F ∧ f 92 = .bool m6 ∧ St w0 (imm I1 d.v y.1 :: ros) (box k 27 [hnil.v, hnil.v, hnil.v] :: row 50 rH g.v p :: fam 4 rB p G :: row 4 rB c.v I :: row 3 I1 h.v D :: row 3 I1 t.v J :: row 3 I1 i.v E :: box m 27 [h.v, t.v, i.v] :: rs) w) (fun m7 => ?_) ?_
       ·rcases iteS L with ⟨r, L⟩ | ⟨r, L⟩
        ·refine yG r (m_ c.v (eh b6)) (yG r (m_ (iV F) (eh b0)) (bE L fun b8 m8 L => yG r (yIa SL_50 e0 e0 b rO3 m8) (yG r (yB O_4 e0 b rO3 m8) (yG r (m_ (.bool b8) e0) (bE L fun d7 O L => ?_)))))
         refine joinW 9 (fun f w => f 2 = (pB k) ∧ f 5 = d.v ∧ f 7 = iV j ∧ f 8 = g.v ∧ f 9 = c.v ∧ f 10 = (pB m) ∧ f 11 = iV T ∧ f 12 = iV x ∧ f 14 = iV F ∧ f 68 = .bool W ∧ f 69 = c.v ∧ f 70 = iV F ∧ f 72 = .bool b8 ∧ f 73 = .bool b8 ∧ f 82 = .bool d7 ∧ St w0 (imm I1 d.v y.1 :: ros) (box k 27 [hnil.v, hnil.v, hnil.v] :: row 50 rH g.v p :: fam 4 rB p G :: row 4 rB c.v I :: row 3 I1 h.v D :: row 3 I1 t.v J :: row 3 I1 i.v E :: box m 27 [h.v, t.v, i.v] :: rs) w) (fun m9 => ?_) ?_
         ·rcases iteS O with ⟨u, O⟩ | ⟨u, O⟩
          ·refine gN u (gN u (gN u (gN u (gN u (gN u (gN u (gN u (yG r (pt_ (.bool true) e0 u rfl) ?_))))))))
           cases O
           exact m9 _ _ ⟨d3, d4, b4, b5, b6, d5, d6, b7, b0, rfl, rfl, rfl, rfl, rfl, rfl, b⟩
          ·refine yG (bfalse u) (m_ g.v (eh b5)) (yG (bfalse u) (m_ (iV F) (eh b0)) (bE O fun J9 h2 O => ?_))
           obtain ⟨K0, d8⟩ := b.famI R2 h2
           refine yG (bfalse u) (yIa SLH_70 e0 e0 b rO1 d8) (yG (bfalse u) (yF1 O_50 e0 b rO1 d8 rfl) (yG (bfalse u) (m_ (iV x) (eh b7)) (bE O fun E0 n0 O => yG (bfalse u) (yIa SL_50 e0 e0 b (rdF R2 d8 h2) n0) (yG (bfalse u) (yB O_4 e0 b (rdF R2 d8 h2) n0) (yG (bfalse u) (ynot e0) (yG r (pf_ (.bool (!E0)) e0 (bfalse u) e0) ?_))))))
           cases O
           exact m9 _ _ ⟨d3, d4, b4, b5, b6, d5, d6, b7, b0, rfl, rfl, rfl, rfl, rfl, rfl, b⟩
         rintro f w ⟨n1, n2, n3, h3, n4, n5, n6, h5, h7, c0, n7, n8, n9, o0, h9, b⟩
         refine Y (wg rfl rfl c0 r) rfl (m_ (.bool d7) (eh h9)) (bE L fun o1 R L => ?_)
         refine joinW 8 (fun f w => f 2 = (pB k) ∧ f 5 = d.v ∧ f 7 = iV j ∧ f 8 = g.v ∧ f 9 = c.v ∧ f 10 = (pB m) ∧ f 11 = iV T ∧ f 12 = iV x ∧ f 14 = iV F ∧ f 68 = .bool W ∧ f 69 = c.v ∧ f 70 = iV F ∧ f 72 = .bool b8 ∧ f 73 = .bool b8 ∧ f 82 = .bool d7 ∧ f 83 = .bool d7 ∧ f 91 = .bool o1 ∧ St w0 (imm I1 d.v y.1 :: ros) (box k 27 [hnil.v, hnil.v, hnil.v] :: row 50 rH g.v p :: fam 4 rB p G :: row 4 rB c.v I :: row 3 I1 h.v D :: row 3 I1 t.v J :: row 3 I1 i.v E :: box m 27 [h.v, t.v, i.v] :: rs) w) (fun o2 => ?_) ?_
         ·rcases iteS R with ⟨C, R⟩ | ⟨C, R⟩
          ·refine gN C (gN C (gN C (gN C (gN C (gN C (gN C (Y (wg rfl rfl c0 r) rfl (pt_ (.bool true) e0 C rfl) ?_)))))))
           cases R
           exact o2 _ _ ⟨n1, n2, n3, h3, n4, n5, n6, h5, h7, c0, n7, n8, n9, o0, h9, rfl, rfl, b⟩
          ·refine yG (bfalse C) (m_ g.v (eh h3)) (yG (bfalse C) (m_ (iV x) (eh h5)) (bE R fun K1 i0 R => ?_))
           obtain ⟨K2, d9⟩ := b.famI R2 i0
           refine yG (bfalse C) (yIa SLH_70 e0 e0 b rO1 d9) (yG (bfalse C) (yF1 O_50 e0 b rO1 d9 rfl) (yG (bfalse C) (m_ (iV F) (eh h7)) (bE R fun E1 o3 R => yG (bfalse C) (yIa SL_50 e0 e0 b (rdF R2 d9 i0) o3) (yG (bfalse C) (yB O_4 e0 b (rdF R2 d9 i0) o3) (Y (wg rfl rfl c0 r) rfl (pf_ (.bool E1) e0 (bfalse C) e0) ?_)))))
           cases R
           exact o2 _ _ ⟨n1, n2, n3, h3, n4, n5, n6, h5, h7, c0, n7, n8, n9, o0, h9, rfl, rfl, b⟩
         rintro f w ⟨E2, E3, E4, E5, E6, E7, E8, E9, F2, F3, K3, K4, K5, K6, K7, K8, F4, b⟩
         refine yY (pt_ (.bool o1) (eh F3) r (eh F4)) ?_
         cases L
         exact m7 _ _ ⟨E2, E3, E4, E5, E6, E7, E8, E9, F2, rfl, b⟩
        ·refine gN (bfalse r) (gN (bfalse r) (gN (bfalse r) (gN (bfalse r) (gN (bfalse r) (Gn (wxu rfl rfl rfl) rfl (Gn (wxu rfl rfl rfl) rfl (Gn (wxu rfl rfl rfl) rfl (Gn (wxu rfl rfl rfl) rfl (Gn (wxu rfl rfl rfl) rfl (Gn (wxu rfl rfl rfl) rfl (Gn (wxu rfl rfl rfl) rfl (Gn (wxu rfl rfl rfl) rfl (gN (bfalse r) ?_)))))))))))))
         refine gN (bfalse r) (Gn (wxu rfl rfl rfl) rfl (Gn (wxu rfl rfl rfl) rfl (Gn (wxu rfl rfl rfl) rfl (Gn (wxu rfl rfl rfl) rfl (Gn (wxu rfl rfl rfl) rfl (Gn (wxu rfl rfl rfl) rfl (Gn (wxu rfl rfl rfl) rfl (gN (bfalse r) (yY (pf_ (.bool false) e0 (bfalse r) rfl) ?_)))))))))
         cases L
         exact m7 _ _ ⟨d3, d4, b4, b5, b6, d5, d6, b7, b0, rfl, b⟩
       rintro f w ⟨F5, F6, F7, F8, F9, G0, G1, G2, G3, G4, b⟩
       refine Ya (.bool m6) (eh G4) (wN (D9 _ _ _ (D8 _ _ (wR (Ym (iV F) (eh G3) (yY (yadd e0 rfl) (Ya (iV (wa .i64 F 1)) e0 (wN ?_))))))))
       cases X
       exact D2 _ _ _ rfl ⟨_, _, _, rfl, rfl, F5, F6, F7, F8, F9, G0, G1, G2, rfl, rfl, b⟩
      ·refine wp_exit (D5 _ _ _ rfl ?_)
       cases X
       exact D3 _ _ _ _ rfl rfl (B8 _ _ _ d3 d4 b4 b5 b6 d5 d6 b7 m5 b (D1 _ rfl))
     ·refine wp_exit (A4 _ _ _ rfl ?_)
      cases H
      exact A2 _ _ _ _ rfl rfl (t3 _ _ _ l1 l2 l3 l4 g8 l5 l6 b (A0 _ rfl))
    ·refine wp_exit (s2 _ _ _ rfl ?_)
     cases z
     exact s0 _ _ _ _ rfl rfl (r2 _ _ _ _ _ _ _ _ i8 f1 ((b.k3n).facts (allT allI)) (r8 _ rfl))
   ·refine condT e0 (nT (bfalse e6)) (sR fun _ G5 => yY (ybuild (us := [hnil.v, hnil.v, hnil.v]) [] SO_27 bp0 rfl) (yT (r_stbn (vals' := [hnil.v, hnil.v, hnil.v]) (us := [hnil.v, hnil.v, hnil.v]) (b.k11) ST_27 e0 e0 rfl rfl (one_of rfl) rfl) fun w b => Ya (iV 9) rfl (wK G5 (wp_ret (p6 _ _ _ rfl ?_)))))
    cases o
    replace b := ((b.rowNh 3 I1).rowNh 3 I1).rowNh 3 I1
    exact c1 _ _ _ (fin2r Tryz.results10 (rcs2 rfl rfl b R3 ST_27 rfl) ⟨rfl, rfl⟩ ⟨_, _, _, rfl, (b.k3o)⟩)
  ·refine condT e0 (nT (dF e5)) (sR fun _ G6 => yY (ybuild (us := [hnil.v, hnil.v, hnil.v]) [] SO_27 bp0 rfl) (yT (r_stbn (vals' := [hnil.v, hnil.v, hnil.v]) (us := [hnil.v, hnil.v, hnil.v]) b ST_27 e0 e0 rfl rfl (one_of rfl) rfl) fun w b => Ya (iV 5) rfl (wK G6 (wp_ret (p1 _ _ _ rfl ?_)))))
   cases o
   replace b := ((b.rowNh 3 I1).rowNh 3 I1).rowNh 3 I1
   exact c1 _ _ _ (fin2r Tryz.results10 (rcs2 rfl rfl b R3 ST_27 rfl) ⟨rfl, rfl⟩ ⟨_, _, _, rfl, (b.k1s)⟩)
 ·refine condT e0 (nT (dF e4)) (sR fun _ G7 => yY (ybuild (us := [hnil.v, hnil.v, hnil.v]) [] SO_27 bp0 rfl) (Ym (iV c2) e0 (yT (r_stbn (vals' := [hnil.v, hnil.v, hnil.v]) (us := [hnil.v, hnil.v, hnil.v]) b ST_27 e0 e0 rfl rfl (one_of rfl) rfl) fun w b => Ya (iV c2) e0 (wK G7 (wp_ret (o6 _ _ _ rfl ?_))))))
  cases o
  replace b := ((b.rowNh 3 I1).rowNh 3 I1).rowNh 3 I1
  exact c1 _ _ _ (fin2r Tryz.results10 (rcs2 rfl rfl b R3 ST_27 rfl) ⟨rfl, rfl⟩ ⟨_, _, _, rfl, (b.k1s)⟩)
theorem sparselaw15_same_ok {K L N O R S T U V W X Z : LI} {j k l m n o p q r s t u : Hdr} {out : Bool} (b : sparselaw15_same K L N O R S T U V W X Z = some out) (b1 : imm I1 j.v K ∈ ros) (b2 : imm I1 k.v L ∈ ros) (b3 : imm I1 l.v N ∈ ros) (b4 : imm I1 m.v O ∈ ros) (b5 : imm I1 n.v R ∈ ros) (b6 : imm I1 o.v S ∈ ros) (b7 : imm I1 p.v T ∈ ros) (b8 : imm I1 q.v U ∈ ros) (b9 : imm I1 r.v V ∈ ros) (c0 : imm I1 s.v W ∈ ros) (c1 : imm I1 t.v X ∈ ros) (c2 : imm I1 u.v Z ∈ ros) (a : St w0 ros rs w) :
  Calls Tryz.prog 11 #[.agg #[j.v, k.v, l.v, m.v, n.v, o.v], .agg #[p.v, q.v, r.v, s.v, t.v, u.v]] w (fun e w => e = .returned (.bool out) ∧ St w0 ros rs w) := by
 refine enterQ Tryz.func11 rfl Tryz.ntmps11 rfl fun Q c3 => sR fun _ c4 => yBb (r_box (vals := [j.v, k.v, l.v, m.v, n.v, o.v]) a e0 rfl) fun x w a => yBb (r_box (vals := [p.v, q.v, r.v, s.v, t.v, u.v]) a e0 rfl) fun y w a => Ya (.bool false) rfl (wK c4 (sR fun _ c5 => yY (yFb FL_32_0 e0) (yY (lb_ j.v O_22 e0 a R1) ?_)))
 refine yY (yFb FL_32_0 e0) (yY (lb_ p.v O_22 e0 a R0) (bE b fun c6 c7 b => yC (yCall FN_16 (a2 e0 e0)) (sparsekit_Ints_ok c7 b1 b7 a) ?_))
 rintro _ w ⟨rfl, a⟩
 refine ⟨_, rfl, ?_⟩
 refine Ym (.bool c6) e0 (bE b fun a0 z b => ?_)
 refine joinW 6 (fun f w => f 2 = (pB x) ∧ f 3 = (pB y) ∧ f 16 = .bool a0 ∧ St w0 ros (box x 32 [j.v, k.v, l.v, m.v, n.v, o.v] :: box y 32 [p.v, q.v, r.v, s.v, t.v, u.v] :: rs) w) (fun a1 => ?_) ?_
 ·rcases iteS z with ⟨c, z⟩ | ⟨c, z⟩
  ·refine yG c (yFb FL_32_1 e0) (yG c (lb_ k.v O_22 e0 a R1) (yG c (yFb FL_32_1 e0) (yG c (lb_ q.v O_22 e0 a R0) (bE z fun c8 c9 z => Yc (wG c) rfl (yCall FN_16 (a2 e0 e0)) (sparsekit_Ints_ok c9 b2 b8 a) ?_))))
   rintro _ w ⟨rfl, a⟩
   refine ⟨_, rfl, ?_⟩
   refine yY (pt_ (.bool c8) e0 c e0) ?_
   cases z
   exact a1 _ _ ⟨rfl, rfl, rfl, (a.k11)⟩
  ·refine gN (bfalse c) (gN (bfalse c) (gN (bfalse c) (gN (bfalse c) (gN (bfalse c) (yY (pf_ (.bool false) e0 (bfalse c) rfl) ?_)))))
   cases z
   exact a1 _ _ ⟨rfl, rfl, rfl, (a.k11)⟩
 rintro f w ⟨E, F, d0, a⟩
 refine Ym (.bool a0) (eh d0) (bE b fun a3 A b => ?_)
 refine joinW 6 (fun f w => f 2 = (pB x) ∧ f 3 = (pB y) ∧ f 23 = .bool a3 ∧ St w0 ros (box x 32 [j.v, k.v, l.v, m.v, n.v, o.v] :: box y 32 [p.v, q.v, r.v, s.v, t.v, u.v] :: rs) w) (fun a4 => ?_) ?_
 ·rcases iteS A with ⟨d, A⟩ | ⟨d, A⟩
  ·refine yG d (yFb FL_32_2 (eh E)) (yG d (lb_ l.v O_22 e0 a R0) (yG d (yFb FL_32_2 (eh F)) (yG d (lb_ r.v O_22 e0 a R1) (bE A fun d1 d2 A => Yc (wG d) rfl (yCall FN_16 (a2 e0 e0)) (sparsekit_Ints_ok d2 b3 b9 a) ?_))))
   rintro _ w ⟨rfl, a⟩
   refine ⟨_, rfl, ?_⟩
   refine yY (pt_ (.bool d1) e0 d e0) ?_
   cases A
   exact a4 _ _ ⟨E, F, rfl, a⟩
  ·refine gN (bfalse d) (gN (bfalse d) (gN (bfalse d) (gN (bfalse d) (gN (bfalse d) (yY (pf_ (.bool false) e0 (bfalse d) rfl) ?_)))))
   cases A
   exact a4 _ _ ⟨E, F, rfl, a⟩
 rintro f w ⟨G, H, d3, a⟩
 refine Ym (.bool a3) (eh d3) (bE b fun a5 B b => ?_)
 refine joinW 6 (fun f w => f 2 = (pB x) ∧ f 3 = (pB y) ∧ f 30 = .bool a5 ∧ St w0 ros (box x 32 [j.v, k.v, l.v, m.v, n.v, o.v] :: box y 32 [p.v, q.v, r.v, s.v, t.v, u.v] :: rs) w) (fun a6 => ?_) ?_
 ·rcases iteS B with ⟨g, B⟩ | ⟨g, B⟩
  ·refine yG g (yFb FL_32_3 (eh G)) (yG g (lb_ m.v O_22 e0 a R0) (yG g (yFb FL_32_3 (eh H)) (yG g (lb_ s.v O_22 e0 a R1) (bE B fun d4 d5 B => Yc (wG g) rfl (yCall FN_16 (a2 e0 e0)) (sparsekit_Ints_ok d5 b4 c0 a) ?_))))
   rintro _ w ⟨rfl, a⟩
   refine ⟨_, rfl, ?_⟩
   refine yY (pt_ (.bool d4) e0 g e0) ?_
   cases B
   exact a6 _ _ ⟨G, H, rfl, a⟩
  ·refine gN (bfalse g) (gN (bfalse g) (gN (bfalse g) (gN (bfalse g) (gN (bfalse g) (yY (pf_ (.bool false) e0 (bfalse g) rfl) ?_)))))
   cases B
   exact a6 _ _ ⟨G, H, rfl, a⟩
 rintro f w ⟨I, J, d6, a⟩
 refine Ym (.bool a5) (eh d6) (bE b fun a7 C b => ?_)
 refine joinW 6 (fun f w => f 2 = (pB x) ∧ f 3 = (pB y) ∧ f 37 = .bool a7 ∧ St w0 ros (box x 32 [j.v, k.v, l.v, m.v, n.v, o.v] :: box y 32 [p.v, q.v, r.v, s.v, t.v, u.v] :: rs) w) (fun a8 => ?_) ?_
 ·rcases iteS C with ⟨h, C⟩ | ⟨h, C⟩
  ·refine yG h (yFb FL_32_4 (eh I)) (yG h (lb_ n.v O_22 e0 a R0) (yG h (yFb FL_32_4 (eh J)) (yG h (lb_ t.v O_22 e0 a R1) (bE C fun d7 d8 C => Yc (wG h) rfl (yCall FN_16 (a2 e0 e0)) (sparsekit_Ints_ok d8 b5 c1 a) ?_))))
   rintro _ w ⟨rfl, a⟩
   refine ⟨_, rfl, ?_⟩
   refine yY (pt_ (.bool d7) e0 h e0) ?_
   cases C
   exact a8 _ _ ⟨I, J, rfl, a⟩
  ·refine gN (bfalse h) (gN (bfalse h) (gN (bfalse h) (gN (bfalse h) (gN (bfalse h) (yY (pf_ (.bool false) e0 (bfalse h) rfl) ?_)))))
   cases C
   exact a8 _ _ ⟨I, J, rfl, a⟩
 rintro f w ⟨d9, e1, e2, a⟩
 refine Ym (.bool a7) (eh e2) (bE b fun a9 D b => ?_)
 refine joinW 6 (fun f w => f 44 = .bool a9 ∧ St w0 ros rs w) (fun b0 => ?_) ?_
 ·rcases iteS D with ⟨i, D⟩ | ⟨i, D⟩
  ·refine yG i (yFb FL_32_5 (eh d9)) (yG i (lb_ o.v O_22 e0 a R0) (yG i (yFb FL_32_5 (eh e1)) (yG i (lb_ u.v O_22 e0 a R1) (bE D fun e3 e4 D => Yc (wG i) rfl (yCall FN_16 (a2 e0 e0)) (sparsekit_Ints_ok e4 b6 c2 a) ?_))))
   rintro _ w ⟨rfl, a⟩
   refine ⟨_, rfl, ?_⟩
   refine yY (pt_ (.bool e3) e0 i e0) ?_
   cases D
   exact b0 _ _ ⟨rfl, (a.k1z)⟩
  ·refine gN (bfalse i) (gN (bfalse i) (gN (bfalse i) (gN (bfalse i) (gN (bfalse i) (yY (pf_ (.bool false) e0 (bfalse i) rfl) ?_)))))
   cases D
   exact b0 _ _ ⟨rfl, (a.k1z)⟩
 rintro f w ⟨e5, a⟩
 refine Ya (.bool a9) (eh e5) (wK c5 (wp_ret ?_))
 cases b
 exact c3 _ _ _ (fin1r Tryz.results11 ⟨rfl, rfl⟩ ⟨rfl, a⟩)
theorem sparselaw15_alike_ok {o p q r s t : LI} {i j k l m n : Hdr} {out : Bool} (d : sparselaw15_alike o p q r s t = some out) (C : imm I1 i.v o ∈ ros) (D : imm I1 j.v p ∈ ros) (E : imm I1 k.v q ∈ ros) (F : imm I1 l.v r ∈ ros) (G : imm I1 m.v s ∈ ros) (H : imm I1 n.v t ∈ ros) (a : St w0 ros rs w) :
  Calls Tryz.prog 12 #[.agg #[i.v, j.v, k.v], .agg #[l.v, m.v, n.v]] w (fun e w => e = .returned (.bool out) ∧ St w0 ros rs w) := by
 refine enterQ Tryz.func12 rfl Tryz.ntmps12 rfl fun Q I => sR fun _ J => yBb (r_box (vals := [i.v, j.v, k.v]) a e0 rfl) fun u w a => yBb (r_box (vals := [l.v, m.v, n.v]) a e0 rfl) fun x w a => Ya (.bool false) rfl (wK J (sR fun _ K => yY (yFb FL_27_0 e0) (yY (lb_ i.v O_22 e0 a R1) ?_)))
 refine yY (yFb FL_27_0 e0) (yY (lb_ l.v O_22 e0 a R0) (bE d fun L N d => yC (yCall FN_16 (a2 e0 e0)) (sparsekit_Ints_ok N C F a) ?_))
 rintro _ w ⟨rfl, a⟩
 refine ⟨_, rfl, ?_⟩
 refine Ym (.bool L) e0 (bE d fun y g d => ?_)
 refine joinW 6 (fun f w => f 2 = (pB u) ∧ f 3 = (pB x) ∧ f 16 = .bool y ∧ St w0 ros (box u 27 [i.v, j.v, k.v] :: box x 27 [l.v, m.v, n.v] :: rs) w) (fun z => ?_) ?_
 ·rcases iteS g with ⟨b, g⟩ | ⟨b, g⟩
  ·refine yG b (yFb FL_27_1 e0) (yG b (lb_ j.v O_22 e0 a R1) (yG b (yFb FL_27_1 e0) (yG b (lb_ m.v O_22 e0 a R0) (bE g fun O R g => Yc (wG b) rfl (yCall FN_16 (a2 e0 e0)) (sparsekit_Ints_ok R D G a) ?_))))
   rintro _ w ⟨rfl, a⟩
   refine ⟨_, rfl, ?_⟩
   refine yY (pt_ (.bool O) e0 b e0) ?_
   cases g
   exact z _ _ ⟨rfl, rfl, rfl, (a.k11)⟩
  ·refine gN (bfalse b) (gN (bfalse b) (gN (bfalse b) (gN (bfalse b) (gN (bfalse b) (yY (pf_ (.bool false) e0 (bfalse b) rfl) ?_)))))
   cases g
   exact z _ _ ⟨rfl, rfl, rfl, (a.k11)⟩
 rintro f w ⟨S, T, U, a⟩
 refine Ym (.bool y) (eh U) (bE d fun A h d => ?_)
 refine joinW 6 (fun f w => f 23 = .bool A ∧ St w0 ros rs w) (fun B => ?_) ?_
 ·rcases iteS h with ⟨c, h⟩ | ⟨c, h⟩
  ·refine yG c (yFb FL_27_2 (eh S)) (yG c (lb_ k.v O_22 e0 a R0) (yG c (yFb FL_27_2 (eh T)) (yG c (lb_ n.v O_22 e0 a R1) (bE h fun V W h => Yc (wG c) rfl (yCall FN_16 (a2 e0 e0)) (sparsekit_Ints_ok W E H a) ?_))))
   rintro _ w ⟨rfl, a⟩
   refine ⟨_, rfl, ?_⟩
   refine yY (pt_ (.bool V) e0 c e0) ?_
   cases h
   exact B _ _ ⟨rfl, (a.k1z)⟩
  ·refine gN (bfalse c) (gN (bfalse c) (gN (bfalse c) (gN (bfalse c) (gN (bfalse c) (yY (pf_ (.bool false) e0 (bfalse c) rfl) ?_)))))
   cases h
   exact B _ _ ⟨rfl, (a.k1z)⟩
 rintro f w ⟨X, a⟩
 refine Ya (.bool A) (eh X) (wK K (wp_ret ?_))
 cases d
 exact I _ _ _ (fin1r Tryz.results12 ⟨rfl, rfl⟩ ⟨rfl, a⟩)
theorem sparsekit_Perm_ok {B : LI} {i : Int} {j : Hdr} {out : Bool} (k : sparsekit_Perm B i = some out) (l : imm I1 j.v B ∈ ros) (b : St w0 ros rs w) :
  Calls Tryz.prog 40 #[j.v, iV i] w (fun e w => e = .returned (.bool out) ∧ St w0 ros rs w) := by
 refine enterQ Tryz.func40 rfl Tryz.ntmps40 rfl fun Q u => sR fun _ a0 => Ya (.bool false) rfl (wK a0 (seqQ fun d5 a1 a2 => sR fun _ a3 => Ym j.v e0 (yY (yLen SL_22 e0 b (rdI l)) (Ym (iV i) e0 (yY (yneq e0 e0) (wN ?_))))))
 refine a3 _ _ ?_
 rcases iteS k with ⟨x, k⟩ | ⟨x, k⟩
 ·refine condF e0 (nF (dT x)) (wp_skip (a1 _ _ (sR fun _ a4 => Ym (iV i) e0 (bE k fun d6 a5 k => yH (rMk b SL_50 e0 a5) fun m w b => Ya m.v e0 (wK a4 (seqQ fun d7 a6 a7 => sQ fun _ a8 => ?_))))))
  refine wR (Ya (iV 0) rfl (wK a8 (blockQ fun C D => bE k fun E a9 k => ?_)))
  have b0 : ∀ (f : FV) w, St w0 ros rs w → .inl () = E → C (.exit 0) (fr 46 f) w := by
   intro f w b ho
   subst ho
   refine D _ _ _ (a6 _ _ (sR fun _ b1 => Ya (.bool true) rfl (wK b1 (wp_ret ?_))))
   cases k
   exact u _ _ _ (fin1r Tryz.results40 ⟨rfl, rfl⟩ ⟨rfl, b⟩)
  have b2 : ∀ (f : FV) w, f 4 = .bool false → St w0 ros rs w → .inr () = E → C .ret (fr 46 f) w := by
   intro f w b3 b ho
   subst ho
   refine D _ _ _ (a7 _ _ _ rfl ?_)
   cases k
   exact u _ _ _ (fin1r Tryz.results40 ⟨rfl, b3⟩ ⟨rfl, b⟩)
  refine loopQ (fun s a w => ∃ (p : List Bool) (h : Int) (f : FV), (p, h) = s ∧ a = fr 46 f ∧ f 0 = j.v ∧ f 1 = iV i ∧ f 5 = m.v ∧ f 6 = iV h ∧ St w0 ros (row 4 rB m.v p :: rs) w) a9 ⟨_, _, _, rfl, rfl, rfl, rfl, rfl, rfl, b⟩ ?_
  rintro _ _ w d8 ⟨p, h, f, rfl, rfl, r, t, F, q, b⟩ c G d9 b4 H
  refine seqQ fun e1 b5 b6 => sR fun _ b7 => Ym (iV h) (eh q) (Ym (iV i) (eh t) (yY (ylss e0 e0) (wK b7 ?_)))
  refine cIf e0 c (fun b8 c => ?_) fun b8 c => ?_
  ·refine wp_skip (b5 _ _ (seqQ fun e2 b9 c0 => blockQ fun _ I => seqQ fun e3 c1 c2 => sR fun _ c3 => Ym j.v (eh r) (Ym (iV h) (eh q) (bE c fun c5 J c => yY (yIa SL_22 e0 e0 b (rdI l) J) (yY (yI O_3 e0 b (rdI l) J) (yY (ylss e0 rfl) (Ym (.bool (decide (c5 < 0))) e0 ?_)))))))
   refine bE c fun K o c => ?_
   refine joinW 7 (fun f w => f 0 = j.v ∧ f 1 = iV i ∧ f 5 = m.v ∧ f 6 = iV h ∧ f 30 = .bool K ∧ St w0 ros (row 4 rB m.v p :: rs) w) (fun L => ?_) ?_
   ·rcases iteS o with ⟨g, o⟩ | ⟨g, o⟩
    ·refine gN (dT g) (gN (dT g) (gN (dT g) (gN (dT g) (gN (dT g) (gN (dT g) (yY (pt_ (.bool true) e0 (dT g) rfl) ?_))))))
     cases o
     exact L _ _ ⟨r, t, F, q, rfl, b⟩
    ·refine yG (dF g) (m_ j.v (eh r)) (yG (dF g) (m_ (iV h) (eh q)) (bE o fun c6 N o => yG (dF g) (yIa SL_22 e0 e0 b (rdI l) N) (yG (dF g) (yI O_3 e0 b (rdI l) N) (yG (dF g) (m_ (iV i) (eh t)) (yG (dF g) (ygeq e0 e0) (yY (pf_ (.bool (decide (i ≤ c6))) e0 (dF g) e0) ?_))))))
     cases o
     exact L _ _ ⟨r, t, F, q, rfl, b⟩
   rintro f w ⟨y, O, z, A, c7, b⟩
   refine Ym (.bool K) (eh c7) (bE c fun c8 n c => ?_)
   refine joinW 8 (fun f w => f 0 = j.v ∧ f 1 = iV i ∧ f 5 = m.v ∧ f 6 = iV h ∧ f 39 = .bool c8 ∧ St w0 ros (row 4 rB m.v p :: rs) w) (fun R => ?_) ?_
   ·rcases iteS n with ⟨d, n⟩ | ⟨d, n⟩
    ·refine gN d (gN d (gN d (gN d (gN d (gN d (gN d (yY (pt_ (.bool true) e0 d rfl) ?_)))))))
     cases n
     exact R _ _ ⟨y, O, z, A, rfl, b⟩
    ·refine yG (bfalse d) (m_ m.v (eh z)) (yG (bfalse d) (m_ j.v (eh y)) (yG (bfalse d) (m_ (iV h) (eh A)) (bE n fun e4 S n => yG (bfalse d) (yIa SL_22 e0 e0 b (rdI l) S) (yG (bfalse d) (yI O_3 e0 b (rdI l) S) (bE n fun c9 T n => yG (bfalse d) (yIa SL_50 e0 e0 b rO0 T) (yG (bfalse d) (yB O_4 e0 b rO0 T) (yY (pf_ (.bool c9) e0 (bfalse d) e0) ?_)))))))
     cases n
     exact R _ _ ⟨y, O, z, A, rfl, b⟩
   rintro f w ⟨U, d0, V, W, d1, b⟩
   refine wK c3 (cB (eh d1) c (fun d2 c => ?_) fun d2 c => ?_)
   ·refine sR fun _ d3 => Ya (.bool false) rfl (wK d3 (wp_ret (c2 _ _ _ rfl (I _ _ _ (c0 _ _ _ rfl ?_)))))
    cases c
    exact H _ _ _ _ rfl rfl (b2 _ _ rfl (b.k10) (G _ rfl))
   ·refine wp_skip (c1 _ _ (wR (Ym m.v (eh V) (Ym j.v (eh U) (Ym (iV h) (eh W) (bE c fun e5 X c => yY (yIa SL_22 e0 e0 b (rdI l) X) (yY (yI O_3 e0 b (rdI l) X) (bE c fun e6 Z c => yY (yIs SL_50 e0 e0 b rO0 Z) (yT (r_sti (cs := [.bool true]) b O_4 rfl e0 rfl rfl mkB Z) fun w b => wN ?_)))))))))
    refine I _ _ _ (b9 _ _ (wR (Ym (iV h) (eh W) (yY (yadd e0 rfl) (Ya (iV (wa .i64 h 1)) e0 (wN ?_))))))
    cases c
    exact b4 _ _ _ rfl ⟨_, _, _, rfl, rfl, U, d0, V, rfl, b⟩
  ·refine wp_exit (b6 _ _ _ rfl ?_)
   cases c
   exact H _ _ _ _ rfl rfl (b0 _ _ (b.k10) (G _ rfl))
 ·refine condT e0 (nT (dF x)) (sR fun _ d4 => Ya (.bool false) rfl (wK d4 (wp_ret (a2 _ _ _ rfl ?_))))
  cases k
  exact u _ _ _ (fin1r Tryz.results40 ⟨rfl, rfl⟩ ⟨rfl, b⟩)
theorem sparsekit_Ascending_ok {l : LI} {g : Hdr} {out : Bool} (i : sparsekit_Ascending l = some out) (h : imm I1 g.v l ∈ ros) (b : St w0 ros rs w) :
  Calls Tryz.prog 41 #[g.v] w (fun e w => e = .returned (.bool out) ∧ St w0 ros rs w) := by
 refine enterQ Tryz.func41 rfl Tryz.ntmps41 rfl fun Q m => sR fun _ y => Ya (.bool false) rfl (wK y (seqQ fun U z A => sR fun _ B => Ya (iV 1) rfl (wK B (blockQ fun n o => bE i fun p C i => ?_))))
 have D : ∀ (f : FV) w, St w0 ros rs w → .inl () = p → n (.exit 0) (fr 20 f) w := by
  intro f w b ho
  subst ho
  refine o _ _ _ (z _ _ (sR fun _ E => Ya (.bool true) rfl (wK E (wp_ret ?_))))
  cases i
  exact m _ _ _ (fin1r Tryz.results41 ⟨rfl, rfl⟩ ⟨rfl, b⟩)
 have F : ∀ (f : FV) w, f 2 = .bool false → St w0 ros rs w → .inr () = p → n .ret (fr 20 f) w := by
  intro f w G b ho
  subst ho
  refine o _ _ _ (A _ _ _ rfl ?_)
  cases i
  exact m _ _ _ (fin1r Tryz.results41 ⟨rfl, G⟩ ⟨rfl, b⟩)
 refine loopQ (fun s a w => ∃ (d : Int) (f : FV), d = s ∧ a = fr 20 f ∧ f 0 = g.v ∧ f 3 = iV d ∧ St w0 ros rs w) C ⟨_, _, rfl, rfl, rfl, rfl, b⟩ ?_
 rintro _ _ w V ⟨d, f, rfl, rfl, j, k, b⟩ c q W H r
 refine seqQ fun X I J => sR fun _ K => Ym (iV d) (eh k) (Ym g.v (eh j) (yY (yLen SL_22 e0 b (rdI h)) (yY (ylss e0 e0) (wK K ?_))))
 refine cIf e0 c (fun L c => ?_) fun L c => ?_
 ·refine wp_skip (I _ _ (seqQ fun Z N O => blockQ fun _ t => sQ fun _ R => bE c fun a0 u c => bE c fun a1 x c => dR [0, 0, 3, 7, 0, 0, 32, 112, 240, 511] [] 0 folM ?_))
  replace b := b.drew
  refine Dz [0, 1, 2, 3, 4, 5, 6, 7, 8, 9] [] (yR rfl (m_ g.v (eh j)) (yR rfl (m_ (iV d) (eh k)) (yR rfl (yIa SL_22 e0 e0 b (rdI h) u) (yR rfl (yI O_3 e0 b (rdI h) u) (yR rfl (m_ g.v (eh j)) (yR rfl (m_ (iV d) (eh k)) (yR rfl (ysub e0 rfl) (yR rfl (yIa SL_22 e0 e0 b (rdI h) x) (yR rfl (yI O_3 e0 b (rdI h) x) (yR rfl (yleq e0 e0) (Rn QSn (R _ _ ?_))))))))))))
  refine cIf e0 c (fun S c => ?_) fun S c => ?_
  ·refine sR fun _ T => Ya (.bool false) rfl (wK T (wp_ret (t _ _ _ (O _ _ _ rfl ?_))))
   cases c
   exact r _ _ _ _ rfl rfl (F _ _ rfl b (q _ rfl))
  ·refine wp_skip (t _ _ _ (N _ _ (wR (Ym (iV d) (eh k) (yY (yadd e0 rfl) (Ya (iV (wa .i64 d 1)) e0 (wN ?_)))))))
   cases c
   exact H _ _ _ rfl ⟨_, _, rfl, rfl, j, rfl, b⟩
 ·refine wp_exit (J _ _ _ rfl ?_)
  cases c
  exact r _ _ _ _ rfl rfl (D _ _ b (q _ rfl))
theorem sparsekit_Invert_ok {p : LI} {h : Hdr} {out : LI} (i : sparsekit_Invert p = some out) (j : imm I1 h.v p ∈ ros) (b : St w0 ros rs w) :
  Calls Tryz.prog 42 #[h.v] w (fun e w => ∃ (q : Hdr), e = .returned (q.v) ∧ St w0 ros (row 3 I1 q.v out :: rs) w) := by
 refine enterQ Tryz.func42 rfl Tryz.ntmps42 rfl fun Q u => sR fun _ x => Ya hnil.v rfl (wK x (sR fun _ y => Ym h.v e0 (yY (yLen SL_22 e0 b (rdI j)) (bE i fun V z i => yH (rMk b SL_22 e0 z) fun g w b => Ya g.v e0 ?_))))
 refine wK y (sQ fun _ A => sR fun _ B => Ya (iV 0) rfl (wK B (blockQ fun C D => bE i fun E F i => ?_)))
 have G : ∀ (l : LI) (f : FV) w, f 3 = g.v → St w0 ros (row 3 I1 g.v l :: rs) w → l = E → C (.exit 0) (fr 22 f) w := by
  intro l f w H b ho
  subst ho
  refine D _ _ _ (A _ _ (sR fun _ I => Ym g.v (eh H) (Ya g.v e0 (wK I (wp_ret ?_)))))
  cases i
  exact u _ _ _ (fin1r Tryz.results42 ⟨rfl, rfl⟩ ⟨_, rfl, b⟩)
 refine loopQ (fun s a w => ∃ (m : LI) (c : Int) (f : FV), (m, c) = s ∧ a = fr 22 f ∧ f 0 = h.v ∧ f 3 = g.v ∧ f 4 = iV c ∧ St w0 ros (row 3 I1 g.v m :: rs) w) F ⟨_, _, _, rfl, rfl, rfl, rfl, rfl, b⟩ ?_
 rintro _ _ w W ⟨m, c, f, rfl, rfl, n, o, k, b⟩ d J X K L
 refine seqQ fun Z N O => sR fun _ R => Ym (iV c) (eh k) (Ym h.v (eh n) (yY (yLen SL_22 e0 b (rdI j)) (yY (ylss e0 e0) (wK R ?_))))
 refine cIf e0 d (fun S d => ?_) fun S d => ?_
 ·refine wp_skip (N _ _ (sQ fun _ T => blockQ fun _ U => wR (Ym g.v (eh o) (Ym h.v (eh n) (Ym (iV c) (eh k) (bE d fun a0 r d => yY (yIa SL_22 e0 e0 b (rdI j) r) (yY (yI O_3 e0 b (rdI j) r) (Ym (iV c) (eh k) (bE d fun a1 t d => yY (yIs SL_22 e0 e0 b rO0 t) ?_)))))))))
  refine yT (r_sti (cs := [iV c]) b O_3 rfl e0 e0 rfl mkI t) fun w b => wN (U _ _ _ (T _ _ (wR (Ym (iV c) (eh k) (yY (yadd e0 rfl) (Ya (iV (wa .i64 c 1)) e0 (wN ?_)))))))
  cases d
  exact K _ _ _ rfl ⟨_, _, _, rfl, rfl, n, o, rfl, b⟩
 ·refine wp_exit (O _ _ _ rfl ?_)
  cases d
  exact L _ _ _ _ rfl rfl (G _ _ _ o b (J _ rfl))
theorem sparseref15_block_ok {l : LI} {h : Int} {i : Hdr} {out : Int} (j : sparseref15_block l h = some out) (m : imm I1 i.v l ∈ ros) (b : St w0 ros rs w) :
  Calls Tryz.prog 44 #[i.v, iV h] w (fun e w => e = .returned (iV out) ∧ St w0 ros rs w) := by
 refine enterQ Tryz.func44 rfl Tryz.ntmps44 rfl fun Q q => sR fun _ r => Ya (iV 0) rfl (wK r (sR fun _ t => Ya (iV 0) rfl (wK t (sQ fun _ u => blockQ fun x y => bE j fun z A j => ?_))))
 have B : ∀ (g : Int) (f : FV) w, f 5 = iV g → St w0 ros rs w → g = z → x (.exit 0) (fr 16 f) w := by
  intro g f w C b ho
  subst ho
  refine y _ _ _ (u _ _ (sR fun _ D => Ym (iV g) (eh C) (Ya (iV g) e0 (wK D (wp_ret ?_)))))
  cases j
  exact q _ _ _ (fin1r Tryz.results44 ⟨rfl, rfl⟩ ⟨rfl, b⟩)
 refine loopQ (fun s a w => ∃ (d : Int) (f : FV), d = s ∧ a = fr 16 f ∧ f 0 = i.v ∧ f 1 = iV h ∧ f 5 = iV d ∧ St w0 ros rs w) A ⟨_, _, rfl, rfl, rfl, rfl, rfl, b⟩ ?_
 rintro _ _ w N ⟨d, f, rfl, rfl, n, o, k, b⟩ c E O F G
 refine seqQ fun R H I => sR fun _ J => Ym i.v (eh n) (Ym (iV d) (eh k) (yY (yadd e0 rfl) (bE c fun S p c => yY (yIa SL_22 e0 e0 b (rdI m) p) (yY (yI O_3 e0 b (rdI m) p) (Ym (iV h) (eh o) (yY (yleq e0 e0) (wK J ?_)))))))
 refine cIf e0 c (fun K c => ?_) fun K c => ?_
 ·refine wp_skip (H _ _ (blockQ fun _ L => wR (Ym (iV d) (eh k) (yY (yadd e0 rfl) (Ya (iV (wa .i64 d 1)) e0 (wN (L _ _ _ ?_)))))))
  cases c
  exact F _ _ _ rfl ⟨_, _, rfl, rfl, n, o, rfl, b⟩
 ·refine wp_exit (I _ _ _ rfl ?_)
  cases c
  exact G _ _ _ _ rfl rfl (B _ _ _ k b (E _ rfl))
theorem sparseref15_Check_ok {n h : Int} {a0 a3 a4 a5 a6 A : LI} {q r t o l i : Hdr} {out : Int} (c : sparseref15_Check n h a0 a3 a4 a5 a6 A = some out) (a7 : imm I1 q.v a0 ∈ ros) (a8 : imm I1 r.v a3 ∈ ros) (a9 : imm (rI .u64) t.v a4 ∈ ros) (b0 : imm I1 o.v a5 ∈ ros) (b1 : imm I1 l.v a6 ∈ ros) (y : imm I1 i.v A ∈ ros) (b : St w0 ros rs w) :
  Calls Tryz.prog 14 #[.agg #[iV n, iV h, q.v, r.v, t.v], .agg #[o.v, l.v, i.v]] w (fun e w => e = .returned (iV out) ∧ St w0 ros rs w) := by
 refine enterQ Tryz.func14 rfl Tryz.ntmps14 rfl fun Q G => sR fun _ d4 => yBb (r_box (vals := [iV n, iV h, q.v, r.v, t.v]) b e0 rfl) fun z w b => yBb (r_box (vals := [o.v, l.v, i.v]) b e0 rfl) fun p w b => Ya (iV 0) rfl (wK d4 (seqQ fun m0 d5 d6 => sR fun _ d7 => yY (lbs_ [iV n, iV h, q.v, r.v, t.v] ST_25 e0 b R1) ?_))
 refine bE c fun K d8 c => yC (yCall FN_23 (a1 e0)) (sparseref09_Check_ok d8 a7 a8 a9 b) ?_
 rintro _ w ⟨rfl, b⟩
 refine ⟨_, rfl, ?_⟩
 refine Ya (iV K) e0 (wK d7 (sR fun _ d9 => Ym (iV K) e0 (yY (yneq e0 rfl) (wK d9 ?_))))
 rcases iteS c with ⟨U, c⟩ | ⟨U, c⟩
 ·refine condF e0 (nF (dT U)) (wp_skip (d5 _ _ (sR fun _ e1 => yY (yFb FL_25_1 e0) (yY (lb_ (iV h) O_3 e0 b R1) (Ya (iV h) e0 (wK e1 (seqQ fun m1 e2 e3 => sR fun _ e4 => yY (yFb FL_25_0 e0) ?_)))))))
  refine yY (lb_ (iV n) O_3 e0 b R1) (Ym (iV h) e0 (yY (yneq e0 e0) (wK e4 ?_)))
  rcases iteS c with ⟨V, c⟩ | ⟨V, c⟩
  ·refine condF e0 (nF (dT V)) (wp_skip (e2 _ _ (seqQ fun m2 e5 e6 => sR fun _ e7 => yY (yFb FL_27_0 e0) (yY (lb_ o.v O_22 e0 b R0) (Ym (iV h) e0 (bE c fun e8 e9 c => yC (yCall FN_40 (a2 e0 e0)) (sparsekit_Perm_ok e9 b0 b) ?_))))))
   rintro _ w ⟨rfl, b⟩
   refine ⟨_, rfl, ?_⟩
   refine yY (ynot e0) (Ym (.bool (!e8)) e0 (bE c fun f0 B c => ?_))
   refine joinW 6 (fun f w => f 2 = (pB z) ∧ f 3 = (pB p) ∧ f 6 = iV h ∧ f 34 = .bool f0 ∧ St w0 ros (box z 25 [iV n, iV h, q.v, r.v, t.v] :: box p 27 [o.v, l.v, i.v] :: rs) w) (fun b2 => ?_) ?_
   ·rcases iteS B with ⟨j, B⟩ | ⟨j, B⟩
    ·refine yG (nF j) (yFb FL_27_1 e0) (yG (nF j) (lb_ l.v O_22 e0 b R0) (yG (nF j) (m_ (iV h) e0) (bE B fun f1 f2 B => Yc (wG (nF j)) rfl (yCall FN_40 (a2 e0 e0)) (sparsekit_Perm_ok f2 b1 b) ?_)))
     rintro _ w ⟨rfl, b⟩
     refine ⟨_, rfl, ?_⟩
     refine yG (nF j) (ynot e0) (yY (pf_ (.bool (!f1)) e0 (nF j) e0) ?_)
     cases B
     exact b2 _ _ ⟨rfl, rfl, rfl, rfl, (b.k11)⟩
    ·refine gN (nT (bfalse j)) (gN (nT (bfalse j)) (gN (nT (bfalse j)) (gN (nT (bfalse j)) (gN (nT (bfalse j)) (yY (pt_ (.bool true) e0 (nT (bfalse j)) rfl) ?_)))))
     cases B
     exact b2 _ _ ⟨rfl, rfl, rfl, rfl, (b.k11)⟩
   rintro f w ⟨b3, L, b4, f3, b⟩
   refine wK e7 (cB (eh f3) c (fun f4 c => ?_) fun f4 c => ?_)
   ·refine sR fun _ f5 => Ya (iV 90) rfl (wK f5 (wp_ret (e6 _ _ _ rfl ?_)))
    cases c
    exact G _ _ _ (fin1r Tryz.results14 ⟨rfl, rfl⟩ ⟨rfl, (b.k1z)⟩)
   ·refine wp_skip (e5 _ _ (sR fun _ f6 => yY (yFb FL_27_2 (eh L)) (yY (lb_ i.v O_22 e0 b R1) (yY (yLen SL_22 e0 b (rdI y)) (Ya (iV (A.length : Int)) e0 (wK f6 (seqQ fun m3 f7 f8 => sR fun _ f9 => Ym (iV (A.length : Int)) e0 ?_)))))))
    refine yY (yeql e0 rfl) (Ym (.bool (decide ((A.length : Int) = 0))) e0 (bE c fun b5 C c => ?_))
    refine joinW 6 (fun f w => f 2 = (pB z) ∧ f 3 = (pB p) ∧ f 6 = iV h ∧ f 7 = iV (A.length : Int) ∧ f 46 = .bool b5 ∧ St w0 ros (box z 25 [iV n, iV h, q.v, r.v, t.v] :: box p 27 [o.v, l.v, i.v] :: rs) w) (fun b6 => ?_) ?_
    ·rcases iteS C with ⟨k, C⟩ | ⟨k, C⟩
     ·refine gN (dT k) (gN (dT k) (gN (dT k) (gN (dT k) (gN (dT k) (yY (pt_ (.bool true) e0 (dT k) rfl) ?_)))))
      cases C
      exact b6 _ _ ⟨b3, L, b4, rfl, rfl, b⟩
     ·refine yG (dF k) (yFb FL_27_2 (eh L)) (yG (dF k) (lb_ i.v O_22 e0 b R1) (bE C fun g0 b7 C => yG (dF k) (yIa SL_22 e0 rfl b (rdI y) b7) (yG (dF k) (yI O_3 e0 b (rdI y) b7) (yG (dF k) (yneq e0 rfl) (yY (pf_ (.bool (!(decide (g0 = 0)))) e0 (dF k) e0) ?_)))))
      cases C
      exact b6 _ _ ⟨b3, L, b4, rfl, rfl, b⟩
    rintro f w ⟨b8, W, g1, g2, g3, b⟩
    refine Ym (.bool b5) (eh g3) (bE c fun b9 D c => ?_)
    refine joinW 9 (fun f w => f 2 = (pB z) ∧ f 3 = (pB p) ∧ f 56 = .bool b9 ∧ St w0 ros (box z 25 [iV n, iV h, q.v, r.v, t.v] :: box p 27 [o.v, l.v, i.v] :: rs) w) (fun c0 => ?_) ?_
    ·rcases iteS D with ⟨g, D⟩ | ⟨g, D⟩
     ·refine gN g (gN g (gN g (gN g (gN g (gN g (gN g (gN g (yY (pt_ (.bool true) e0 g rfl) ?_))))))))
      cases D
      exact c0 _ _ ⟨b8, W, rfl, b⟩
     ·refine yG (bfalse g) (yFb FL_27_2 (eh W)) (yG (bfalse g) (lb_ i.v O_22 e0 b R1) (yG (bfalse g) (m_ (iV (A.length : Int)) (eh g2)) (yG (bfalse g) (ysub e0 rfl) (bE D fun g4 c1 D => yG (bfalse g) (yIa SL_22 e0 e0 b (rdI y) c1) (yG (bfalse g) (yI O_3 e0 b (rdI y) c1) (yG (bfalse g) (m_ (iV h) (eh g1)) (yG (bfalse g) (yneq e0 e0) (yY (pf_ (.bool (!(decide (g4 = h)))) e0 (bfalse g) e0) ?_))))))))
      cases D
      exact c0 _ _ ⟨b8, W, rfl, b⟩
    rintro f w ⟨c2, X, g5, b⟩
    refine Ym (.bool b9) (eh g5) (bE c fun g6 E c => ?_)
    refine joinW 5 (fun f w => f 2 = (pB z) ∧ f 3 = (pB p) ∧ f 62 = .bool g6 ∧ St w0 ros (box z 25 [iV n, iV h, q.v, r.v, t.v] :: box p 27 [o.v, l.v, i.v] :: rs) w) (fun c3 => ?_) ?_
    ·rcases iteS E with ⟨m, E⟩ | ⟨m, E⟩
     ·refine gN m (gN m (gN m (gN m (yY (pt_ (.bool true) e0 m rfl) ?_))))
      cases E
      exact c3 _ _ ⟨c2, X, rfl, b⟩
     ·refine yG (bfalse m) (yFb FL_27_2 (eh X)) (yG (bfalse m) (lb_ i.v O_22 e0 b R1) (bE E fun g7 g8 E => Yc (wG (bfalse m)) rfl (yCall FN_41 (a1 e0)) (sparsekit_Ascending_ok g8 y b) ?_))
      rintro _ w ⟨rfl, b⟩
      refine ⟨_, rfl, ?_⟩
      refine yG (bfalse m) (ynot e0) (yY (pf_ (.bool (!g7)) e0 (bfalse m) e0) ?_)
      cases E
      exact c3 _ _ ⟨c2, X, rfl, b⟩
    rintro f w ⟨g9, N, h0, b⟩
    refine wK f9 (cB (eh h0) c (fun h1 c => ?_) fun h1 c => ?_)
    ·refine sR fun _ h2 => Ya (iV 150) rfl (wK h2 (wp_ret (f8 _ _ _ rfl ?_)))
     cases c
     exact G _ _ _ (fin1r Tryz.results14 ⟨rfl, rfl⟩ ⟨rfl, (b.k1z)⟩)
    ·refine wp_skip (f7 _ _ (sQ fun _ h3 => bE c fun h5 h7 c => bE c fun h9 i0 c => dR [0, 1, 3, 0, 8, 31, 63, 127] [2, 5, 6, 7] 4 folM ?_))
     replace b := b.drew
     refine Dn [0, 1, 3, 4] [] [2] (yR rfl (yFb FL_27_0 (eh N)) (yR rfl (lb_ o.v O_22 e0 b R1) (yR rfl (yFb FL_27_1 (eh N)) (yR rfl (lb_ l.v O_22 e0 b R1) (Rn QSn ?_)))))
     refine Lc1 rfl ?_
     refine Lk wn (yCall FN_42 (a1 e0)) (sparsekit_Invert_ok h7 b0 b) ?_
     rintro _ w ⟨O, rfl, b⟩
     refine ⟨_, rfl, ?_⟩
     refine Dn [] [3, 4] [5] (Rn (yS rfl (yFb FL_27_1 (eh N)) (yS rfl (lb_ l.v O_22 e0 b R2) QSn)) ?_)
     refine Lc1 rfl ?_
     refine Lk wn (yCall FN_42 (a1 e0)) (sparsekit_Invert_ok i0 b1 b) ?_
     rintro _ w ⟨H, rfl, b⟩
     refine ⟨_, rfl, ?_⟩
     refine Dn [] [] [6] (Rn QSn ?_)
     refine Lc1 rfl ?_
     refine Ly wn (a_ O.v e0) (Dn [] [] [7] (Rn QSn ?_))
     refine Lc1 rfl ?_
     refine Ly wn (a_ H.v e0) (Dz [] [] (Rn QSn (h3 _ _ (sR fun _ i1 => yY (lbs_ [iV n, iV h, q.v, r.v, t.v] ST_25 (eh g9) b R2) (bE c fun i2 i3 c => yC (yCall FN_43 (a1 e0)) (sparseref09_Entries_ok i3 a7 a8 a9 b) ?_)))))
     rintro _ w ⟨F, rfl, b⟩
     refine ⟨_, rfl, ?_⟩
     refine Ya F.v e0 (wK i1 (seqQ fun m4 i4 i5 => sR fun _ i6 => Ya (iV 0) rfl (wK i6 (blockQ fun c4 c5 => bE c fun c6 i7 c => ?_))))
     have i8 : ∀ (f : FV) w, St w0 ros rs w → .inl () = c6 → c4 (.exit 0) (fr 100 f) w := by
      intro f w b ho
      subst ho
      refine c5 _ _ _ (i4 _ _ (sR fun _ i9 => Ya (iV 0) rfl (wK i9 (wp_ret ?_))))
      cases c
      exact G _ _ _ (fin1r Tryz.results14 ⟨rfl, rfl⟩ ⟨rfl, b⟩)
     have j0 : ∀ (f : FV) w, f 4 = iV 150 → St w0 ros rs w → .inr () = c6 → c4 .ret (fr 100 f) w := by
      intro f w j5 b ho
      subst ho
      refine c5 _ _ _ (i5 _ _ _ rfl ?_)
      cases c
      exact G _ _ _ (fin1r Tryz.results14 ⟨rfl, j5⟩ ⟨rfl, b⟩)
     refine loopQ (fun s a w => ∃ (x : Int) (f : FV), x = s ∧ a = fr 100 f ∧ f 3 = (pB p) ∧ f 8 = O.v ∧ f 9 = H.v ∧ f 10 = F.v ∧ f 11 = iV x ∧ St w0 ros (box p 27 [o.v, l.v, i.v] :: row 3 I1 O.v h5 :: row 3 I1 H.v h9 :: row 76 rTi64i64u64 F.v i2 :: rs) w) i7 ⟨_, _, rfl, rfl, N, rfl, rfl, rfl, rfl, (b.k3p)⟩ ?_
     rintro _ _ w m5 ⟨x, f, rfl, rfl, R, c7, Z, I, J, b⟩ d c8 m6 j6 c9
     refine seqQ fun m7 j7 j8 => sR fun _ j9 => Ym (iV x) (eh J) (Ym F.v (eh I) (yY (yLen SL_73 e0 b rO3) (yY (ylss e0 e0) (wK j9 ?_))))
     refine cIf e0 d (fun k0 d => ?_) fun k0 d => ?_
     ·refine wp_skip (j7 _ _ (seqQ fun m8 l0 l1 => blockQ fun _ d0 => sQ fun _ l2 => bE d fun l3 d1 d => bE d fun m9 d2 d => bE d fun n0 l4 d => bE d fun d3 S d => bE d fun n1 T d => bE d fun n2 l5 d => dR [0, 1, 0, 0, 0, 24, 56, 120, 252, 508, 1023, 0, 2048, 0, 0, 0, 49152, 114688, 245760, 516096, 1040384, 2097151, 4194303] [10, 21] 2 folM ?_))
      replace b := b.drew
      refine Dn [0, 1, 2, 3, 4, 5, 6, 7, 8, 9, 11, 12, 13, 14, 15, 16, 17, 18, 19, 20] [] [10] (yR rfl (yFb FL_27_2 (eh R)) (yR rfl (lb_ i.v O_22 e0 b R0) (yR rfl (m_ O.v (eh c7)) (yR rfl (m_ F.v (eh I)) (yR rfl (m_ (iV x) (eh J)) (yR rfl (yIa SL_73 e0 e0 b rO3 d1) (yR rfl (yFe FL_76_0 e0) (yR rfl (yFf (u := iV l3.1) O_3 e0 b rO3 d1 rfl) (yR rfl (yIa SL_22 e0 e0 b rO1 d2) (yR rfl (yI O_3 e0 b rO1 d2) (yR rfl (yFb FL_27_2 (eh R)) (yR rfl (lb_ i.v O_22 e0 b R0) (yR rfl (m_ H.v (eh Z)) ?_)))))))))))))
      refine yR rfl (m_ F.v (eh I)) (yR rfl (m_ (iV x) (eh J)) (yR rfl (yIa SL_73 e0 e0 b rO3 S) (yR rfl (yFe FL_76_1 e0) (yR rfl (yFf (u := iV d3.2.1) O_3 e0 b rO3 S rfl) (yR rfl (yIa SL_22 e0 e0 b rO2 T) (yR rfl (yI O_3 e0 b rO2 T) (Rn QSn ?_)))))))
      refine Lc1 rfl ?_
      refine Lk wn (yCall FN_44 (a2 e0 e0)) (sparseref15_block_ok l4 y b) ?_
      rintro _ w ⟨rfl, b⟩
      refine ⟨_, rfl, ?_⟩
      refine Dn [] [11, 12, 13, 14, 15, 16, 17, 18, 19, 20] [21] (Rn (yS rfl (yFb FL_27_2 (eh R)) (yS rfl (lb_ i.v O_22 e0 b R0) (yS rfl (m_ H.v (eh Z)) (yS rfl (m_ F.v (eh I)) (yS rfl (m_ (iV x) (eh J)) (yS rfl (yIa SL_73 e0 e0 b rO3 S) (yS rfl (yFe FL_76_1 e0) (yS rfl (yFf (u := iV d3.2.1) O_3 e0 b rO3 S rfl) (yS rfl (yIa SL_22 e0 e0 b rO2 T) (yS rfl (yI O_3 e0 b rO2 T) QSn)))))))))) ?_)
      refine Lc1 rfl ?_
      refine Lk wn (yCall FN_44 (a2 e0 e0)) (sparseref15_block_ok l5 y b) ?_
      rintro _ w ⟨rfl, b⟩
      refine ⟨_, rfl, ?_⟩
      refine Dz [22] [] (yR rfl (ygtr e0 e0) (Rn QSn (l2 _ _ ?_)))
      refine cIf e0 d (fun l6 d => ?_) fun l6 d => ?_
      ·refine sR fun _ l7 => Ya (iV 150) rfl (wK l7 (wp_ret (d0 _ _ _ (l1 _ _ _ rfl ?_))))
       cases d
       exact c9 _ _ _ _ rfl rfl (j0 _ _ rfl (b.k2h) (c8 _ rfl))
      ·refine wp_skip (d0 _ _ _ (l0 _ _ (wR (Ym (iV x) (eh J) (yY (yadd e0 rfl) (Ya (iV (wa .i64 x 1)) e0 (wN ?_)))))))
       cases d
       exact j6 _ _ _ rfl ⟨_, _, rfl, rfl, R, c7, Z, I, rfl, b⟩
     ·refine wp_exit (j8 _ _ _ rfl ?_)
      cases d
      exact c9 _ _ _ _ rfl rfl (i8 _ _ (b.k2h) (c8 _ rfl))
  ·refine condT e0 (nT (dF V)) (sR fun _ l8 => Ya (iV 5) rfl (wK l8 (wp_ret (e3 _ _ _ rfl ?_))))
   cases c
   exact G _ _ _ (fin1r Tryz.results14 ⟨rfl, rfl⟩ ⟨rfl, (b.k1z)⟩)
 ·refine condT e0 (nT (dF U)) (sR fun _ l9 => Ym (iV K) e0 (Ya (iV K) e0 (wK l9 (wp_ret (d6 _ _ _ rfl ?_)))))
  cases c
  exact G _ _ _ (fin1r Tryz.results14 ⟨rfl, rfl⟩ ⟨rfl, (b.k1z)⟩)
theorem sparsekit_Floats_ok {q r : LI} {h i : Hdr} {out : Bool} (d : sparsekit_Floats q r = some out) (j : imm (rI .u64) h.v q ∈ ros) (l : imm (rI .u64) i.v r ∈ ros) (b : St w0 ros rs w) :
  Calls Tryz.prog 45 #[h.v, i.v] w (fun e w => e = .returned (.bool out) ∧ St w0 ros rs w) := by
 refine enterQ Tryz.func45 rfl Tryz.ntmps45 rfl fun Q m => sR fun _ E => Ya (.bool false) rfl (wK E (seqQ fun a4 F G => sR fun _ H => Ym h.v e0 (yY (yLen SL_23 e0 b (rdI j)) (Ym i.v e0 (yY (yLen SL_23 e0 b (rdI l)) (yY (yneq e0 e0) ?_))))))
 refine wK H ?_
 rcases iteS d with ⟨n, d⟩ | ⟨n, d⟩
 ·refine condF e0 (nF (dT n)) (wp_skip (F _ _ (seqQ fun a5 I J => sR fun _ K => Ya (iV 0) rfl (wK K (blockQ fun t u => bE d fun x L d => ?_)))))
  have N : ∀ (f : FV) w, St w0 ros rs w → .inl () = x → t (.exit 0) (fr 26 f) w := by
   intro f w b ho
   subst ho
   refine u _ _ _ (I _ _ (sR fun _ O => Ya (.bool true) rfl (wK O (wp_ret ?_))))
   cases d
   exact m _ _ _ (fin1r Tryz.results45 ⟨rfl, rfl⟩ ⟨rfl, b⟩)
  have R : ∀ (f : FV) w, f 4 = .bool false → St w0 ros rs w → .inr () = x → t .ret (fr 26 f) w := by
   intro f w S b ho
   subst ho
   refine u _ _ _ (J _ _ _ rfl ?_)
   cases d
   exact m _ _ _ (fin1r Tryz.results45 ⟨rfl, S⟩ ⟨rfl, b⟩)
  refine loopQ (fun s a w => ∃ (g : Int) (f : FV), g = s ∧ a = fr 26 f ∧ f 0 = h.v ∧ f 1 = i.v ∧ f 5 = iV g ∧ St w0 ros rs w) L ⟨_, _, rfl, rfl, rfl, rfl, rfl, b⟩ ?_
  rintro _ _ w a6 ⟨g, f, rfl, rfl, o, y, k, b⟩ c z a7 T A
  refine seqQ fun a8 U V => sR fun _ W => Ym (iV g) (eh k) (Ym h.v (eh o) (yY (yLen SL_23 e0 b (rdI j)) (yY (ylss e0 e0) (wK W ?_))))
  refine cIf e0 c (fun X c => ?_) fun X c => ?_
  ·refine wp_skip (U _ _ (seqQ fun a9 Z a0 => blockQ fun _ B => sQ fun _ a1 => bE c fun b0 C c => bE c fun b1 D c => dR [0, 0, 3, 7, 0, 0, 48, 112, 255] [] 0 folM ?_))
   replace b := b.drew
   refine Dz [0, 1, 2, 3, 4, 5, 6, 7, 8] [] (yR rfl (m_ h.v (eh o)) (yR rfl (m_ (iV g) (eh k)) (yR rfl (yIa SL_23 e0 e0 b (rdI j) C) (yR rfl (yI O_44 e0 b (rdI j) C) (yR rfl (m_ i.v (eh y)) (yR rfl (m_ (iV g) (eh k)) (yR rfl (yIa SL_23 e0 e0 b (rdI l) D) (yR rfl (yI O_44 e0 b (rdI l) D) (yR rfl (yneq e0 e0) (Rn QSn (a1 _ _ ?_)))))))))))
   rcases iteS c with ⟨p, c⟩ | ⟨p, c⟩
   ·refine condF e0 (nF (dT p)) (wp_skip (B _ _ _ (Z _ _ (wR (Ym (iV g) (eh k) (yY (yadd e0 rfl) (Ya (iV (wa .i64 g 1)) e0 (wN ?_))))))))
    cases c
    exact T _ _ _ rfl ⟨_, _, rfl, rfl, o, y, rfl, b⟩
   ·refine condT e0 (nT (dF p)) (sR fun _ a2 => Ya (.bool false) rfl (wK a2 (wp_ret (B _ _ _ (a0 _ _ _ rfl ?_)))))
    cases c
    exact A _ _ _ _ rfl rfl (R _ _ rfl b (z _ rfl))
  ·refine wp_exit (V _ _ _ rfl ?_)
   cases c
   exact A _ _ _ _ rfl rfl (N _ _ b (z _ rfl))
 ·refine condT e0 (nT (dF n)) (sR fun _ a3 => Ya (.bool false) rfl (wK a3 (wp_ret (G _ _ _ rfl ?_))))
  cases d
  exact m _ _ _ (fin1r Tryz.results45 ⟨rfl, rfl⟩ ⟨rfl, b⟩)
theorem sparsekit_Matrix_ok {h j : Int} {D E F : LI} {i k : Int} {G H I : LI} {l m n o p q : Hdr} {out : Bool} (r : sparsekit_Matrix h j D E F i k G H I = some out) (T : imm I1 l.v D ∈ ros) (U : imm I1 m.v E ∈ ros) (V : imm (rI .u64) n.v F ∈ ros) (W : imm I1 o.v G ∈ ros) (X : imm I1 p.v H ∈ ros) (Z : imm (rI .u64) q.v I ∈ ros) (a : St w0 ros rs w) :
  Calls Tryz.prog 15 #[.agg #[iV h, iV j, l.v, m.v, n.v], .agg #[iV i, iV k, o.v, p.v, q.v]] w (fun e w => e = .returned (.bool out) ∧ St w0 ros rs w) := by
 refine enterQ Tryz.func15 rfl Tryz.ntmps15 rfl fun Q a0 => sR fun _ a1 => yBb (r_box (vals := [iV h, iV j, l.v, m.v, n.v]) a e0 rfl) fun x w a => yBb (r_box (vals := [iV i, iV k, o.v, p.v, q.v]) a e0 rfl) fun y w a => Ya (.bool false) rfl (wK a1 (sR fun _ a3 => yY (yFb FL_25_0 e0) (yY (lb_ (iV h) O_3 e0 a R1) ?_)))
 refine yY (yFb FL_25_0 e0) (yY (lb_ (iV i) O_3 e0 a R0) (yY (yeql e0 e0) (Ym (.bool (decide (h = i))) e0 ?_)))
 refine joinW 6 (fun f w => f 2 = (pB x) ∧ f 3 = (pB y) ∧ f 16 = .bool ((decide (h = i)) && (decide (j = k))) ∧ St w0 ros (box x 25 [iV h, iV j, l.v, m.v, n.v] :: box y 25 [iV i, iV k, o.v, p.v, q.v] :: rs) w) (fun J => ?_) ?_
 ·rcases Bool.eq_false_or_eq_true (decide (h = i)) with b | b
  ·exact yG b (yFb FL_25_1 e0) (yG b (lb_ (iV j) O_3 e0 a R1) (yG b (yFb FL_25_1 e0) (yG b (lb_ (iV k) O_3 e0 a R0) (yG b (yeql e0 e0) (yY (pt_ (.bool (decide (j = k))) e0 b e0) (J _ _ ⟨rfl, rfl, (congrArg Value.bool (andT b)), (a.k11)⟩))))))
  ·exact gN b (gN b (gN b (gN b (gN b (yY (pf_ (.bool false) e0 b rfl) (J _ _ ⟨rfl, rfl, (congrArg Value.bool (andF b)), (a.k11)⟩))))))
 rintro f w ⟨z, A, a4, a⟩
 refine Ym (.bool ((decide (h = i)) && (decide (j = k)))) (eh a4) (bE r fun K s r => ?_)
 refine joinW 6 (fun f w => f 2 = (pB x) ∧ f 3 = (pB y) ∧ f 23 = .bool K ∧ St w0 ros (box x 25 [iV h, iV j, l.v, m.v, n.v] :: box y 25 [iV i, iV k, o.v, p.v, q.v] :: rs) w) (fun L => ?_) ?_
 ·rcases iteS s with ⟨c, s⟩ | ⟨c, s⟩
  ·refine yG c (yFb FL_25_2 (eh z)) (yG c (lb_ l.v O_22 e0 a R0) (yG c (yFb FL_25_2 (eh A)) (yG c (lb_ o.v O_22 e0 a R1) (bE s fun a5 a6 s => Yc (wG c) rfl (yCall FN_16 (a2 e0 e0)) (sparsekit_Ints_ok a6 T W a) ?_))))
   rintro _ w ⟨rfl, a⟩
   refine ⟨_, rfl, ?_⟩
   refine yY (pt_ (.bool a5) e0 c e0) ?_
   cases s
   exact L _ _ ⟨z, A, rfl, a⟩
  ·refine gN (bfalse c) (gN (bfalse c) (gN (bfalse c) (gN (bfalse c) (gN (bfalse c) (yY (pf_ (.bool false) e0 (bfalse c) rfl) ?_)))))
   cases s
   exact L _ _ ⟨z, A, rfl, a⟩
 rintro f w ⟨B, C, a7, a⟩
 refine Ym (.bool K) (eh a7) (bE r fun N t r => ?_)
 refine joinW 6 (fun f w => f 2 = (pB x) ∧ f 3 = (pB y) ∧ f 30 = .bool N ∧ St w0 ros (box x 25 [iV h, iV j, l.v, m.v, n.v] :: box y 25 [iV i, iV k, o.v, p.v, q.v] :: rs) w) (fun O => ?_) ?_
 ·rcases iteS t with ⟨d, t⟩ | ⟨d, t⟩
  ·refine yG d (yFb FL_25_3 (eh B)) (yG d (lb_ m.v O_22 e0 a R0) (yG d (yFb FL_25_3 (eh C)) (yG d (lb_ p.v O_22 e0 a R1) (bE t fun a8 a9 t => Yc (wG d) rfl (yCall FN_16 (a2 e0 e0)) (sparsekit_Ints_ok a9 U X a) ?_))))
   rintro _ w ⟨rfl, a⟩
   refine ⟨_, rfl, ?_⟩
   refine yY (pt_ (.bool a8) e0 d e0) ?_
   cases t
   exact O _ _ ⟨B, C, rfl, a⟩
  ·refine gN (bfalse d) (gN (bfalse d) (gN (bfalse d) (gN (bfalse d) (gN (bfalse d) (yY (pf_ (.bool false) e0 (bfalse d) rfl) ?_)))))
   cases t
   exact O _ _ ⟨B, C, rfl, a⟩
 rintro f w ⟨b0, b1, b2, a⟩
 refine Ym (.bool N) (eh b2) (bE r fun R u r => ?_)
 refine joinW 6 (fun f w => f 37 = .bool R ∧ St w0 ros rs w) (fun S => ?_) ?_
 ·rcases iteS u with ⟨g, u⟩ | ⟨g, u⟩
  ·refine yG g (yFb FL_25_4 (eh b0)) (yG g (lb_ n.v O_23 e0 a R0) (yG g (yFb FL_25_4 (eh b1)) (yG g (lb_ q.v O_23 e0 a R1) (bE u fun b3 b4 u => Yc (wG g) rfl (yCall FN_45 (a2 e0 e0)) (sparsekit_Floats_ok b4 V Z a) ?_))))
   rintro _ w ⟨rfl, a⟩
   refine ⟨_, rfl, ?_⟩
   refine yY (pt_ (.bool b3) e0 g e0) ?_
   cases u
   exact S _ _ ⟨rfl, (a.k1z)⟩
  ·refine gN (bfalse g) (gN (bfalse g) (gN (bfalse g) (gN (bfalse g) (gN (bfalse g) (yY (pf_ (.bool false) e0 (bfalse g) rfl) ?_)))))
   cases u
   exact S _ _ ⟨rfl, (a.k1z)⟩
 rintro f w ⟨b5, a⟩
 refine Ya (.bool R) (eh b5) (wK a3 (wp_ret ?_))
 cases r
 exact a0 _ _ _ (fin1r Tryz.results15 ⟨rfl, rfl⟩ ⟨rfl, a⟩)
theorem sparselaw15_BlocksExact_ok {c d : Int} {c8 c9 d0 p u b2 : LI} {g h i q r s : Hdr} {out : Bool} (b : sparselaw15_BlocksExact c d c8 c9 d0 p u b2 = some out) (e3 : out = true) (y : imm I1 g.v c8 ∈ ros) (z : imm I1 h.v c9 ∈ ros) (A : imm (rI .u64) i.v d0 ∈ ros) (b8 : imm I1 q.v p ∈ ros) (b9 : imm I1 r.v u ∈ ros) (c0 : imm I1 s.v b2 ∈ ros) (a : St w0 ros rs w) :
  Calls Tryz.prog 3 #[.agg #[iV c, iV d, g.v, h.v, i.v], .agg #[q.v, r.v, s.v]] w (fun e w => e = .returned (.bool out) ∧ St w0 ros rs w) := by
 refine enterQ Tryz.func3 rfl Tryz.ntmps3 rfl fun Q d1 => sR fun _ e4 => yBb (r_box (vals := [iV c, iV d, g.v, h.v, i.v]) a e0 rfl) fun B w a => yBb (r_box (vals := [q.v, r.v, s.v]) a e0 rfl) fun C w a => Ya (.bool false) rfl (wK e4 (seqQ fun i6 e5 e6 => sR fun _ e7 => yY (lbs_ [iV c, iV d, g.v, h.v, i.v] ST_25 e0 a R1) ?_))
 refine bE b fun t e8 b => yC (yCall FN_4 (a1 e0)) (sparselaw15_small_ok e8 y z A a) ?_
 rintro _ w ⟨rfl, a⟩
 refine ⟨_, rfl, ?_⟩
 refine yY (ynot e0) (Ym (.bool (!t)) e0 ?_)
 refine joinW 5 (fun f w => f 2 = (pB B) ∧ f 3 = (pB C) ∧ f 22 = .bool ((!t) || (decide ((20 : Int) < (p.length : Int)))) ∧ St w0 ros (box B 25 [iV c, iV d, g.v, h.v, i.v] :: box C 27 [q.v, r.v, s.v] :: rs) w) (fun d2 => ?_) ?_
 ·rcases Bool.eq_false_or_eq_true (!t) with j | j
  ·exact gN j (gN j (gN j (gN j (yY (pt_ (.bool true) e0 j rfl) (d2 _ _ ⟨rfl, rfl, (congrArg Value.bool (orT j)), (a.k11)⟩)))))
  ·exact yG j (yFb FL_27_0 e0) (yG j (lb_ q.v O_22 e0 a R0) (yG j (yLen SL_22 e0 a (rdI b8)) (yG j (ygtr e0 rfl) (yY (pf_ (.bool (decide ((20 : Int) < (p.length : Int)))) e0 j e0) (d2 _ _ ⟨rfl, rfl, (congrArg Value.bool (orF j)), (a.k11)⟩)))))
 rintro f w ⟨d3, c1, e9, a⟩
 refine Ym (.bool ((!t) || (decide ((20 : Int) < (p.length : Int))))) (eh e9) ?_
 refine joinW 5 (fun f w => f 2 = (pB B) ∧ f 3 = (pB C) ∧ f 28 = .bool (((!t) || (decide ((20 : Int) < (p.length : Int)))) || (decide ((20 : Int) < (u.length : Int)))) ∧ St w0 ros (box B 25 [iV c, iV d, g.v, h.v, i.v] :: box C 27 [q.v, r.v, s.v] :: rs) w) (fun d4 => ?_) ?_
 ·rcases Bool.eq_false_or_eq_true ((!t) || (decide ((20 : Int) < (p.length : Int)))) with k | k
  ·exact gN k (gN k (gN k (gN k (yY (pt_ (.bool true) e0 k rfl) (d4 _ _ ⟨d3, c1, (congrArg Value.bool (orT k)), a⟩)))))
  ·exact yG k (yFb FL_27_1 (eh c1)) (yG k (lb_ r.v O_22 e0 a R1) (yG k (yLen SL_22 e0 a (rdI b9)) (yG k (ygtr e0 rfl) (yY (pf_ (.bool (decide ((20 : Int) < (u.length : Int)))) e0 k e0) (d4 _ _ ⟨d3, c1, (congrArg Value.bool (orF k)), a⟩)))))
 rintro f w ⟨d5, c2, f0, a⟩
 refine Ym (.bool (((!t) || (decide ((20 : Int) < (p.length : Int)))) || (decide ((20 : Int) < (u.length : Int))))) (eh f0) ?_
 refine joinW 5 (fun f w => f 2 = (pB B) ∧ f 3 = (pB C) ∧ f 34 = .bool ((((!t) || (decide ((20 : Int) < (p.length : Int)))) || (decide ((20 : Int) < (u.length : Int)))) || (decide ((20 : Int) < (b2.length : Int)))) ∧ St w0 ros (box B 25 [iV c, iV d, g.v, h.v, i.v] :: box C 27 [q.v, r.v, s.v] :: rs) w) (fun d6 => ?_) ?_
 ·rcases Bool.eq_false_or_eq_true (((!t) || (decide ((20 : Int) < (p.length : Int)))) || (decide ((20 : Int) < (u.length : Int)))) with l | l
  ·exact gN l (gN l (gN l (gN l (yY (pt_ (.bool true) e0 l rfl) (d6 _ _ ⟨d5, c2, (congrArg Value.bool (orT l)), a⟩)))))
  ·exact yG l (yFb FL_27_2 (eh c2)) (yG l (lb_ s.v O_22 e0 a R1) (yG l (yLen SL_22 e0 a (rdI c0)) (yG l (ygtr e0 rfl) (yY (pf_ (.bool (decide ((20 : Int) < (b2.length : Int)))) e0 l e0) (d6 _ _ ⟨d5, c2, (congrArg Value.bool (orF l)), a⟩)))))
 rintro f w ⟨D, c3, f1, a⟩
 refine wK e7 (cB (eh f1) b (fun f2 b => ?_) fun f2 b => ?_)
 ·refine sR fun _ f3 => bE b fun f4 f5 b => yC (yCall FN_5 a0) (sparselaw15_awake_ok f5 a) ?_
  rintro _ w ⟨rfl, a⟩
  refine ⟨_, rfl, ?_⟩
  refine Ya (.bool f4) e0 (wK f3 (wp_ret (e6 _ _ _ rfl ?_)))
  cases b
  exact d1 _ _ _ (fin1r Tryz.results3 ⟨rfl, rfl⟩ ⟨rfl, (a.k1z)⟩)
 ·refine wp_skip (e5 _ _ (sR fun _ f6 => yY (lbs_ [iV c, iV d, g.v, h.v, i.v] ST_25 (eh D) a R0) (bE b fun m f7 b => yC (yCall FN_6 (a1 e0)) (sparsekit_TwinMatrix_ok f7 y z A a) ?_)))
  rintro _ w ⟨E, F, G, rfl, a⟩
  refine ⟨_, rfl, ?_⟩
  refine yBb (rAl a ZT_25) fun i7 w a => yT (r_stbn (vals' := [iV m.1, iV m.2.1, E.v, F.v, G.v]) (us := [iV m.1, iV m.2.1, E.v, F.v, G.v]) a ST_25 e0 e0 rfl rfl (one_of rfl) rfl) fun w a => wK f6 (sR fun _ f8 => yY (lbs_ [iV m.1, iV m.2.1, E.v, F.v, G.v] ST_25 e0 a R0) (bE b fun b3 f9 b => ?_))
  replace a := (((((a.k11).fz).k11).fz).k11).fz
  refine yC (yCall FN_7 (a1 e0)) (blocks_Coarse_ok f9 F2 F1 F0 a) ?_
  rintro _ w ⟨H, I, J, K, L, N, rfl, a⟩
  refine ⟨_, rfl, ?_⟩
  refine Ym (.tuple #[.agg #[H.v, I.v, J.v, K.v, L.v, N.v], iV b3.2.2.2.2.2.2]) e0 (yY (x_ (.agg #[H.v, I.v, J.v, K.v, L.v, N.v]) e0) (yY (x_ (iV b3.2.2.2.2.2.2) e0) (yBb (rAl a ZT_32) fun i8 w a => yT (r_stbn (vals' := [H.v, I.v, J.v, K.v, L.v, N.v]) (us := [H.v, I.v, J.v, K.v, L.v, N.v]) a ST_32 e0 e0 rfl rfl (one_of rfl) rfl) fun w a => Ya (iV b3.2.2.2.2.2.2) e0 (wK f8 (sR fun _ g0 => yY (lbs_ [iV c, iV d, g.v, h.v, i.v] ST_25 (eh D) a R8) (bE b fun b4 g1 b => ?_))))))
  refine yC (yCall FN_8 (a1 e0)) (sparseref15_Coarse_ok g1 (F_3 y) (F_3 z) (F_3 A) a) ?_
  rintro _ w ⟨O, R, S, T, U, V, rfl, a⟩
  refine ⟨_, rfl, ?_⟩
  refine Ym (.tuple #[.agg #[O.v, R.v, S.v, T.v, U.v, V.v], iV b4.2.2.2.2.2.2]) e0 (yY (x_ (.agg #[O.v, R.v, S.v, T.v, U.v, V.v]) e0) (yY (x_ (iV b4.2.2.2.2.2.2) e0) (yBb (rAl a ZT_32) fun i9 w a => yT (r_stbn (vals' := [O.v, R.v, S.v, T.v, U.v, V.v]) (us := [O.v, R.v, S.v, T.v, U.v, V.v]) a ST_32 e0 e0 rfl rfl (one_of rfl) rfl) fun w a => Ya (iV b4.2.2.2.2.2.2) e0 (wK g0 (sR fun _ g2 => yY (lbs_ [iV m.1, iV m.2.1, E.v, F.v, G.v] ST_25 e0 a R14) (bE b fun b5 g3 b => ?_))))))
  refine yC (yCall FN_9 (a1 e0)) (blocks_Triangular_ok g3 F2 F1 F0 a) ?_
  rintro _ w ⟨W, X, Z, rfl, a⟩
  refine ⟨_, rfl, ?_⟩
  refine Ym (.tuple #[.agg #[W.v, X.v, Z.v], iV b5.2.2.2]) e0 (yY (x_ (.agg #[W.v, X.v, Z.v]) e0) (yY (x_ (iV b5.2.2.2) e0) (yBb (rAl a ZT_27) fun j0 w a => yT (r_stbn (vals' := [W.v, X.v, Z.v]) (us := [W.v, X.v, Z.v]) a ST_27 e0 e0 rfl rfl (one_of rfl) rfl) fun w a => Ya (iV b5.2.2.2) e0 (wK g2 (sR fun _ g4 => yY (lbs_ [iV c, iV d, g.v, h.v, i.v] ST_25 (eh D) a R19) (bE b fun b6 g5 b => ?_))))))
  refine yC (yCall FN_10 (a1 e0)) (sparseref15_Triangular_ok g5 (F_3 y) (F_3 z) (F_3 A) a) ?_
  rintro _ w ⟨a3, a4, a5, rfl, a⟩
  refine ⟨_, rfl, ?_⟩
  refine Ym (.tuple #[.agg #[a3.v, a4.v, a5.v], iV b6.2.2.2]) e0 (yY (x_ (.agg #[a3.v, a4.v, a5.v]) e0) (yY (x_ (iV b6.2.2.2) e0) (yBb (rAl a ZT_27) fun j5 w a => yT (r_stbn (vals' := [a3.v, a4.v, a5.v]) (us := [a3.v, a4.v, a5.v]) a ST_27 e0 e0 rfl rfl (one_of rfl) rfl) fun w a => Ya (iV b6.2.2.2) e0 (wK g4 (sQ fun _ g6 => bE b fun g7 g8 b => bE b fun d7 c4 b => bE b fun d8 a6 b => ?_)))))
  refine bE b fun d9 c5 b => bE b fun e1 x b => bE b fun e2 a7 b => bE b fun c6 a8 b => ?_
  refine joinN (n := 93) (fun f w => f 4 = .bool c6 ∧ St w0 ros rs w) (fun g9 => ?_) ?_
  ·have h0 := (someI b).trans e3
   obtain ⟨c7, a8⟩ := chT a8 h0
   obtain ⟨a9, a7⟩ := chT a7 c7
   obtain ⟨o, x⟩ := chT x a9
   obtain ⟨b0, c5⟩ := chT c5 o
   obtain ⟨b1, a6⟩ := chT a6 b0
   obtain ⟨b7, c4⟩ := chT c4 b1
   have h1 := someI c4
   refine bE a6 fun j6 h2 a6 => ?_
   have h3 := someI a6
   have h5 := someI c5
   refine bE x fun j7 h7 x => bE x fun j8 h9 x => ?_
   have i0 := someI x
   refine bE a7 fun j9 i1 a7 => ?_
   have i2 := someI a7
   refine bE a8 fun k0 i3 a8 => ?_
   have i4 := someI a8
   refine dR [0, 0, 3, 7, 15, 15, 63, 127, 255, 511, 511, 2047, 4095, 8191, 16383, 16383, 65535, 131071, 262143, 524287, 524287, 2097151, 524287, 524287, 16777215, 33554431, 67108863, 134217727, 268435455, 268435455, 1073741823, 2147483647, 4294967295, 8589934591, 17179869183, 34359738367] [2, 11, 21, 24, 30, 33, 35] 7 folM ?_
   replace a := a.drew
   refine Dn [0, 1] [] [2] (yR rfl (lbs_ [H.v, I.v, J.v, K.v, L.v, N.v] ST_32 e0 a R15) (yR rfl (lbs_ [O.v, R.v, S.v, T.v, U.v, V.v] ST_32 e0 a R8) (Rn QSn ?_)))
   refine Lc1 rfl ?_
   replace a := (((((((((((((((((((((((a.k3q).fz).k3q).fz).k3q).fz).k3q).fz).k3q).fz).k3q).fz).k39).fz).k39).fz).k39).fz).k39).fz).k39).fz).k39).fz
   refine Lk wn (yCall FN_11 (a2 e0 e0)) (sparselaw15_same_ok g8 F11 F10 F9 F8 F7 F6 F5 F4 F3 F2 F1 F0 a) ?_
   rintro _ w ⟨rfl, a⟩
   refine ⟨_, rfl, ?_⟩
   refine Dn [3, 4, 5, 6, 7, 8, 9, 10] [] [11] (yR rfl (m_ (.bool g7) e0) (Ry rfl rfl (wG b7) (m_ (iV b3.2.2.2.2.2.2) e0) (Ry rfl rfl (wG b7) (m_ (iV b4.2.2.2.2.2.2) e0) (Ry rfl rfl (wG b7) (yeql e0 e0) (yR rfl (pt_ (.bool d7) e0 b7 (eqv h1 e0)) (yR rfl (m_ (.bool d7) e0) (Ry rfl rfl (wG b1) (lbs_ [W.v, X.v, Z.v] ST_27 e0 a R4) (Ry rfl rfl (wG b1) (lbs_ [a3.v, a4.v, a5.v] ST_27 e0 a R0) (Rn QSn ?_)))))))))
   refine Lc1 rfl ?_
   replace a := (((((((((((a.k1k).fz).k1k).fz).k1k).fz).k11).fz).k11).fz).k11).fz
   refine Lk (wG b1) (yCall FN_12 (a2 e0 e0)) (sparselaw15_alike_ok h2 F5 F4 F3 F2 F1 F0 a) ?_
   rintro _ w ⟨rfl, a⟩
   refine ⟨_, rfl, ?_⟩
   refine Dn [12, 13, 14, 15, 16, 17, 18, 19, 20, 22, 23] [] [21] (yR rfl (pt_ (.bool d8) e0 b1 (eqv h3 e0)) (yR rfl (m_ (.bool d8) e0) (Ry rfl rfl (wG b0) (m_ (iV b5.2.2.2) e0) (Ry rfl rfl (wG b0) (m_ (iV b6.2.2.2) e0) (Ry rfl rfl (wG b0) (yeql e0 e0) (yR rfl (pt_ (.bool d9) e0 b0 (eqv h5 e0)) (yR rfl (m_ (.bool d9) e0) (Ry rfl rfl (wG o) (lbs_ [iV m.1, iV m.2.1, E.v, F.v, G.v] ST_25 e0 a R4) (Ry rfl rfl (wG o) (lbs_ [q.v, r.v, s.v] ST_27 (eh c3) a R6) (Ry rfl rfl (wG o) (lbs_ [iV c, iV d, g.v, h.v, i.v] ST_25 (eh D) a R5) (Ry rfl rfl (wG o) (lbs_ [q.v, r.v, s.v] ST_27 (eh c3) a R6) (Rn QSn ?_))))))))))))
   refine Lc1 rfl ?_
   refine Lk (wG o) (yCall FN_13 (a2 e0 e0)) (blocks_Check_ok h7 F20 F19 F18 (F_21 b8) (F_21 b9) (F_21 c0) a) ?_
   rintro _ w ⟨rfl, a⟩
   refine ⟨_, rfl, ?_⟩
   refine Dn [] [22, 23] [24] (Rn (Sy rfl rfl (wG o) (lbs_ [iV c, iV d, g.v, h.v, i.v] ST_25 (eh D) a R5) rfl (Sy rfl rfl (wG o) (lbs_ [q.v, r.v, s.v] ST_27 (eh c3) a R6) rfl QSn)) ?_)
   refine Lc1 rfl ?_
   refine Lk (wG o) (yCall FN_14 (a2 e0 e0)) (sparseref15_Check_ok h9 (F_21 y) (F_21 z) (F_21 A) (F_21 b8) (F_21 b9) (F_21 c0) a) ?_
   rintro _ w ⟨rfl, a⟩
   refine ⟨_, rfl, ?_⟩
   refine Dn [25, 26, 27, 28, 29] [] [30] (Ry rfl rfl (wG o) (yeql e0 e0) (yR rfl (pt_ (.bool e1) e0 o (eqv i0 e0)) (yR rfl (m_ (.bool e1) e0) (Ry rfl rfl (wG a9) (lbs_ [iV m.1, iV m.2.1, E.v, F.v, G.v] ST_25 e0 a R4) (Ry rfl rfl (wG a9) (lbs_ [iV c, iV d, g.v, h.v, i.v] ST_25 (eh D) a R5) (Rn QSn ?_))))))
   refine Lc1 rfl ?_
   refine Lk (wG a9) (yCall FN_15 (a2 e0 e0)) (sparsekit_Matrix_ok i1 F20 F19 F18 (F_21 y) (F_21 z) (F_21 A) a) ?_
   rintro _ w ⟨rfl, a⟩
   refine ⟨_, rfl, ?_⟩
   refine Dn [31, 32] [] [33] (yR rfl (pt_ (.bool e2) e0 a9 (eqv i2 e0)) (yR rfl (m_ (.bool e2) e0) (Rn QSn ?_)))
   refine Lc1 rfl ?_
   refine Lk (wG c7) (yCall FN_5 a0) (sparselaw15_awake_ok i3 a) ?_
   rintro _ w ⟨rfl, a⟩
   refine ⟨_, rfl, ?_⟩
   refine Dn [34] [] [35] (yR rfl (pt_ (.bool c6) e0 c7 (eqv i4 e0)) (Rn QSn ?_))
   refine Lc1 rfl ?_
   exact Ly wn (a_ (.bool c6) e0) (Dz [] [] (Rn QSn (g9 _ _ ⟨rfl, ((a.k3r).facts (allT (allT (allT (allT (allT (allT (allT (allT (allT (allT (allT (allT (allT (allT (allT (allT (allT (allT (allT (allT (allT allI))))))))))))))))))))))⟩)))
  rintro f w ⟨i5, a⟩
  refine g6 _ _ (wp_ret ?_)
  cases b
  exact d1 _ _ _ (fin1r Tryz.results3 ⟨rfl, i5⟩ ⟨rfl, a⟩)
end Go.Proofs.YtgnfkbaghjmgiaaGreat
