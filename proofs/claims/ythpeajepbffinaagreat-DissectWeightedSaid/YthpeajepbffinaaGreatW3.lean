/- Walks: each function computes its model, printed. -/
import Derived.Test.YthpeajepbffinaaGreatW2
namespace Go.Proofs.YthpeajepbffinaaGreat
open Go Sx M
set_option maxRecDepth 100000
set_option maxHeartbeats 40000000
set_option linter.unusedVariables false
attribute [local irreducible] wpList Code.wp Calls DR QR QS LA LS St
variable {w0 : World} {ros : List Fact} {rs : List Res} {w : World}
theorem matrix_Check_ok {x1 x2 : Int} {x3 x5 x7 : LI} {h4 h6 h8 : Hdr} {out : Int} (hM : matrix_Check x1 x2 x3 x5 x7 = some out) (q1 : imm I1 h4.v x3 ∈ ros) (q2 : imm I1 h6.v x5 ∈ ros) (q3 : imm (rI .u64) h8.v x7 ∈ ros) (hst : St w0 ros rs w) :
  Calls Tryz.prog 122 #[.agg #[iV x1, iV x2, h4.v, h6.v, h8.v]] w (fun e w => e = .returned (iV out) ∧ St w0 ros rs w) := by
 refine enterQ Tryz.func122 rfl Tryz.ntmps122 rfl fun Q hQ => sR fun _ k1 => YB wn rfl (r_box (vals := [iV x1, iV x2, h4.v, h6.v, h8.v]) hst e0 rfl) ?_
 intro b9 w hst
 refine Ya (iV 0) rfl (wK k1 (seqQ fun Q2 k2 z2 => blockQ fun _ qb3 => sR fun _ k4 => yY (yFb FL_91_0 e0) (yY (lb_ (iV x1) O_3 e0 hst R0) ?_)))
 obtain ⟨r10, gr10, hM⟩ := bs hM
 refine Yc wn rfl (yCall FN_135 (a3 e0 rfl rfl)) (matrix_within_ok gr10 hst) ?_
 rintro _ w ⟨rfl, hst⟩
 refine ⟨_, rfl, ?_⟩
 refine yY (ynot e0) (Ym (.bool (!r10)) e0 ?_)
 obtain ⟨r12, gr12, hM⟩ := bs hM
 refine joinW 5 (fun f w => f 1 = (pB b9) ∧ f 13 = .bool r12 ∧ St w0 ros (box b9 91 [iV x1, iV x2, h4.v, h6.v, h8.v] :: rs) w) (fun j1 => ?_) ?_
 ·rcases iteS gr12 with ⟨c14, gr12⟩ | ⟨c14, gr12⟩
  ·refine yG (nF c14) (yFb FL_91_1 e0) (yG (nF c14) (lb_ (iV x2) O_3 e0 hst R0) ?_)
   obtain ⟨r15, gr15, gr12⟩ := bs gr12
   refine Yc (wG (nF c14)) rfl (yCall FN_135 (a3 e0 rfl rfl)) (matrix_within_ok gr15 hst) ?_
   rintro _ w ⟨rfl, hst⟩
   refine ⟨_, rfl, ?_⟩
   refine yG (nF c14) (ynot e0) (yY (pf_ (.bool (!r15)) e0 (nF c14) e0) ?_)
   obtain rfl := someI gr12
   exact j1 _ _ ⟨rfl, rfl, hst⟩
  ·refine gN (nT (bfalse c14)) (gN (nT (bfalse c14)) (gN (nT (bfalse c14)) (gN (nT (bfalse c14)) (yY (pt_ (.bool true) e0 (nT (bfalse c14)) rfl) ?_))))
   obtain rfl := someI gr12
   exact j1 _ _ ⟨rfl, rfl, hst⟩
 rintro f w ⟨e13_1, e13_13, hst⟩
 refine Ym (.bool r12) (eh e13_13) ?_
 refine joinW 5 (fun f w => f 1 = (pB b9) ∧ f 19 = .bool (r12 || (decide ((10000 : Int) < (x5.length : Int)))) ∧ St w0 ros (box b9 91 [iV x1, iV x2, h4.v, h6.v, h8.v] :: rs) w) (fun j2 => ?_) ?_
 ·rcases Bool.eq_false_or_eq_true r12 with c17 | c17
  ·exact gN c17 (gN c17 (gN c17 (gN c17 (yY (pt_ (.bool true) e0 c17 rfl) (j2 _ _ ⟨e13_1, (congrArg Value.bool (orT c17)), hst⟩)))))
  ·exact yG c17 (yFb FL_91_3 (eh e13_1)) (yG c17 (lb_ h6.v O_22 e0 hst R0) (yG c17 (yLen SL_22 e0 hst (rdI q2)) (yG c17 (ygtr e0 rfl) (yY (pf_ (.bool (decide ((10000 : Int) < (x5.length : Int)))) e0 c17 e0) (j2 _ _ ⟨e13_1, (congrArg Value.bool (orF c17)), hst⟩)))))
 rintro f w ⟨e16_1, e16_19, hst⟩
 refine Ya (.bool (r12 || (decide ((10000 : Int) < (x5.length : Int))))) (eh e16_19) (wK k4 ?_)
 rcases iteS hM with ⟨c18, hM⟩ | ⟨c18, hM⟩
 ·refine condT e0 c18 (sR fun _ k5 => Ya (iV 6) rfl (wK k5 (wp_ret (qb3 _ _ _ (z2 _ _ _ rfl ?_)))))
  obtain rfl := someI hM
  exact hQ _ _ _ (fin1r Tryz.results122 ⟨rfl, rfl⟩ ⟨rfl, (hst.pk 1 [] rfl)⟩)
 ·refine condF e0 (bfalse c18) (sR fun _ k6 => yY (lbs_ [iV x1, iV x2, h4.v, h6.v, h8.v] ST_91 (eh e16_1) hst R0) ?_)
  obtain ⟨r19, gr19, hM⟩ := bs hM
  refine Yc wn rfl (yCall FN_136 (a1 e0)) (matrix_columns_ok gr19 q1 q2 q3 hst) ?_
  rintro _ w ⟨rfl, hst⟩
  refine ⟨_, rfl, ?_⟩
  refine yY (ynot e0) (Ya (.bool (!r19)) e0 (wK k6 ?_))
  rcases iteS hM with ⟨c20, hM⟩ | ⟨c20, hM⟩
  ·refine condF e0 (nF c20) (sR fun _ k7 => yY (yFb FL_91_4 (eh e16_1)) (yY (lb_ h8.v O_89 e0 hst R0) ?_))
   obtain ⟨r21, gr21, hM⟩ := bs hM
   refine Yc wn rfl (yCall FN_137 (a2 e0 rfl)) (slices_ContainsFunc_apiFloat_ok gr21 q3 hst) ?_
   rintro _ w ⟨rfl, hst⟩
   refine ⟨_, rfl, ?_⟩
   refine Ya (.bool r21) e0 (wK k7 ?_)
   rcases iteS hM with ⟨c22, hM⟩ | ⟨c22, hM⟩
   ·refine condT e0 c22 (sR fun _ k8 => Ya (iV 4) rfl (wK k8 (wp_ret (qb3 _ _ _ (z2 _ _ _ rfl ?_)))))
    obtain rfl := someI hM
    exact hQ _ _ _ (fin1r Tryz.results122 ⟨rfl, rfl⟩ ⟨rfl, (hst.pk 1 [] rfl)⟩)
   ·refine condF e0 (bfalse c22) (wp_skip (qb3 _ _ _ (k2 _ _ (sR fun _ k9 => Ya (iV 0) rfl (wK k9 (wp_ret ?_))))))
    obtain rfl := someI hM
    exact hQ _ _ _ (fin1r Tryz.results122 ⟨rfl, rfl⟩ ⟨rfl, (hst.pk 1 [] rfl)⟩)
  ·refine condT e0 (nT (bfalse c20)) (sR fun _ k10 => Ya (iV 1) rfl (wK k10 (wp_ret (qb3 _ _ _ (z2 _ _ _ rfl ?_)))))
   obtain rfl := someI hM
   exact hQ _ _ _ (fin1r Tryz.results122 ⟨rfl, rfl⟩ ⟨rfl, (hst.pk 1 [] rfl)⟩)
theorem matching_Edges_ok {x1 x2 : Int} {x3 x5 x7 : LI} {h4 h6 h8 : Hdr} {out : L2} (hM : matching_Edges x1 x2 x3 x5 x7 = some out) (q1 : imm I1 h4.v x3 ∈ ros) (q2 : imm I1 h6.v x5 ∈ ros) (q3 : imm (rI .u64) h8.v x7 ∈ ros) (hst : St w0 ros rs w) :
  Calls Tryz.prog 156 #[.agg #[iV x1, iV x2, h4.v, h6.v, h8.v]] w (fun e w => ∃ (h100001 : Hdr), e = .returned (h100001.v) ∧ St w0 ros (row 22 S1 h100001.v out :: rs) w) := by
 refine enterQ Tryz.func156 rfl Tryz.ntmps156 rfl fun Q hQ => sR fun _ k1 => YB wn rfl (r_box (vals := [iV x1, iV x2, h4.v, h6.v, h8.v]) hst e0 rfl) ?_
 intro b9 w hst
 refine Ya hnil.v rfl (wK k1 (sR fun _ k2 => yY (yFb FL_91_1 e0) (yY (lb_ (iV x2) O_3 e0 hst R0) ?_)))
 obtain ⟨x12, gx12, hM⟩ := bs hM
 refine YH wn rfl (rMk hst SL_24 e0 gx12) ?_
 intro h10 w hst
 refine Ya h10.v e0 (wK k2 (sQ fun _ k3 => sR fun _ k4 => Ym h10.v e0 (yY (yLen SL_24 e0 hst rO0) (Ym (iV 0) rfl (wK k4 (blockQ fun Q5 qb5 => ?_))))))
 obtain ⟨o1, go1, hM⟩ := bs hM
 have je1_0 : ∀ (x27 : L2) (f : FV) (w : World), f 3 = h10.v → St w0 ros (row 22 S1 h10.v x27 :: rs) w → x27 = o1 → Q5 (.exit 0) (fr 32 f) w := by
  intro x27 f w eje1_0_3 hst ho
  subst ho
  refine qb5 _ _ _ (k3 _ _ (sR fun _ k16 => Ym h10.v (eh eje1_0_3) (Ya h10.v e0 (wK k16 (wp_ret ?_)))))
  obtain rfl := someI hM
  exact hQ _ _ _ (fin1r Tryz.results156 ⟨rfl, rfl⟩ ⟨_, rfl, hst⟩)
 refine loopQ (fun s a w => ∃ (x18 : L2) (x19 : Int) (f : FV), (x18, x19) = s ∧ a = fr 32 f ∧ f 1 = (pB b9) ∧ f 3 = h10.v ∧ f 9 = iV (x12.length : Int) ∧ f 10 = iV x19 ∧ St w0 ros (box b9 91 [iV x1, iV x2, h4.v, h6.v, h8.v] :: row 22 S1 h10.v x18 :: rs) w) go1 ⟨_, _, _, rfl, rfl, rfl, rfl, rfl, rfl, (hst.pk 2 [1, 0] rfl)⟩ ?_
 rintro _ _ w r1_ ⟨x18, x19, f, rfl, rfl, e1_1, e1_3, e1_9, e1_10, hst⟩ hM1 ho1 Q100001 n1 zz1
 refine sR fun _ k17 => yY (ylss (eh e1_10) (eh e1_9)) (wK k17 (seqQ fun Q18 k18 z18 => ?_))
 rcases iteS hM1 with ⟨c28, hM1⟩ | ⟨c28, hM1⟩
 ·refine cT e0 c28 (wp_skip (k18 _ _ (sQ fun _ k19 => blockQ fun _ qb20 => sR fun _ k21 => Ym (iV x19) (eh e1_10) (Ya (iV x19) e0 (wK k21 ?_)))))
  obtain ⟨x29, gx29, hM1⟩ := bs hM1
  obtain ⟨x30, gx30, hM1⟩ := bs hM1
  obtain ⟨x31, gx31, hM1⟩ := bs hM1
  obtain ⟨x32, gx32, hM1⟩ := bs hM1
  refine dR [0, 0, 0, 4, 0, 16, 0, 112, 240, 0, 512, 0, 2048, 7680, 15872, 32764, 65535, 131071] [17] 1 folM ?_
  replace hst := hst.drew
  refine Dn [0, 1, 2, 3, 4, 5, 6, 7, 8, 9, 10, 11, 12, 13, 14, 15, 16] [] [17] (yR rfl (m_ h10.v (eh e1_3)) (yR rfl (m_ (iV x19) e0) (yR rfl (yFb FL_91_3 (eh e1_1)) (yR rfl (lb_ h6.v O_22 e0 hst R0) (yR rfl (yFb FL_91_2 (eh e1_1)) (yR rfl (lb_ h4.v O_22 e0 hst R0) (yR rfl (m_ (iV x19) e0) (yR rfl (yIa SL_22 e0 e0 hst (rdI q1) gx29) (yR rfl (yI O_3 e0 hst (rdI q1) gx29) (yR rfl (yFb FL_91_2 (eh e1_1)) (yR rfl (lb_ h4.v O_22 e0 hst R0) (yR rfl (m_ (iV x19) e0) (yR rfl (yadd e0 rfl) ?_)))))))))))))
  refine yR rfl (yIa SL_22 e0 e0 hst (rdI q1) gx30) (yR rfl (yI O_3 e0 hst (rdI q1) gx30) (yR rfl (ySl SL_22 e0 hst (rdI q2) (.inl (congrArg some e0)) (.inl (congrArg some e0)) gx31) ?_))
  replace hst := hst.sub q2 gx31
  refine yR rfl (yIs SL_24 e0 e0 hst rO1 gx32) (Rn QSn ?_)
  refine Lc1 rfl ?_
  replace hst := hst.pk 2 [1, 0] rfl
  refine LT wn (r_sti (cs := [(subH h6 1 x29 x30).v]) hst O_22 rfl e0 e0 rfl (mkS F0) gx32) ?_
  intro w hst
  refine Dz [] [] (Rn QSn (qb20 _ _ _ (k19 _ _ (wR (yY (yadd (eh e1_10) rfl) (Ym (iV (wa .i64 x19 1)) e0 (wN ?_)))))))
  obtain rfl := someI hM1
  exact n1 _ _ _ rfl ⟨_, _, _, rfl, rfl, e1_1, e1_3, e1_9, rfl, ((hst.pk 2 [1, 0] rfl).facts (allT allI))⟩
 ·refine cF e0 c28 (wp_exit (z18 _ _ _ rfl ?_))
  obtain rfl := someI hM1
  exact zz1 _ _ _ _ rfl rfl (je1_0 _ _ _ e1_3 (hst.pk 2 [1] rfl) (ho1 _ rfl))
theorem matching_full_ok {x1 x2 : Int} {out : LI} (hM : matching_full x1 x2 = some out) (hst : St w0 ros rs w) :
  Calls Tryz.prog 157 #[iV x1, iV x2] w (fun e w => ∃ (h100001 : Hdr), e = .returned (h100001.v) ∧ St w0 ros (row 3 I1 h100001.v out :: rs) w) := by
 refine enterQ Tryz.func157 rfl Tryz.ntmps157 rfl fun Q hQ => sR fun _ k1 => Ya hnil.v rfl (wK k1 (sR fun _ k2 => Ym (iV x1) e0 ?_))
 obtain ⟨x5, gx5, hM⟩ := bs hM
 refine YH wn rfl (rMk hst SL_22 e0 gx5) ?_
 intro h3 w hst
 refine Ya h3.v e0 (wK k2 (sQ fun _ k3 => sR fun _ k4 => Ym h3.v e0 (yY (yLen SL_22 e0 hst rO0) (Ym (iV 0) rfl (wK k4 (blockQ fun Q5 qb5 => ?_))))))
 obtain ⟨o1, go1, hM⟩ := bs hM
 have je1_0 : ∀ (x14 : LI) (f : FV) (w : World), f 5 = h3.v → St w0 ros (row 3 I1 h3.v x14 :: rs) w → x14 = o1 → Q5 (.exit 0) (fr 20 f) w := by
  intro x14 f w eje1_0_5 hst ho
  subst ho
  refine qb5 _ _ _ (k3 _ _ (sR fun _ k16 => Ym h3.v (eh eje1_0_5) (Ya h3.v e0 (wK k16 (wp_ret ?_)))))
  obtain rfl := someI hM
  exact hQ _ _ _ (fin1r Tryz.results157 ⟨rfl, rfl⟩ ⟨_, rfl, hst⟩)
 refine loopQ (fun s a w => ∃ (x8 : LI) (x9 : Int) (f : FV), (x8, x9) = s ∧ a = fr 20 f ∧ f 1 = iV x2 ∧ f 5 = h3.v ∧ f 10 = iV (x5.length : Int) ∧ f 11 = iV x9 ∧ St w0 ros (row 3 I1 h3.v x8 :: rs) w) go1 ⟨_, _, _, rfl, rfl, rfl, rfl, rfl, rfl, hst⟩ ?_
 rintro _ _ w r1_ ⟨x8, x9, f, rfl, rfl, e1_1, e1_5, e1_10, e1_11, hst⟩ hM1 ho1 Q100001 n1 zz1
 refine sR fun _ k17 => yY (ylss (eh e1_11) (eh e1_10)) (wK k17 (seqQ fun Q18 k18 z18 => ?_))
 rcases iteS hM1 with ⟨c15, hM1⟩ | ⟨c15, hM1⟩
 ·refine cT e0 c15 (wp_skip (k18 _ _ (sQ fun _ k19 => blockQ fun _ qb20 => sR fun _ k21 => Ym (iV x9) (eh e1_11) (Ya (iV x9) e0 (wK k21 (wR (Ym h3.v (eh e1_5) (Ym (iV x9) e0 ?_))))))))
  refine Ym (iV x2) (eh e1_1) ?_
  obtain ⟨x16, gx16, hM1⟩ := bs hM1
  refine yY (yIs SL_22 e0 e0 hst rO0 gx16) (YT wn rfl (r_sti (cs := [iV x2]) hst O_3 rfl e0 e0 rfl mkI gx16) ?_)
  intro w hst
  refine wN (qb20 _ _ _ (k19 _ _ (wR (yY (yadd (eh e1_11) rfl) (Ym (iV (wa .i64 x9 1)) e0 (wN ?_))))))
  obtain rfl := someI hM1
  exact n1 _ _ _ rfl ⟨_, _, _, rfl, rfl, e1_1, e1_5, e1_10, rfl, hst⟩
 ·refine cF e0 c15 (wp_exit (z18 _ _ _ rfl ?_))
  obtain rfl := someI hM1
  exact zz1 _ _ _ _ rfl rfl (je1_0 _ _ _ e1_5 hst (ho1 _ rfl))
theorem matching_kuhn_try_step {rec : L2 → LI → LI → (List Bool) → Int → Option (LI × LI × (List Bool) × Bool)} (hrec : ∀ {w0 : World} {ros : List Fact} {rs : List Res} {w : World} {x2 : L2} {x4 x6 : LI} {x8 : List Bool} {x10 : Int} {b1 : Nat} {h3 h5 h7 h9 : Hdr} {out : LI × LI × (List Bool) × Bool} (hM : rec x2 x4 x6 x8 x10 = some out) (hst : St w0 ros (box b1 164 [h3.v, h5.v, h7.v, h9.v] :: row 22 S1 h3.v x2 :: row 3 I1 h5.v x4 :: row 3 I1 h7.v x6 :: row 4 rB h9.v x8 :: rs) w), Calls Tryz.prog 158 #[(pB b1), iV x10] w (fun e w => e = .returned (.bool out.2.2.2) ∧ St w0 ros (row 22 S1 h3.v x2 :: row 3 I1 h5.v out.1 :: row 3 I1 h7.v out.2.1 :: row 4 rB h9.v out.2.2.1 :: box b1 164 [h3.v, h5.v, h7.v, h9.v] :: rs) w)) {w0 : World} {ros : List Fact} {rs : List Res} {w : World} {x2 : L2} {x4 x6 : LI} {x8 : List Bool} {x10 : Int} {b1 : Nat} {h3 h5 h7 h9 : Hdr} {out : LI × LI × (List Bool) × Bool} (hM : matching_kuhn_try_body rec x2 x4 x6 x8 x10 = some out) (hst : St w0 ros (box b1 164 [h3.v, h5.v, h7.v, h9.v] :: row 22 S1 h3.v x2 :: row 3 I1 h5.v x4 :: row 3 I1 h7.v x6 :: row 4 rB h9.v x8 :: rs) w) :
  Calls Tryz.prog 158 #[(pB b1), iV x10] w (fun e w => e = .returned (.bool out.2.2.2) ∧ St w0 ros (row 22 S1 h3.v x2 :: row 3 I1 h5.v out.1 :: row 3 I1 h7.v out.2.1 :: row 4 rB h9.v out.2.2.1 :: box b1 164 [h3.v, h5.v, h7.v, h9.v] :: rs) w) := by
 refine enterQ Tryz.func158 rfl Tryz.ntmps158 rfl fun Q hQ => sR fun _ k1 => Ya (.bool false) rfl (wK k1 (seqQ fun Q2 k2 z2 => sR fun _ k3 => Ym (pB b1) e0 (yY (yn e0) (yY (yFb FL_164_0 e0) (yY (lb_ h3.v O_24 e0 hst R0) (Ym (iV x10) e0 ?_))))))
 obtain ⟨x11, gx11, hM⟩ := bs hM
 refine yY (yIa SL_24 e0 e0 hst rO1 gx11) ?_
 obtain ⟨h12, ch12, hst⟩ := rLs hst rO1 gx11
 refine yY (yCe O_22 e0 ch12 rfl) (yY (yLen SL_22 e0 hst (rdI F0)) (Ym (iV 0) rfl (wK k3 (blockQ fun Q4 qb4 => ?_))))
 obtain ⟨o9, go9, hM⟩ := bs hM
 have je9_0 : ∀ (x137 x138 : LI) (x139 : List Bool) (f : FV) (w : World), St w0 ros (row 22 S1 h3.v x2 :: row 3 I1 h5.v x137 :: row 3 I1 h7.v x138 :: row 4 rB h9.v x139 :: box b1 164 [h3.v, h5.v, h7.v, h9.v] :: rs) w → .inl (x137, x138, x139) = o9 → Q4 (.exit 0) (fr 66 f) w := by
  intro x137 x138 x139 f w hst ho
  subst ho
  refine qb4 _ _ _ (k2 _ _ (sR fun _ k59 => Ya (.bool false) rfl (wK k59 (wp_ret ?_))))
  obtain rfl := someI hM
  exact hQ _ _ _ (fin1r Tryz.results158 ⟨rfl, rfl⟩ ⟨rfl, hst⟩)
 have je9_1 : ∀ (x140 x141 : LI) (x142 : List Bool) (f : FV) (w : World), f 4 = .bool true → St w0 ros (row 22 S1 h3.v x2 :: row 3 I1 h5.v x140 :: row 3 I1 h7.v x141 :: row 4 rB h9.v x142 :: box b1 164 [h3.v, h5.v, h7.v, h9.v] :: rs) w → .inr (x140, x141, x142) = o9 → Q4 .ret (fr 66 f) w := by
  intro x140 x141 x142 f w eje9_1_4 hst ho
  subst ho
  refine qb4 _ _ _ (z2 _ _ _ rfl ?_)
  obtain rfl := someI hM
  exact hQ _ _ _ (fin1r Tryz.results158 ⟨rfl, eje9_1_4⟩ ⟨rfl, hst⟩)
 refine loopQ (fun s a w => ∃ (x71 x72 : LI) (x73 : List Bool) (x74 : Int) (f : FV), (x71, x72, x73, x74) = s ∧ a = fr 66 f ∧ f 0 = (pB b1) ∧ f 1 = iV x10 ∧ f 13 = h12.v ∧ f 14 = iV (x11.length : Int) ∧ f 15 = iV x74 ∧ St w0 (imm I1 h12.v x11 :: ros) (row 22 S1 h3.v x2 :: row 3 I1 h5.v x71 :: row 3 I1 h7.v x72 :: row 4 rB h9.v x73 :: box b1 164 [h3.v, h5.v, h7.v, h9.v] :: rs) w) go9 ⟨_, _, _, _, _, rfl, rfl, rfl, rfl, rfl, rfl, rfl, (hst.pk 5 [1, 1, 1, 1, 0] rfl)⟩ ?_
 rintro _ _ w r9_ ⟨x71, x72, x73, x74, f, rfl, rfl, e9_0, e9_1, e9_13, e9_14, e9_15, hst⟩ hM9 ho9 Q100009 n9 zz9
 refine sR fun _ k60 => yY (ylss (eh e9_15) (eh e9_14)) (wK k60 (seqQ fun Q61 k61 z61 => ?_))
 rcases iteS hM9 with ⟨c143, hM9⟩ | ⟨c143, hM9⟩
 ·refine cT e0 c143 (wp_skip (k61 _ _ (seqQ fun Q62 k62 z62 => ?_)))
  have j12 : ∀ (x180 x181 : LI) (x182 : List Bool) (f : FV) (w : World), f 0 = (pB b1) → f 1 = iV x10 → f 13 = h12.v → f 14 = iV (x11.length : Int) → f 15 = iV x74 → St w0 (imm I1 h12.v x11 :: ros) (row 22 S1 h3.v x2 :: row 3 I1 h5.v x180 :: row 3 I1 h7.v x181 :: row 4 rB h9.v x182 :: box b1 164 [h3.v, h5.v, h7.v, h9.v] :: rs) w → matching_kuhn_try_j12 x74 x180 x181 x182 = some r9_ → Q62 .normal (fr 66 f) w := by
   intro x180 x181 x182 f w ej12_0 ej12_1 ej12_13 ej12_14 ej12_15 hst hM
   refine k62 _ _ (wR (yY (yadd (eh ej12_15) rfl) (Ym (iV (wa .i64 x74 1)) e0 (wN ?_))))
   obtain rfl := someI hM
   exact n9 _ _ _ rfl ⟨_, _, _, _, _, rfl, rfl, ej12_0, ej12_1, ej12_13, ej12_14, rfl, hst⟩
  refine blockQ fun _ qb79 => sR fun _ k80 => ?_
  obtain ⟨x183, gx183, hM9⟩ := bs hM9
  refine yY (yIa SL_22 (eh e9_13) (eh e9_15) hst (rdI F0) gx183) (yY (yI O_3 e0 hst (rdI F0) gx183) (Ya (iV x183) e0 (wK k80 (seqQ fun Q81 k81 z81 => sR fun _ k82 => Ym (pB b1) (eh e9_0) (yY (yn e0) (yY (yFb FL_164_3 e0) (yY (lb_ h9.v O_93 e0 hst R4) (Ym (iV x183) e0 ?_))))))))
  obtain ⟨x184, gx184, hM9⟩ := bs hM9
  refine yY (yIa SL_93 e0 e0 hst rO3 gx184) (yY (yB O_4 e0 hst rO3 gx184) (wK k82 ?_))
  rcases iteS hM9 with ⟨c185, hM9⟩ | ⟨c185, hM9⟩
  ·exact condT e0 c185 (wp_exit (z81 _ _ _ rfl (qb79 _ _ _ (j12 _ _ _ _ _ e9_0 e9_1 e9_13 e9_14 e9_15 hst hM9))))
  ·refine condF e0 (bfalse c185) (wp_skip (k81 _ _ (sR fun _ k83 => Ym (pB b1) (eh e9_0) (yY (yn e0) (yY (yFb FL_164_3 e0) (yY (lb_ h9.v O_93 e0 hst R4) (Ym (iV x183) e0 ?_)))))))
   obtain ⟨x186, gx186, hM9⟩ := bs hM9
   refine yY (yIs SL_93 e0 e0 hst rO3 gx186) ?_
   replace hst := hst.pk 4 [3, 0, 0, 0] rfl
   refine YT wn rfl (r_sti (cs := [.bool true]) hst O_4 rfl e0 rfl rfl mkB gx186) ?_
   intro w hst
   refine wK k83 (sR fun _ k84 => Ym (pB b1) (eh e9_0) (yY (yn e0) (yY (yFb FL_164_2 e0) (yY (lb_ h7.v O_22 e0 hst R4) (Ym (iV x183) e0 ?_)))))
   obtain ⟨x187, gx187, hM9⟩ := bs hM9
   refine yY (yIa SL_22 e0 e0 hst rO3 gx187) (yY (yI O_3 e0 hst rO3 gx187) (yY (yeql e0 rfl) (Ym (.bool (decide (x187 = (-1)))) e0 ?_)))
   obtain ⟨r190, gr190, hM9⟩ := bs hM9
   refine joinW 10 (fun f w => f 0 = (pB b1) ∧ f 1 = iV x10 ∧ f 6 = iV x183 ∧ f 13 = h12.v ∧ f 14 = iV (x11.length : Int) ∧ f 15 = iV x74 ∧ f 50 = .bool r190.1 ∧ St w0 (imm I1 h12.v x11 :: ros) (row 22 S1 h3.v x2 :: row 3 I1 h5.v r190.2.1 :: row 3 I1 h7.v r190.2.2.1 :: row 4 rB h9.v r190.2.2.2 :: box b1 164 [h3.v, h5.v, h7.v, h9.v] :: rs) w) (fun j13 => ?_) ?_
   ·rcases iteS gr190 with ⟨c195, gr190⟩ | ⟨c195, gr190⟩
    ·refine gN (dT c195) (gN (dT c195) (gN (dT c195) (gN (dT c195) (gN (dT c195) (gN (dT c195) (gN (dT c195) (gN (dT c195) (gN (dT c195) (yY (pt_ (.bool true) e0 (dT c195) rfl) ?_)))))))))
     obtain rfl := someI gr190
     exact j13 _ _ ⟨e9_0, e9_1, rfl, e9_13, e9_14, e9_15, rfl, (hst.pk 5 [1, 1, 1, 0, 0] rfl)⟩
    ·refine yG (dF c195) (m_ (pB b1) (eh e9_0)) (yG (dF c195) (m_ (pB b1) (eh e9_0)) (yG (dF c195) (yn e0) (yG (dF c195) (yFb FL_164_2 e0) (yG (dF c195) (lb_ h7.v O_22 e0 hst R4) (yG (dF c195) (m_ (iV x183) e0) ?_)))))
     obtain ⟨x196, gx196, gr190⟩ := bs gr190
     refine yG (dF c195) (yIa SL_22 e0 e0 hst rO3 gx196) (yG (dF c195) (yI O_3 e0 hst rO3 gx196) ?_)
     obtain ⟨r197, gr197, gr190⟩ := bs gr190
     replace hst := hst.pk 5 [4, 1, 1, 1, 0] rfl
     refine Yc (wG (dF c195)) rfl (yCall FN_158 (a2 e0 e0)) (hrec gr197 hst) ?_
     rintro _ w ⟨rfl, hst⟩
     refine ⟨_, rfl, ?_⟩
     refine yY (pf_ (.bool r197.2.2.2) e0 (dF c195) e0) ?_
     obtain rfl := someI gr190
     exact j13 _ _ ⟨e9_0, e9_1, rfl, e9_13, e9_14, e9_15, rfl, hst⟩
   rintro f w ⟨e194_0, e194_1, e194_6, e194_13, e194_14, e194_15, e194_50, hst⟩
   refine wK k84 ?_
   rcases iteS hM9 with ⟨c198, hM9⟩ | ⟨c198, hM9⟩
   ·refine condT (eh e194_50) c198 (sQ fun _ k85 => ?_)
    obtain ⟨x199, gx199, hM9⟩ := bs hM9
    obtain ⟨x200, gx200, hM9⟩ := bs hM9
    refine dR [0, 1, 3, 7, 0, 0, 32, 96, 224, 0, 0, 0, 1535, 5631, 16383, 32767] [13, 15] 2 folM ?_
    replace hst := hst.drew
    refine Dn [0, 1, 2, 3, 4, 5, 6, 7, 8, 9, 10, 11, 12] [] [13] (yR rfl (m_ (pB b1) (eh e194_0)) (yR rfl (yn e0) (yR rfl (yFb FL_164_1 e0) (yR rfl (lb_ h5.v O_22 e0 hst R4) (yR rfl (m_ (iV x10) (eh e194_1)) (yR rfl (m_ (pB b1) (eh e194_0)) (yR rfl (yn e0) (yR rfl (yFb FL_164_2 e0) (yR rfl (lb_ h7.v O_22 e0 hst R4) (yR rfl (m_ (iV x183) (eh e194_6)) (yR rfl (m_ (iV x183) (eh e194_6)) (yR rfl (m_ (iV x10) (eh e194_1)) (yR rfl (yIs SL_22 e0 e0 hst rO1 gx199) ?_)))))))))))))
    refine Rn QSn ?_
    refine Lc1 rfl ?_
    replace hst := hst.pk 2 [1, 0] rfl
    refine LT wn (r_sti (cs := [iV x183]) hst O_3 rfl e0 e0 rfl mkI gx199) ?_
    intro w hst
    refine Dn [14] [9, 11] [15] (yR rfl (yIs SL_22 e0 e0 hst rO2 gx200) (Rn (yS rfl (m_ (iV x183) (eh e194_6)) (yS rfl (m_ (iV x10) (eh e194_1)) QSn)) ?_))
    refine Lc1 rfl ?_
    replace hst := hst.pk 3 [2, 0, 0] rfl
    refine LT wn (r_sti (cs := [iV x10]) hst O_3 rfl e0 e0 rfl mkI gx200) ?_
    intro w hst
    refine Dz [] [] (Rn QSn (k85 _ _ (sR fun _ k86 => Ya (.bool true) rfl (wK k86 (wp_ret (qb79 _ _ _ (z62 _ _ _ rfl ?_)))))))
    obtain rfl := someI hM9
    exact zz9 _ _ _ _ rfl rfl (je9_1 _ _ _ _ _ rfl ((hst.pk 5 [2, 1, 0, 0, 0] rfl).facts (allT allI)) (ho9 _ rfl))
   ·exact condF (eh e194_50) (bfalse c198) (wp_skip (qb79 _ _ _ (j12 _ _ _ _ _ e194_0 e194_1 e194_13 e194_14 e194_15 hst hM9)))
 ·refine cF e0 c143 (wp_exit (z61 _ _ _ rfl ?_))
  obtain rfl := someI hM9
  exact zz9 _ _ _ _ rfl rfl (je9_0 _ _ _ _ _ (hst.facts (allT allI)) (ho9 _ rfl))
theorem matching_kuhn_try_ok_n (n : Nat) : ∀ {w0 : World} {ros : List Fact} {rs : List Res} {w : World} {x2 : L2} {x4 x6 : LI} {x8 : List Bool} {x10 : Int} {b1 : Nat} {h3 h5 h7 h9 : Hdr} {out : LI × LI × (List Bool) × Bool} (hM : matching_kuhn_try n x2 x4 x6 x8 x10 = some out) (hst : St w0 ros (box b1 164 [h3.v, h5.v, h7.v, h9.v] :: row 22 S1 h3.v x2 :: row 3 I1 h5.v x4 :: row 3 I1 h7.v x6 :: row 4 rB h9.v x8 :: rs) w),
  Calls Tryz.prog 158 #[(pB b1), iV x10] w (fun e w => e = .returned (.bool out.2.2.2) ∧ St w0 ros (row 22 S1 h3.v x2 :: row 3 I1 h5.v out.1 :: row 3 I1 h7.v out.2.1 :: row 4 rB h9.v out.2.2.1 :: box b1 164 [h3.v, h5.v, h7.v, h9.v] :: rs) w) := by
 induction n with
 | zero => intro _ _ _ _ _ _ _ _ _ _ _ _ _ _ out hM; cases hM
 | succ n ih => exact fun hM hst => matching_kuhn_try_step (rec := matching_kuhn_try n) ih (hM := hM) (hst := hst)
theorem matching_kuhn_try_ok {x2 : L2} {x4 x6 : LI} {x8 : List Bool} {x10 : Int} {b1 : Nat} {h3 h5 h7 h9 : Hdr} {out : LI × LI × (List Bool) × Bool} (hM : matching_kuhn_try FUEL x2 x4 x6 x8 x10 = some out) (hst : St w0 ros (box b1 164 [h3.v, h5.v, h7.v, h9.v] :: row 22 S1 h3.v x2 :: row 3 I1 h5.v x4 :: row 3 I1 h7.v x6 :: row 4 rB h9.v x8 :: rs) w) :
  Calls Tryz.prog 158 #[(pB b1), iV x10] w (fun e w => e = .returned (.bool out.2.2.2) ∧ St w0 ros (row 22 S1 h3.v x2 :: row 3 I1 h5.v out.1 :: row 3 I1 h7.v out.2.1 :: row 4 rB h9.v out.2.2.1 :: box b1 164 [h3.v, h5.v, h7.v, h9.v] :: rs) w) := matching_kuhn_try_ok_n FUEL (hM := hM) (hst := hst)
theorem matching_matched_ok {x1 x2 : Int} {x3 x5 x7 : LI} {h4 h6 h8 : Hdr} {out : L2 × LI × LI × (List Bool)} (hM : matching_matched x1 x2 x3 x5 x7 = some out) (q1 : imm I1 h4.v x3 ∈ ros) (q2 : imm I1 h6.v x5 ∈ ros) (q3 : imm (rI .u64) h8.v x7 ∈ ros) (hst : St w0 ros rs w) :
  Calls Tryz.prog 140 #[.agg #[iV x1, iV x2, h4.v, h6.v, h8.v]] w (fun e w => ∃ (b100001 : Nat) (h100002 h100004 h100006 h100008 : Hdr), e = .returned (pB b100001) ∧ St w0 ros (row 22 S1 h100002.v out.1 :: row 3 I1 h100004.v out.2.1 :: row 3 I1 h100006.v out.2.2.1 :: row 4 rB h100008.v out.2.2.2 :: box b100001 164 [h100002.v, h100004.v, h100006.v, h100008.v] :: rs) w) := by
 refine enterQ Tryz.func140 rfl Tryz.ntmps140 rfl fun Q hQ => sR fun _ k1 => YB wn rfl (r_box (vals := [iV x1, iV x2, h4.v, h6.v, h8.v]) hst e0 rfl) ?_
 intro b9 w hst
 refine Ya (.pointer none) rfl (wK k1 (sQ fun _ k2 => ?_))
 obtain ⟨r10, gr10, hM⟩ := bs hM
 obtain ⟨r12, gr12, hM⟩ := bs hM
 obtain ⟨r14, gr14, hM⟩ := bs hM
 refine dR [0, 1, 0, 4, 15, 0, 32, 127, 255, 511, 1023] [1, 4, 7, 9, 10] 5 folM ?_
 replace hst := hst.drew
 refine Dn [0, 2, 3, 5, 6] [] [1] (yR rfl (lbs_ [iV x1, iV x2, h4.v, h6.v, h8.v] ST_91 e0 hst R0) (yR rfl (yFb FL_91_1 e0) (yR rfl (lb_ (iV x2) O_3 e0 hst R0) (yR rfl (yFb FL_91_0 e0) (yR rfl (lb_ (iV x1) O_3 e0 hst R0) (Rn QSn ?_))))))
 refine Lc1 rfl ?_
 refine Lk wn (yCall FN_156 (a1 e0)) (matching_Edges_ok gr10 q1 q2 q3 hst) ?_
 rintro _ w ⟨h11, rfl, hst⟩
 refine ⟨_, rfl, ?_⟩
 refine Dn [] [2, 3, 5, 6] [4] (Rn (yS rfl (yFb FL_91_1 e0) (yS rfl (lb_ (iV x2) O_3 e0 hst R1) (yS rfl (yFb FL_91_0 e0) (yS rfl (lb_ (iV x1) O_3 e0 hst R1) QSn)))) ?_)
 refine Lc1 rfl ?_
 refine Lk wn (yCall FN_157 (a2 e0 rfl)) (matching_full_ok gr12 hst) ?_
 rintro _ w ⟨h13, rfl, hst⟩
 refine ⟨_, rfl, ?_⟩
 refine Dn [] [5, 6] [7] (Rn (yS rfl (yFb FL_91_0 e0) (yS rfl (lb_ (iV x1) O_3 e0 hst R2) QSn)) ?_)
 refine Lc1 rfl ?_
 refine Lk wn (yCall FN_157 (a2 e0 rfl)) (matching_full_ok gr14 hst) ?_
 rintro _ w ⟨h15, rfl, hst⟩
 refine ⟨_, rfl, ?_⟩
 refine Dn [8] [] [9] (yR rfl (ybuild (us := [h11.v, h13.v, h15.v, hnil.v]) [(0, h11.v), (1, h13.v), (2, h15.v)] SO_164 (bp3 e0 e0 e0) rfl) (Rn QSn ?_))
 refine Lc1 rfl ?_
 refine LB wn (r_box (vals := [h11.v, h13.v, h15.v, hnil.v]) hst e0 rfl) ?_
 intro b16 w hst
 refine Dn [] [] [10] (Rn QSn ?_)
 refine Lc1 rfl ?_
 refine Ly wn (a_ (pB b16) e0) (Dz [] [] (Rn QSn (k2 _ _ (sQ fun _ k3 => sR fun _ k4 => yY (yFb FL_91_1 e0) (yY (lb_ (iV x2) O_3 e0 hst R4) (Ym (iV 0) rfl (wK k4 (blockQ fun Q5 qb5 => ?_))))))))
 obtain ⟨o1, go1, hM⟩ := bs hM
 have je1_0 : ∀ (x37 x38 : LI) (x40 : List Bool) (h39 : Hdr) (f : FV) (w : World), f 3 = (pB b16) → St w0 ros (row 22 S1 h11.v r10 :: row 3 I1 h13.v x37 :: row 3 I1 h15.v x38 :: row 4 rB h39.v x40 :: box b16 164 [h11.v, h13.v, h15.v, h39.v] :: rs) w → (x37, x38, x40) = o1 → Q5 (.exit 0) (fr 31 f) w := by
  intro x37 x38 x40 h39 f w eje1_0_3 hst ho
  subst ho
  refine qb5 _ _ _ (k3 _ _ (sR fun _ k18 => Ym (pB b16) (eh eje1_0_3) (Ya (pB b16) e0 (wK k18 (wp_ret ?_)))))
  obtain rfl := someI hM
  exact hQ _ _ _ (fin1r Tryz.results140 ⟨rfl, rfl⟩ ⟨_, _, _, _, _, rfl, hst⟩)
 replace hst := hst.rowNh 4 rB
 refine loopQ (fun s a w => ∃ (x22 x23 : LI) (x25 : List Bool) (x26 : Int) (f : FV) (h24 : Hdr), (x22, x23, x25, x26) = s ∧ a = fr 31 f ∧ f 1 = (pB b9) ∧ f 3 = (pB b16) ∧ f 16 = iV x2 ∧ f 17 = iV x26 ∧ St w0 ros (box b9 91 [iV x1, iV x2, h4.v, h6.v, h8.v] :: row 22 S1 h11.v r10 :: row 3 I1 h13.v x22 :: row 3 I1 h15.v x23 :: row 4 rB h24.v x25 :: box b16 164 [h11.v, h13.v, h15.v, h24.v] :: rs) w) go1 ⟨_, _, _, _, _, _, rfl, rfl, rfl, rfl, rfl, rfl, (hst.pk 6 [5, 4, 3, 2, 0, 0] rfl)⟩ ?_
 rintro _ _ w r1_ ⟨x22, x23, x25, x26, f, h24, rfl, rfl, e1_1, e1_3, e1_16, e1_17, hst⟩ hM1 ho1 Q100001 n1 zz1
 refine sR fun _ k19 => yY (ylss (eh e1_17) (eh e1_16)) (wK k19 (seqQ fun Q20 k20 z20 => ?_))
 rcases iteS hM1 with ⟨c41, hM1⟩ | ⟨c41, hM1⟩
 ·refine cT e0 c41 (wp_skip (k20 _ _ (sQ fun _ k21 => blockQ fun _ qb22 => sR fun _ k23 => Ym (iV x26) (eh e1_17) (Ya (iV x26) e0 (wK k23 (sR fun _ k24 => Ym (pB b16) (eh e1_3) ?_))))))
  refine yY (yFb FL_91_0 (eh e1_1)) (yY (lb_ (iV x1) O_3 e0 hst R0) ?_)
  obtain ⟨x44, gx44, hM1⟩ := bs hM1
  refine YH wn rfl (rMk hst SL_93 e0 gx44) ?_
  intro h42 w hst
  refine yY (yn e0) (yY (yFb FL_164_3 e0) ?_)
  replace hst := hst.pk 7 [6, 0, 0, 0, 0, 0, 0] rfl
  refine YT wn rfl (r_stb1 (vals' := [h11.v, h13.v, h15.v, h42.v]) hst O_93 e0 e0 rfl rfl rfl rfl) ?_
  intro w hst
  refine wK k24 (wR (Ym (pB b16) (eh e1_3) (Ym (iV x26) e0 ?_)))
  obtain ⟨r45, gr45, hM1⟩ := bs hM1
  replace hst := hst.pk 6 [0, 2, 2, 2, 0, 0] rfl
  refine Yc wn rfl (yCall FN_158 (a2 e0 e0)) (matching_kuhn_try_ok gr45 hst) ?_
  rintro _ w ⟨rfl, hst⟩
  refine ⟨_, rfl, ?_⟩
  refine wN (qb22 _ _ _ (k21 _ _ (wR (yY (yadd (eh e1_17) rfl) (Ym (iV (wa .i64 x26 1)) e0 (wN ?_))))))
  obtain rfl := someI hM1
  exact n1 _ _ _ rfl ⟨_, _, _, _, _, _, rfl, rfl, e1_1, e1_3, e1_16, rfl, (hst.pk 7 [5, 0, 0, 0, 0, 0] rfl)⟩
 ·refine cF e0 c41 (wp_exit (z20 _ _ _ rfl ?_))
  obtain rfl := someI hM1
  exact zz1 _ _ _ _ rfl rfl (je1_0 _ _ _ _ _ _ e1_3 (hst.pk 6 [1, 1, 1, 1, 1] rfl) (ho1 _ rfl))
theorem matching_Reachable_ok {x1 x2 : Int} {x3 x5 x7 : LI} {h4 h6 h8 : Hdr} {out : (List Bool) × (List Bool)} (hM : matching_Reachable x1 x2 x3 x5 x7 = some out) (q1 : imm I1 h4.v x3 ∈ ros) (q2 : imm I1 h6.v x5 ∈ ros) (q3 : imm (rI .u64) h8.v x7 ∈ ros) (hst : St w0 ros rs w) :
  Calls Tryz.prog 123 #[.agg #[iV x1, iV x2, h4.v, h6.v, h8.v]] w (fun e w => ∃ (h100001 h100003 : Hdr), e = .returned (.tuple #[h100001.v, h100003.v]) ∧ St w0 ros (row 4 rB h100001.v out.1 :: row 4 rB h100003.v out.2 :: rs) w) := by
 refine enterQ Tryz.func123 rfl Tryz.ntmps123 rfl fun Q hQ => sR fun _ k1 => YB wn rfl (r_box (vals := [iV x1, iV x2, h4.v, h6.v, h8.v]) hst e0 rfl) ?_
 intro b9 w hst
 refine Ya hnil.v rfl (Ya hnil.v rfl (wK k1 (sR fun _ k2 => yY (lbs_ [iV x1, iV x2, h4.v, h6.v, h8.v] ST_91 e0 hst R0) ?_)))
 obtain ⟨r10, gr10, hM⟩ := bs hM
 refine Yc wn rfl (yCall FN_140 (a1 e0)) (matching_matched_ok gr10 q1 q2 q3 hst) ?_
 rintro _ w ⟨b11, h12, h13, h14, h15, rfl, hst⟩
 refine ⟨_, rfl, ?_⟩
 refine Ya (pB b11) e0 (wK k2 (sQ fun _ k3 => ?_))
 obtain ⟨x18, gx18, hM⟩ := bs hM
 obtain ⟨x21, gx21, hM⟩ := bs hM
 refine joinN (n := 89) (fun f w => ∃ (h22 h23 : Hdr), f 2 = h22.v ∧ f 3 = h23.v ∧ f 4 = (pB b11) ∧ St w0 ros (row 4 rB h22.v x18 :: row 4 rB h23.v x21 :: row 22 S1 h12.v r10.1 :: row 3 I1 h13.v r10.2.1 :: row 3 I1 h14.v r10.2.2.1 :: row 4 rB h15.v r10.2.2.2 :: box b11 164 [h12.v, h13.v, h14.v, h15.v] :: rs) w) (fun j1 => ?_) ?_
 ·refine dR [0, 1, 3, 0, 8, 24, 7, 127] [2, 5, 6, 7] 4 folM ?_
  replace hst := hst.drew
  refine Dn [0, 1, 3, 4] [] [2, 5] (yR rfl (yFb FL_91_0 e0) (yR rfl (lb_ (iV x1) O_3 e0 hst R5) (yR rfl (yFb FL_91_1 e0) (yR rfl (lb_ (iV x2) O_3 e0 hst R5) (Rn QSn ?_)))))
  refine Lc rfl ?_ (Lc1 rfl ?_)
  ·refine LH wn (rMk hst SL_93 e0 gx18) ?_
   intro h16 w hst
   refine Dn [] [3, 4] [5, 6] (Rn (yS rfl (yFb FL_91_1 e0) (yS rfl (lb_ (iV x2) O_3 e0 hst R6) QSn)) ?_)
   refine Lc rfl ?_ (Lc1 rfl ?_)
   ·refine LH wn (rMk hst SL_93 e0 gx21) ?_
    intro h19 w hst
    refine Dn [] [] [6] (Rn QSn ?_)
    refine Lc1 rfl ?_
    refine Ly wn (a_ h16.v e0) (Dn [] [] [7] (Rn QSn ?_))
    refine Lc1 rfl ?_
    exact Ly wn (a_ h19.v e0) (Dz [] [] (Rn QSn (j1 _ _ ⟨_, _, rfl, rfl, rfl, (hst.pk 8 [1, 0, 0, 0, 0, 0, 0] rfl)⟩)))
   ·refine Ly wn (a_ h16.v e0) (Dn [] [3, 4] [5] (Rn (yS rfl (yFb FL_91_1 e0) (yS rfl (lb_ (iV x2) O_3 e0 hst R6) QSn)) ?_))
    refine Lc1 rfl ?_
    refine LH wn (rMk hst SL_93 e0 gx21) ?_
    intro h19 w hst
    refine Dn [] [] [7] (Rn QSn ?_)
    refine Lc1 rfl ?_
    exact Ly wn (a_ h19.v e0) (Dz [] [] (Rn QSn (j1 _ _ ⟨_, _, rfl, rfl, rfl, (hst.pk 8 [1, 0, 0, 0, 0, 0, 0] rfl)⟩)))
  ·refine LH wn (rMk hst SL_93 e0 gx21) ?_
   intro h19 w hst
   refine Dn [] [0, 1] [2] (Rn (yS rfl (yFb FL_91_0 e0) (yS rfl (lb_ (iV x1) O_3 e0 hst R6) QSn)) ?_)
   refine Lc1 rfl ?_
   refine LH wn (rMk hst SL_93 e0 gx18) ?_
   intro h16 w hst
   refine Dn [] [] [6] (Rn QSn ?_)
   refine Lc1 rfl ?_
   refine Ly wn (a_ h16.v e0) (Dn [] [] [7] (Rn QSn ?_))
   refine Lc1 rfl ?_
   exact Ly wn (a_ h19.v e0) (Dz [] [] (Rn QSn (j1 _ _ ⟨_, _, rfl, rfl, rfl, (hst.pk 8 [0, 0, 0, 0, 0, 0, 0] rfl)⟩)))
 rintro f w ⟨h22, h23, e24_2, e24_3, e24_4, hst⟩
 refine k3 _ _ (sR fun _ k4 => Ya hnil.v rfl (wK k4 (sQ fun _ k5 => sR fun _ k6 => Ym (pB b11) (eh e24_4) (yY (yn e0) (yY (yFb FL_164_1 e0) (yY (lb_ h13.v O_22 e0 hst R6) (yY (yLen SL_22 e0 hst rO3) ?_)))))))
 refine Ym (iV 0) rfl (wK k6 (blockQ fun Q7 qb7 => ?_))
 obtain ⟨o4, go4, hM⟩ := bs hM
 have je4_0 : ∀ (x61 : List Bool) (x63 : LI) (h62 : Hdr) (f : FV) (w : World), f 2 = h22.v → f 3 = h23.v → f 4 = (pB b11) → f 5 = h62.v → St w0 ros (row 4 rB h22.v x18 :: row 4 rB h23.v x61 :: row 22 S1 h12.v r10.1 :: row 3 I1 h13.v r10.2.1 :: row 3 I1 h14.v r10.2.2.1 :: row 4 rB h15.v r10.2.2.2 :: box b11 164 [h12.v, h13.v, h14.v, h15.v] :: row 3 I1 h62.v x63 :: rs) w → (x61, x63) = o4 → Q7 (.exit 0) (fr 89 f) w := by
  intro x61 x63 h62 f w eje4_0_2 eje4_0_3 eje4_0_4 eje4_0_5 hst ho
  subst ho
  refine qb7 _ _ _ (k5 _ _ (sQ fun _ k24 => blockQ fun Q25 qb25 => ?_))
  obtain ⟨o19, go19, hM⟩ := bs hM
  have je19_0 : ∀ (x236 x237 : List Bool) (f : FV) (w : World), f 2 = h22.v → f 3 = h23.v → St w0 ros (row 4 rB h22.v x236 :: row 4 rB h23.v x237 :: rs) w → (x236, x237) = o19 → Q25 (.exit 2) (fr 89 f) w := by
   intro x236 x237 f w eje19_0_2 eje19_0_3 hst ho
   subst ho
   refine qb25 _ _ _ (k24 _ _ (sR fun _ k100 => Ym h22.v (eh eje19_0_2) (Ym h23.v (eh eje19_0_3) (Ya h22.v e0 (Ya h23.v e0 (wK k100 (wp_ret ?_)))))))
   obtain rfl := someI hM
   exact hQ _ _ _ (fin2r Tryz.results123 ⟨rfl, rfl⟩ ⟨rfl, rfl⟩ ⟨_, _, rfl, hst⟩)
  replace hst := hst.pk 8 [7, 0, 0, 0, 0, 0, 0, 0] rfl
  replace hst := hst.toQ
  refine loopQ (fun s a w => ∃ (x146 x147 : List Bool) (x149 : LI) (f : FV) (h148 : Hdr), (x146, x147, x149) = s ∧ a = fr 89 f ∧ f 2 = h22.v ∧ f 3 = h23.v ∧ f 4 = (pB b11) ∧ f 5 = h148.v ∧ St w0 ros (row 4 rB h22.v x146 :: row 4 rB h23.v x147 :: row 22 S1 h12.v r10.1 :: row 3 I1 h13.v r10.2.1 :: row 3 I1 h14.v r10.2.2.1 :: row 4 rB h15.v r10.2.2.2 :: box b11 164 [h12.v, h13.v, h14.v, h15.v] :: rowS 3 I1 h148.v x149 :: rs) w) go19 ⟨_, _, _, _, _, rfl, rfl, eje4_0_2, eje4_0_3, eje4_0_4, eje4_0_5, (hst.pk 8 [1, 1, 1, 1, 1, 1, 1, 0] rfl)⟩ ?_
  rintro _ _ w r19_ ⟨x146, x147, x149, f, h148, rfl, rfl, e19_2, e19_3, e19_4, e19_5, hst⟩ hM19 ho19 Q100019 n19 zz19
  refine seqQ fun Q101 k101 z101 => sR fun _ k102 => Ym h148.v (eh e19_5) (yY (yLen SL_22 e0 hst (rdQ R7)) (yY (ygtr e0 rfl) (wK k102 ?_)))
  rcases iteS hM19 with ⟨c238, hM19⟩ | ⟨c238, hM19⟩
  ·refine cT e0 c238 (wp_skip (k101 _ _ (blockQ fun _ qb103 => sR fun _ k104 => Ym h148.v (eh e19_5) ?_)))
   obtain ⟨x239, gx239, hM19⟩ := bs hM19
   refine yY (yIa SL_22 e0 rfl hst (rdQ R7) gx239) (yY (yI O_3 e0 hst (rdQ R7) gx239) (Ya (iV x239) e0 (wK k104 (sR fun _ k105 => Ym h148.v (eh e19_5) ?_))))
   obtain ⟨x240, gx240, hM19⟩ := bs hM19
   replace hst := hst.pk 8 [7, 0, 0, 0, 0, 0, 0, 0] rfl
   refine yY (ySl (k2 := .i64) SL_22 e0 hst (rdQ R0) (.inl (congrArg some rfl)) (.inr ⟨rfl, rfl⟩) gx240) ?_
   replace hst := hst.qcut gx240 rfl
   refine Ya ((subH h148 1 1 (x149.length : Int)).v) e0 (wK k105 (sR fun _ k106 => Ym (pB b11) (eh e19_4) (yY (yn e0) (yY (yFb FL_164_0 e0) (yY (lb_ h12.v O_24 e0 hst R7) (Ym (iV x239) e0 ?_))))))
   obtain ⟨x241, gx241, hM19⟩ := bs hM19
   refine yY (yIa SL_24 e0 e0 hst rO3 gx241) ?_
   obtain ⟨h242, ch242, hst⟩ := rLs hst rO3 gx241
   refine yY (yCe O_22 e0 ch242 rfl) (yY (yLen SL_22 e0 hst (rdI F0)) (Ym (iV 0) rfl (wK k106 (blockQ fun Q107 qb107 => ?_))))
   obtain ⟨o24, go24, hM19⟩ := bs hM19
   have je24_0 : ∀ (x295 x296 : List Bool) (x298 : LI) (h297 : Hdr) (f : FV) (w : World), f 2 = h22.v → f 3 = h23.v → f 4 = (pB b11) → f 5 = h297.v → St w0 ros (row 4 rB h22.v x295 :: row 4 rB h23.v x296 :: row 22 S1 h12.v r10.1 :: row 3 I1 h13.v r10.2.1 :: row 3 I1 h14.v r10.2.2.1 :: row 4 rB h15.v r10.2.2.2 :: box b11 164 [h12.v, h13.v, h14.v, h15.v] :: rowS 3 I1 h297.v x298 :: rs) w → (x295, x296, x298) = o24 → Q107 (.exit 4) (fr 89 f) w := by
    intro x295 x296 x298 h297 f w eje24_0_2 eje24_0_3 eje24_0_4 eje24_0_5 hst ho
    subst ho
    refine qb107 _ _ _ (qb103 _ _ _ ?_)
    obtain rfl := someI hM19
    exact n19 _ _ _ rfl ⟨_, _, _, _, _, rfl, rfl, eje24_0_2, eje24_0_3, eje24_0_4, eje24_0_5, hst⟩
   refine loopQ (fun s a w => ∃ (x264 x265 : List Bool) (x267 : LI) (x268 : Int) (f : FV) (h266 : Hdr), (x264, x265, x267, x268) = s ∧ a = fr 89 f ∧ f 2 = h22.v ∧ f 3 = h23.v ∧ f 4 = (pB b11) ∧ f 5 = h266.v ∧ f 54 = h242.v ∧ f 55 = iV (x241.length : Int) ∧ f 56 = iV x268 ∧ St w0 (imm I1 h242.v x241 :: ros) (row 4 rB h22.v x264 :: row 4 rB h23.v x265 :: row 22 S1 h12.v r10.1 :: row 3 I1 h13.v r10.2.1 :: row 3 I1 h14.v r10.2.2.1 :: row 4 rB h15.v r10.2.2.2 :: box b11 164 [h12.v, h13.v, h14.v, h15.v] :: rowS 3 I1 h266.v x267 :: rs) w) go24 ⟨_, _, _, _, _, _, rfl, rfl, e19_2, e19_3, e19_4, rfl, rfl, rfl, rfl, (hst.pk 8 [1, 1, 1, 1, 1, 1, 1, 0] rfl)⟩ ?_
   rintro _ _ w r24_ ⟨x264, x265, x267, x268, f, h266, rfl, rfl, e24_2, e24_3, e24_4, e24_5, e24_54, e24_55, e24_56, hst⟩ hM24 ho24 Q100024 n24 zz24
   refine sR fun _ k128 => yY (ylss (eh e24_56) (eh e24_55)) (wK k128 (seqQ fun Q129 k129 z129 => ?_))
   rcases iteS hM24 with ⟨c299, hM24⟩ | ⟨c299, hM24⟩
   ·refine cT e0 c299 (wp_skip (k129 _ _ (sQ fun _ k130 => blockQ fun Q131 qb131 => sR fun _ k132 => ?_)))
    obtain ⟨x300, gx300, hM24⟩ := bs hM24
    refine yY (yIa SL_22 (eh e24_54) (eh e24_56) hst (rdI F0) gx300) (yY (yI O_3 e0 hst (rdI F0) gx300) (Ya (iV x300) e0 (wK k132 (sR fun _ k133 => Ym h22.v (eh e24_2) (Ym (iV x300) e0 ?_)))))
    obtain ⟨x301, gx301, hM24⟩ := bs hM24
    refine yY (yIs SL_93 e0 e0 hst rO0 gx301) (YT wn rfl (r_sti (cs := [.bool true]) hst O_4 rfl e0 rfl rfl mkB gx301) ?_)
    intro w hst
    refine wK k133 (sR fun _ k134 => Ym (pB b11) (eh e24_4) (yY (yn e0) (yY (yFb FL_164_2 e0) (yY (lb_ h14.v O_22 e0 hst R6) (Ym (iV x300) e0 ?_)))))
    obtain ⟨x302, gx302, hM24⟩ := bs hM24
    refine yY (yIa SL_22 e0 e0 hst rO4 gx302) (yY (yI O_3 e0 hst rO4 gx302) (Ya (iV x302) e0 (wK k134 (sR fun _ k135 => Ym (iV x302) e0 (yY (yneq e0 rfl) (Ym (.bool (!(decide (x302 = (-1))))) e0 ?_))))))
    obtain ⟨r304, gr304, hM24⟩ := bs hM24
    refine joinW 6 (fun f w => f 2 = h22.v ∧ f 3 = h23.v ∧ f 4 = (pB b11) ∧ f 5 = h266.v ∧ f 11 = iV x302 ∧ f 54 = h242.v ∧ f 55 = iV (x241.length : Int) ∧ f 56 = iV x268 ∧ f 78 = .bool r304 ∧ St w0 (imm I1 h242.v x241 :: ros) (row 4 rB h22.v x301 :: row 4 rB h23.v x265 :: row 22 S1 h12.v r10.1 :: row 3 I1 h13.v r10.2.1 :: row 3 I1 h14.v r10.2.2.1 :: row 4 rB h15.v r10.2.2.2 :: box b11 164 [h12.v, h13.v, h14.v, h15.v] :: rowS 3 I1 h266.v x267 :: rs) w) (fun j25 => ?_) ?_
    ·rcases iteS gr304 with ⟨c306, gr304⟩ | ⟨c306, gr304⟩
     ·refine gN (nF (dT c306)) (gN (nF (dT c306)) (gN (nF (dT c306)) (gN (nF (dT c306)) (gN (nF (dT c306)) (yY (pf_ (.bool false) e0 (nF (dT c306)) rfl) ?_)))))
      obtain rfl := someI gr304
      exact j25 _ _ ⟨e24_2, e24_3, e24_4, e24_5, rfl, e24_54, e24_55, e24_56, rfl, hst⟩
     ·refine yG (nT (dF c306)) (m_ h23.v (eh e24_3)) (yG (nT (dF c306)) (m_ (iV x302) e0) ?_)
      obtain ⟨x307, gx307, gr304⟩ := bs gr304
      refine yG (nT (dF c306)) (yIa SL_93 e0 e0 hst rO1 gx307) (yG (nT (dF c306)) (yB O_4 e0 hst rO1 gx307) (yG (nT (dF c306)) (ynot e0) (yY (pt_ (.bool (!x307)) e0 (nT (dF c306)) e0) ?_)))
      obtain rfl := someI gr304
      exact j25 _ _ ⟨e24_2, e24_3, e24_4, e24_5, rfl, e24_54, e24_55, e24_56, rfl, hst⟩
    rintro f w ⟨e305_2, e305_3, e305_4, e305_5, e305_11, e305_54, e305_55, e305_56, e305_78, hst⟩
    refine wK k135 ?_
    have j26 : ∀ (x312 : List Bool) (x314 : LI) (h313 : Hdr) (f : FV) (w : World), f 2 = h22.v → f 3 = h23.v → f 4 = (pB b11) → f 5 = h313.v → f 54 = h242.v → f 55 = iV (x241.length : Int) → f 56 = iV x268 → St w0 (imm I1 h242.v x241 :: ros) (row 4 rB h22.v x301 :: row 4 rB h23.v x312 :: row 22 S1 h12.v r10.1 :: row 3 I1 h13.v r10.2.1 :: row 3 I1 h14.v r10.2.2.1 :: row 4 rB h15.v r10.2.2.2 :: box b11 164 [h12.v, h13.v, h14.v, h15.v] :: rowS 3 I1 h313.v x314 :: rs) w → matching_Reachable_j26 x301 x268 x312 x314 = some r24_ → Q131 .normal (fr 89 f) w := by
     intro x312 x314 h313 f w ej26_2 ej26_3 ej26_4 ej26_5 ej26_54 ej26_55 ej26_56 hst hM
     refine qb131 _ _ _ (k130 _ _ (wR (yY (yadd (eh ej26_56) rfl) (Ym (iV (wa .i64 x268 1)) e0 (wN ?_)))))
     obtain rfl := someI hM
     exact n24 _ _ _ rfl ⟨_, _, _, _, _, _, rfl, rfl, ej26_2, ej26_3, ej26_4, ej26_5, ej26_54, ej26_55, rfl, hst⟩
    rcases iteS hM24 with ⟨c315, hM24⟩ | ⟨c315, hM24⟩
    ·refine condT (eh e305_78) c315 (sR fun _ k137 => Ym h23.v (eh e305_3) (Ym (iV x302) (eh e305_11) ?_))
     obtain ⟨x316, gx316, hM24⟩ := bs hM24
     refine yY (yIs SL_93 e0 e0 hst rO1 gx316) ?_
     replace hst := hst.pk 2 [1, 0] rfl
     refine YT wn rfl (r_sti (cs := [.bool true]) hst O_4 rfl e0 rfl rfl mkB gx316) ?_
     intro w hst
     refine wK k137 (wR (Ym h266.v (eh e305_5) (Ym (iV x302) (eh e305_11) (YH wn rfl (rLt (n := 1) (l := [x302]) hst SL_22 [iV x302] (bp1 e0) rfl rfl (mks1 (cs := [iV x302]) rfl mkI mks0)) ?_))))
     intro h317 w hst
     obtain ⟨x319, gx319, hM24⟩ := bs hM24
     replace hst := hst.pk 9 [8, 0, 0, 0, 0, 0, 0, 0, 0] rfl
     refine YH wn rfl (rQAp hst SL_22 e0 e0 rO1 (List.cons_ne_nil _ _) gx319) ?_
     intro h318 w hst
     exact Ya h318.v e0 (wN (j26 _ _ _ _ _ e305_2 e305_3 e305_4 rfl e305_54 e305_55 e305_56 (hst.pk 9 [3, 2, 2, 2, 2, 2, 2, 0] rfl) hM24))
    ·exact condF (eh e305_78) (bfalse c315) (wp_skip (j26 _ _ _ _ _ e305_2 e305_3 e305_4 e305_5 e305_54 e305_55 e305_56 hst hM24))
   ·refine cF e0 c299 (wp_exit (z129 _ _ _ rfl ?_))
    obtain rfl := someI hM24
    exact zz24 _ _ _ _ rfl rfl (je24_0 _ _ _ _ _ _ e24_2 e24_3 e24_4 e24_5 (hst.facts (allT allI)) (ho24 _ rfl))
  ·refine cF e0 c238 (wp_exit (z101 _ _ _ rfl ?_))
   obtain rfl := someI hM19
   exact zz19 _ _ _ _ rfl rfl (je19_0 _ _ _ _ e19_2 e19_3 (hst.pk 8 [0, 0] rfl) (ho19 _ rfl))
 replace hst := hst.rowNh 3 I1
 refine loopQ (fun s a w => ∃ (x39 : List Bool) (x41 : LI) (x42 : Int) (f : FV) (h40 : Hdr), (x39, x41, x42) = s ∧ a = fr 89 f ∧ f 2 = h22.v ∧ f 3 = h23.v ∧ f 4 = (pB b11) ∧ f 5 = h40.v ∧ f 23 = h13.v ∧ f 24 = iV (r10.2.1.length : Int) ∧ f 25 = iV x42 ∧ St w0 ros (row 4 rB h22.v x18 :: row 4 rB h23.v x39 :: row 22 S1 h12.v r10.1 :: row 3 I1 h13.v r10.2.1 :: row 3 I1 h14.v r10.2.2.1 :: row 4 rB h15.v r10.2.2.2 :: box b11 164 [h12.v, h13.v, h14.v, h15.v] :: row 3 I1 h40.v x41 :: rs) w) go4 ⟨_, _, _, _, _, rfl, rfl, e24_2, e24_3, e24_4, rfl, rfl, rfl, rfl, (hst.pk 8 [1, 1, 1, 1, 1, 1, 1, 0] rfl)⟩ ?_
 rintro _ _ w r4_ ⟨x39, x41, x42, f, h40, rfl, rfl, e4_2, e4_3, e4_4, e4_5, e4_23, e4_24, e4_25, hst⟩ hM4 ho4 Q100004 n4 zz4
 refine sR fun _ k138 => yY (ylss (eh e4_25) (eh e4_24)) (wK k138 (seqQ fun Q139 k139 z139 => ?_))
 rcases iteS hM4 with ⟨c320, hM4⟩ | ⟨c320, hM4⟩
 ·refine cT e0 c320 (wp_skip (k139 _ _ (sQ fun _ k140 => blockQ fun Q141 qb141 => sR fun _ k142 => Ym (iV x42) (eh e4_25) ?_)))
  obtain ⟨x321, gx321, hM4⟩ := bs hM4
  refine yY (yIa SL_22 (eh e4_23) (eh e4_25) hst rO3 gx321) (yY (yI O_3 e0 hst rO3 gx321) (Ya (iV x42) e0 (Ya (iV x321) e0 (wK k142 (sR fun _ k143 => Ym (iV x321) e0 (yY (yeql e0 rfl) (wK k143 ?_)))))))
  have j27 : ∀ (x326 : List Bool) (x328 : LI) (h327 : Hdr) (f : FV) (w : World), f 2 = h22.v → f 3 = h23.v → f 4 = (pB b11) → f 5 = h327.v → f 23 = h13.v → f 24 = iV (r10.2.1.length : Int) → f 25 = iV x42 → St w0 ros (row 4 rB h22.v x18 :: row 4 rB h23.v x326 :: row 22 S1 h12.v r10.1 :: row 3 I1 h13.v r10.2.1 :: row 3 I1 h14.v r10.2.2.1 :: row 4 rB h15.v r10.2.2.2 :: box b11 164 [h12.v, h13.v, h14.v, h15.v] :: row 3 I1 h327.v x328 :: rs) w → matching_Reachable_j27 x42 x326 x328 = some r4_ → Q141 .normal (fr 89 f) w := by
   intro x326 x328 h327 f w ej27_2 ej27_3 ej27_4 ej27_5 ej27_23 ej27_24 ej27_25 hst hM
   refine qb141 _ _ _ (k140 _ _ (wR (yY (yadd (eh ej27_25) rfl) (Ym (iV (wa .i64 x42 1)) e0 (wN ?_)))))
   obtain rfl := someI hM
   exact n4 _ _ _ rfl ⟨_, _, _, _, _, rfl, rfl, ej27_2, ej27_3, ej27_4, ej27_5, ej27_23, ej27_24, rfl, hst⟩
  rcases iteS hM4 with ⟨c329, hM4⟩ | ⟨c329, hM4⟩
  ·refine cT e0 c329 (sR fun _ k145 => Ym h23.v (eh e4_3) (Ym (iV x42) e0 ?_))
   obtain ⟨x330, gx330, hM4⟩ := bs hM4
   refine yY (yIs SL_93 e0 e0 hst rO1 gx330) ?_
   replace hst := hst.pk 2 [1, 0] rfl
   refine YT wn rfl (r_sti (cs := [.bool true]) hst O_4 rfl e0 rfl rfl mkB gx330) ?_
   intro w hst
   refine wK k145 (wR (Ym h40.v (eh e4_5) (Ym (iV x42) e0 (YH wn rfl (rLt (n := 1) (l := [x42]) hst SL_22 [iV x42] (bp1 e0) rfl rfl (mks1 (cs := [iV x42]) rfl mkI mks0)) ?_))))
   intro h331 w hst
   obtain ⟨x333, gx333, hM4⟩ := bs hM4
   replace hst := hst.pk 9 [8, 0, 0, 0, 0, 0, 0, 0, 0] rfl
   refine YH wn rfl (rAp hst SL_22 e0 e0 rO1 gx333) ?_
   intro h332 w hst
   exact Ya h332.v e0 (wN (j27 _ _ _ _ _ e4_2 e4_3 e4_4 rfl e4_23 e4_24 e4_25 (hst.pk 9 [3, 2, 2, 2, 2, 2, 2, 0] rfl) hM4))
  ·exact cF e0 c329 (wp_skip (j27 _ _ _ _ _ e4_2 e4_3 e4_4 e4_5 e4_23 e4_24 e4_25 hst hM4))
 ·refine cF e0 c320 (wp_exit (z139 _ _ _ rfl ?_))
  obtain rfl := someI hM4
  exact zz4 _ _ _ _ rfl rfl (je4_0 _ _ _ _ _ e4_2 e4_3 e4_4 e4_5 hst (ho4 _ rfl))
theorem matching_List_ok {x1 : List Bool} {x3 : Bool} {h2 : Hdr} {out : LI} (hM : matching_List x1 x3 = some out) (q1 : imm rB h2.v x1 ∈ ros) (hst : St w0 ros rs w) :
  Calls Tryz.prog 124 #[h2.v, .bool x3] w (fun e w => ∃ (h100001 : Hdr), e = .returned (h100001.v) ∧ St w0 ros (row 3 I1 h100001.v out :: rs) w) := by
 refine enterQ Tryz.func124 rfl Tryz.ntmps124 rfl fun Q hQ => sR fun _ k1 => Ya hnil.v rfl (wK k1 (sR fun _ k2 => Ya hnil.v rfl (wK k2 (sQ fun _ k3 => sR fun _ k4 => ?_))))
 refine Ym h2.v e0 (yY (yLen SL_93 e0 hst (rdI q1)) (Ym (iV 0) rfl (wK k4 (blockQ fun Q5 qb5 => ?_))))
 obtain ⟨o3, go3, hM⟩ := bs hM
 have je3_0 : ∀ (x33 : LI) (h32 : Hdr) (f : FV) (w : World), f 5 = h32.v → St w0 ros (row 3 I1 h32.v x33 :: rs) w → x33 = o3 → Q5 (.exit 0) (fr 24 f) w := by
  intro x33 h32 f w eje3_0_5 hst ho
  subst ho
  refine qb5 _ _ _ (k3 _ _ (sR fun _ k18 => Ym h32.v (eh eje3_0_5) (Ya h32.v e0 (wK k18 (wp_ret ?_)))))
  obtain rfl := someI hM
  exact hQ _ _ _ (fin1r Tryz.results124 ⟨rfl, rfl⟩ ⟨_, rfl, hst⟩)
 replace hst := hst.rowNh 3 I1
 refine loopQ (fun s a w => ∃ (x16 : LI) (x17 : Int) (f : FV) (h15 : Hdr), (x16, x17) = s ∧ a = fr 24 f ∧ f 1 = .bool x3 ∧ f 5 = h15.v ∧ f 8 = h2.v ∧ f 9 = iV (x1.length : Int) ∧ f 10 = iV x17 ∧ St w0 ros (row 3 I1 h15.v x16 :: rs) w) go3 ⟨_, _, _, _, rfl, rfl, rfl, rfl, rfl, rfl, rfl, hst⟩ ?_
 rintro _ _ w r3_ ⟨x16, x17, f, h15, rfl, rfl, e3_1, e3_5, e3_8, e3_9, e3_10, hst⟩ hM3 ho3 Q100003 n3 zz3
 refine sR fun _ k19 => yY (ylss (eh e3_10) (eh e3_9)) (wK k19 (seqQ fun Q20 k20 z20 => ?_))
 rcases iteS hM3 with ⟨c34, hM3⟩ | ⟨c34, hM3⟩
 ·refine cT e0 c34 (wp_skip (k20 _ _ (sQ fun _ k21 => blockQ fun Q22 qb22 => sR fun _ k23 => Ym (iV x17) (eh e3_10) ?_)))
  obtain ⟨x35, gx35, hM3⟩ := bs hM3
  refine yY (yIa SL_93 (eh e3_8) (eh e3_10) hst (rdI q1) gx35) (yY (yB O_4 e0 hst (rdI q1) gx35) (Ya (iV x17) e0 (Ya (.bool x35) e0 (wK k23 (sR fun _ k24 => Ym (.bool x35) e0 (Ym (.bool x3) (eh e3_1) (yY (yeqb (by kernel_rfl) e0 e0) (wK k24 ?_))))))))
  have j4 : ∀ (x40 : LI) (h39 : Hdr) (f : FV) (w : World), f 1 = .bool x3 → f 5 = h39.v → f 8 = h2.v → f 9 = iV (x1.length : Int) → f 10 = iV x17 → St w0 ros (row 3 I1 h39.v x40 :: rs) w → matching_List_j4 x17 x40 = some r3_ → Q22 .normal (fr 24 f) w := by
   intro x40 h39 f w ej4_1 ej4_5 ej4_8 ej4_9 ej4_10 hst hM
   refine qb22 _ _ _ (k21 _ _ (wR (yY (yadd (eh ej4_10) rfl) (Ym (iV (wa .i64 x17 1)) e0 (wN ?_)))))
   obtain rfl := someI hM
   exact n3 _ _ _ rfl ⟨_, _, _, _, rfl, rfl, ej4_1, ej4_5, ej4_8, ej4_9, rfl, hst⟩
  rcases iteS hM3 with ⟨c41, hM3⟩ | ⟨c41, hM3⟩
  ·refine condT e0 c41 (wR (Ym h15.v (eh e3_5) (Ym (iV x17) e0 (YH wn rfl (rLt (n := 1) (l := [x17]) hst SL_22 [iV x17] (bp1 e0) rfl rfl (mks1 (cs := [iV x17]) rfl mkI mks0)) ?_))))
   intro h42 w hst
   obtain ⟨x44, gx44, hM3⟩ := bs hM3
   replace hst := hst.pk 2 [1, 0] rfl
   refine YH wn rfl (rAp hst SL_22 e0 e0 rO1 gx44) ?_
   intro h43 w hst
   exact Ya h43.v e0 (wN (j4 _ _ _ _ e3_1 rfl e3_8 e3_9 e3_10 (hst.pk 2 [0] rfl) hM3))
  ·exact condF e0 (bfalse c41) (wp_skip (j4 _ _ _ _ e3_1 e3_5 e3_8 e3_9 e3_10 hst hM3))
 ·refine cF e0 c34 (wp_exit (z20 _ _ _ rfl ?_))
  obtain rfl := someI hM3
  exact zz3 _ _ _ _ rfl rfl (je3_0 _ _ _ _ e3_5 hst (ho3 _ rfl))
theorem matching_Cover_ok {x1 x2 : Int} {x3 x5 x7 : LI} {h4 h6 h8 : Hdr} {out : LI × LI × Int} (hM : matching_Cover x1 x2 x3 x5 x7 = some out) (q1 : imm I1 h4.v x3 ∈ ros) (q2 : imm I1 h6.v x5 ∈ ros) (q3 : imm (rI .u64) h8.v x7 ∈ ros) (hst : St w0 ros rs w) :
  Calls Tryz.prog 104 #[.agg #[iV x1, iV x2, h4.v, h6.v, h8.v]] w (fun e w => ∃ (h100001 h100003 : Hdr), e = .returned (.tuple #[.agg #[h100001.v, h100003.v], iV out.2.2]) ∧ St w0 ros (row 3 I1 h100001.v out.1 :: row 3 I1 h100003.v out.2.1 :: rs) w) := by
 refine enterQ Tryz.func104 rfl Tryz.ntmps104 rfl fun Q hQ => sR fun _ k1 => YB wn rfl (r_box (vals := [iV x1, iV x2, h4.v, h6.v, h8.v]) hst e0 rfl) ?_
 intro b9 w hst
 refine YB wn rfl (rAl hst ZT_86) ?_
 intro b10 w hst
 refine Ya (iV 0) rfl (wK k1 (sR fun _ k2 => yY (lbs_ [iV x1, iV x2, h4.v, h6.v, h8.v] ST_91 e0 hst R1) ?_))
 obtain ⟨r11, gr11, hM⟩ := bs hM
 refine Yc wn rfl (yCall FN_122 (a1 e0)) (matrix_Check_ok gr11 q1 q2 q3 hst) ?_
 rintro _ w ⟨rfl, hst⟩
 refine ⟨_, rfl, ?_⟩
 refine Ya (iV r11) e0 (wK k2 (seqQ fun Q3 k3 z3 => sR fun _ k4 => Ym (iV r11) e0 (yY (yneq e0 rfl) (wK k4 ?_))))
 rcases iteS hM with ⟨c12, hM⟩ | ⟨c12, hM⟩
 ·refine condF e0 (nF (dT c12)) (wp_skip (k3 _ _ (sR fun _ k5 => yY (lbs_ [iV x1, iV x2, h4.v, h6.v, h8.v] ST_91 e0 hst R1) ?_)))
  obtain ⟨r13, gr13, hM⟩ := bs hM
  refine Yc wn rfl (yCall FN_123 (a1 e0)) (matching_Reachable_ok gr13 q1 q2 q3 hst) ?_
  rintro _ w ⟨h14, h15, rfl, hst⟩
  refine ⟨_, rfl, ?_⟩
  refine Ym (.tuple #[h14.v, h15.v]) e0 (yY (x_ h14.v e0) (yY (x_ h15.v e0) (Ya h14.v e0 (Ya h15.v e0 (wK k5 (sR fun _ k6 => Ym h14.v e0 ?_))))))
  obtain ⟨r16, gr16, hM⟩ := bs hM
  replace hst := hst.fz
  refine Yc wn rfl (yCall FN_124 (a2 e0 rfl)) (matching_List_ok gr16 F0 hst) ?_
  rintro _ w ⟨h17, rfl, hst⟩
  refine ⟨_, rfl, ?_⟩
  refine Ym h15.v e0 ?_
  obtain ⟨r18, gr18, hM⟩ := bs hM
  replace hst := hst.pk 2 [1, 0] rfl
  replace hst := hst.fz
  refine Yc wn rfl (yCall FN_124 (a2 e0 rfl)) (matching_List_ok gr18 F0 hst) ?_
  rintro _ w ⟨h19, rfl, hst⟩
  refine ⟨_, rfl, ?_⟩
  refine yY (ybuild (us := [h17.v, h19.v]) [(0, h17.v), (1, h19.v)] SO_86 (bp2 e0 e0) rfl) ?_
  replace hst := hst.pk 3 [2, 0, 0] rfl
  refine YT wn rfl (r_stbn (vals' := [h17.v, h19.v]) (us := [h17.v, h19.v]) hst ST_86 e0 e0 rfl rfl (one_of rfl) rfl) ?_
  intro w hst
  refine Ya (iV 0) rfl (wK k6 (wp_ret ?_))
  obtain rfl := someI hM
  exact hQ _ _ _ (fin2r Tryz.results104 (rcs2 rfl rfl hst R0 ST_86 rfl) ⟨rfl, rfl⟩ ⟨_, _, rfl, ((hst.pk 4 [2, 1] rfl).facts (allT (allT allI)))⟩)
 ·refine condT e0 (nT (dF c12)) (sR fun _ k7 => yY (ybuild (us := [hnil.v, hnil.v]) [] SO_86 bp0 rfl) (Ym (iV r11) e0 (YT wn rfl (r_stbn (vals' := [hnil.v, hnil.v]) (us := [hnil.v, hnil.v]) hst ST_86 e0 e0 rfl rfl (one_of rfl) rfl) ?_)))
  intro w hst
  refine Ya (iV r11) e0 (wK k7 (wp_ret (z3 _ _ _ rfl ?_)))
  obtain rfl := someI hM
  replace hst := hst.rowNh 3 I1
  replace hst := hst.rowNh 3 I1
  exact hQ _ _ _ (fin2r Tryz.results104 (rcs2 rfl rfl hst R2 ST_86 rfl) ⟨rfl, rfl⟩ ⟨_, _, rfl, (hst.pk 4 [1, 0] rfl)⟩)
theorem dissect_cover_ok {x1 : L2} {x3 : LI} {h2 h4 : Hdr} {out : (List Bool)} (hM : dissect_cover x1 x3 = some out) (q1 : imm S1 h2.v x1 ∈ ros) (q2 : imm I1 h4.v x3 ∈ ros) (hst : St w0 ros rs w) :
  Calls Tryz.prog 86 #[.agg #[h2.v], h4.v] w (fun e w => ∃ (h100001 : Hdr), e = .returned (h100001.v) ∧ St w0 ros (row 4 rB h100001.v out :: rs) w) := by
 refine enterQ Tryz.func86 rfl Tryz.ntmps86 rfl fun Q hQ => sR fun _ k1 => YB wn rfl (r_box (vals := [h2.v]) hst e0 rfl) ?_
 intro b5 w hst
 refine Ya hnil.v rfl (wK k1 (sQ fun _ k2 => ?_))
 obtain ⟨r6, gr6, hM⟩ := bs hM
 obtain ⟨r8, gr8, hM⟩ := bs hM
 refine dR [0, 0, 3, 0, 0, 31, 63, 127] [2, 5, 6, 7] 4 folM ?_
 replace hst := hst.drew
 refine Dn [0, 1, 3, 4] [] [2] (yR rfl (lbs_ [h2.v] ST_26 e0 hst R0) (yR rfl (m_ h4.v e0) (yR rfl (lbs_ [h2.v] ST_26 e0 hst R0) (yR rfl (m_ h4.v e0) (Rn QSn ?_)))))
 refine Lc1 rfl ?_
 refine Lk wn (yCall FN_103 (a3 e0 e0 rfl)) (dissect_border_ok gr6 q1 q2 hst) ?_
 rintro _ w ⟨h7, rfl, hst⟩
 refine ⟨_, rfl, ?_⟩
 refine Dn [] [3, 4] [5] (Rn (yS rfl (lbs_ [h2.v] ST_26 e0 hst R1) (yS rfl (m_ h4.v e0) QSn)) ?_)
 refine Lc1 rfl ?_
 refine Lk wn (yCall FN_103 (a3 e0 e0 rfl)) (dissect_border_ok gr8 q1 q2 hst) ?_
 rintro _ w ⟨h9, rfl, hst⟩
 refine ⟨_, rfl, ?_⟩
 refine Dn [] [] [6] (Rn QSn ?_)
 refine Lc1 rfl ?_
 refine Ly wn (a_ h7.v e0) (Dn [] [] [7] (Rn QSn ?_))
 refine Lc1 rfl ?_
 refine Ly wn (a_ h9.v e0) (Dz [] [] (Rn QSn (k2 _ _ (sR fun _ k3 => Ym h7.v e0 (yY (yLen SL_22 e0 hst rO1) (Ym h9.v e0 (yY (yLen SL_22 e0 hst rO0) (YH wn rfl (rLt (n := 1) (l := [0]) hst SL_22 [iV 0] (bp1 rfl) rfl rfl (mks1 (cs := [iV 0]) rfl mkI mks0)) ?_))))))))
 intro h10 w hst
 refine yY (ybuild (us := [iV (r6.length : Int), iV (r8.length : Int), h10.v, hnil.v, hnil.v]) [(0, iV (r6.length : Int)), (1, iV (r8.length : Int)), (2, h10.v)] SO_91 (bp3 e0 e0 e0) rfl) (YB wn rfl (rAl hst ZT_91) ?_)
 intro b11 w hst
 refine YT wn rfl (r_stbn (vals' := [iV (r6.length : Int), iV (r8.length : Int), h10.v, hnil.v, hnil.v]) (us := [iV (r6.length : Int), iV (r8.length : Int), h10.v, hnil.v, hnil.v]) hst ST_91 e0 e0 rfl rfl (one_of rfl) rfl) ?_
 intro w hst
 refine wK k3 (sQ fun _ k4 => sR fun _ k5 => Ym h9.v e0 (yY (yLen SL_22 e0 hst rO2) (Ym (iV 0) rfl (wK k5 (blockQ fun Q6 qb6 => ?_)))))
 obtain ⟨o21, go21, hM⟩ := bs hM
 have je21_0 : ∀ (x233 x235 x237 : LI) (h232 h234 h236 : Hdr) (f : FV) (w : World), f 2 = (pB b5) → f 5 = h7.v → f 6 = h9.v → f 7 = (pB b11) → St w0 ros (box b5 26 [h2.v] :: row 3 I1 h7.v r6 :: row 3 I1 h9.v r8 :: row 3 I1 h232.v x233 :: row 3 I1 h234.v x235 :: row 82 (rI .u64) h236.v x237 :: box b11 91 [iV (r6.length : Int), iV (r8.length : Int), h232.v, h234.v, h236.v] :: rs) w → (x233, x235, x237) = o21 → Q6 (.exit 0) (fr 119 f) w := by
  intro x233 x235 x237 h232 h234 h236 f w eje21_0_2 eje21_0_5 eje21_0_6 eje21_0_7 hst ho
  subst ho
  refine qb6 _ _ _ (k4 _ _ (sR fun _ k65 => yY (yFb FL_26_0 (eh eje21_0_2)) (yY (lb_ h2.v O_24 e0 hst R0) (yY (yLen SL_24 e0 hst (rdI q1)) ?_))))
  obtain ⟨x240, gx240, hM⟩ := bs hM
  refine YH wn rfl (rMk hst SL_93 e0 gx240) ?_
  intro h238 w hst
  refine Ya h238.v e0 (wK k65 (sR fun _ k66 => yY (lbs_ [iV (r6.length : Int), iV (r8.length : Int), h232.v, h234.v, h236.v] ST_91 (eh eje21_0_7) hst R7) ?_))
  obtain ⟨r241, gr241, hM⟩ := bs hM
  replace hst := hst.pk 5 [4, 0, 0, 0, 0] rfl
  replace hst := hst.fz
  replace hst := hst.pk 5 [4, 0, 0, 0, 0] rfl
  replace hst := hst.fz
  replace hst := hst.pk 5 [4, 0, 0, 0, 0] rfl
  replace hst := hst.fz
  refine Yc wn rfl (yCall FN_104 (a1 e0)) (matching_Cover_ok gr241 F2 F1 F0 hst) ?_
  rintro _ w ⟨h242, h243, rfl, hst⟩
  refine ⟨_, rfl, ?_⟩
  refine Ym (.tuple #[.agg #[h242.v, h243.v], iV r241.2.2]) e0 (yY (x_ (.agg #[h242.v, h243.v]) e0) (yY (x_ (iV r241.2.2) e0) (YB wn rfl (rAl hst ZT_86) ?_)))
  intro b244 w hst
  refine YT wn rfl (r_stbn (vals' := [h242.v, h243.v]) (us := [h242.v, h243.v]) hst ST_86 e0 e0 rfl rfl (one_of rfl) rfl) ?_
  intro w hst
  refine Ya (iV r241.2.2) e0 (wK k66 (seqQ fun Q67 k67 z67 => sR fun _ k68 => Ym (iV r241.2.2) e0 (yY (yneq e0 rfl) (wK k68 ?_))))
  rcases iteS hM with ⟨c245, hM⟩ | ⟨c245, hM⟩
  ·refine condF e0 (nF (dT c245)) (wp_skip (k67 _ _ (sQ fun _ k69 => sR fun _ k70 => yY (yFb FL_86_0 e0) (yY (lb_ h242.v O_22 e0 hst R0) (yY (yLen SL_22 e0 hst rO1) (Ym (iV 0) rfl (wK k70 (blockQ fun Q71 qb71 => ?_))))))))
   obtain ⟨o22, go22, hM⟩ := bs hM
   have je22_0 : ∀ (x258 : List Bool) (f : FV) (w : World), f 6 = h9.v → f 14 = h238.v → f 15 = (pB b244) → St w0 ros (row 3 I1 h9.v r8 :: row 4 rB h238.v x258 :: row 3 I1 h242.v r241.1 :: row 3 I1 h243.v r241.2.1 :: box b244 86 [h242.v, h243.v] :: rs) w → x258 = o22 → Q71 (.exit 4) (fr 119 f) w := by
    intro x258 f w eje22_0_6 eje22_0_14 eje22_0_15 hst ho
    subst ho
    refine qb71 _ _ _ (k69 _ _ (sQ fun _ k82 => sR fun _ k83 => yY (yFb FL_86_1 (eh eje22_0_15)) (yY (lb_ h243.v O_22 e0 hst R4) (yY (yLen SL_22 e0 hst rO3) (Ym (iV 0) rfl (wK k83 (blockQ fun Q84 qb84 => ?_)))))))
    obtain ⟨o23, go23, hM⟩ := bs hM
    have je23_0 : ∀ (x271 : List Bool) (f : FV) (w : World), f 14 = h238.v → St w0 ros (row 4 rB h238.v x271 :: rs) w → x271 = o23 → Q84 (.exit 6) (fr 119 f) w := by
     intro x271 f w eje23_0_14 hst ho
     subst ho
     refine qb84 _ _ _ (k82 _ _ (sR fun _ k95 => Ym h238.v (eh eje23_0_14) (Ya h238.v e0 (wK k95 (wp_ret ?_)))))
     obtain rfl := someI hM
     exact hQ _ _ _ (fin1r Tryz.results86 ⟨rfl, rfl⟩ ⟨_, rfl, hst⟩)
    refine loopQ (fun s a w => ∃ (x263 : List Bool) (x264 : Int) (f : FV), (x263, x264) = s ∧ a = fr 119 f ∧ f 6 = h9.v ∧ f 14 = h238.v ∧ f 105 = h243.v ∧ f 106 = iV (r241.2.1.length : Int) ∧ f 107 = iV x264 ∧ St w0 ros (row 3 I1 h9.v r8 :: row 4 rB h238.v x263 :: row 3 I1 h243.v r241.2.1 :: rs) w) go23 ⟨_, _, _, rfl, rfl, eje22_0_6, eje22_0_14, rfl, rfl, rfl, (hst.pk 5 [0, 0, 1] rfl)⟩ ?_
    rintro _ _ w r23_ ⟨x263, x264, f, rfl, rfl, e23_6, e23_14, e23_105, e23_106, e23_107, hst⟩ hM23 ho23 Q100023 n23 zz23
    refine sR fun _ k96 => yY (ylss (eh e23_107) (eh e23_106)) (wK k96 (seqQ fun Q97 k97 z97 => ?_))
    rcases iteS hM23 with ⟨c272, hM23⟩ | ⟨c272, hM23⟩
    ·refine cT e0 c272 (wp_skip (k97 _ _ (sQ fun _ k98 => blockQ fun _ qb99 => sR fun _ k100 => ?_)))
     obtain ⟨x273, gx273, hM23⟩ := bs hM23
     refine yY (yIa SL_22 (eh e23_105) (eh e23_107) hst rO2 gx273) (yY (yI O_3 e0 hst rO2 gx273) (Ya (iV x273) e0 (wK k100 (wR (Ym h238.v (eh e23_14) (Ym h9.v (eh e23_6) (Ym (iV x273) e0 ?_)))))))
     obtain ⟨x274, gx274, hM23⟩ := bs hM23
     refine yY (yIa SL_22 e0 e0 hst rO0 gx274) (yY (yI O_3 e0 hst rO0 gx274) ?_)
     obtain ⟨x275, gx275, hM23⟩ := bs hM23
     refine yY (yIs SL_93 e0 e0 hst rO1 gx275) ?_
     replace hst := hst.pk 2 [1, 0] rfl
     refine YT wn rfl (r_sti (cs := [.bool true]) hst O_4 rfl e0 rfl rfl mkB gx275) ?_
     intro w hst
     refine wN (qb99 _ _ _ (k98 _ _ (wR (yY (yadd (eh e23_107) rfl) (Ym (iV (wa .i64 x264 1)) e0 (wN ?_))))))
     obtain rfl := someI hM23
     exact n23 _ _ _ rfl ⟨_, _, _, rfl, rfl, e23_6, e23_14, e23_105, e23_106, rfl, (hst.pk 3 [1, 0, 0] rfl)⟩
    ·refine cF e0 c272 (wp_exit (z97 _ _ _ rfl ?_))
     obtain rfl := someI hM23
     exact zz23 _ _ _ _ rfl rfl (je23_0 _ _ _ e23_14 (hst.pk 3 [1] rfl) (ho23 _ rfl))
   refine loopQ (fun s a w => ∃ (x250 : List Bool) (x251 : Int) (f : FV), (x250, x251) = s ∧ a = fr 119 f ∧ f 5 = h7.v ∧ f 6 = h9.v ∧ f 14 = h238.v ∧ f 15 = (pB b244) ∧ f 91 = h242.v ∧ f 92 = iV (r241.1.length : Int) ∧ f 93 = iV x251 ∧ St w0 ros (row 3 I1 h7.v r6 :: row 3 I1 h9.v r8 :: row 4 rB h238.v x250 :: row 3 I1 h242.v r241.1 :: row 3 I1 h243.v r241.2.1 :: box b244 86 [h242.v, h243.v] :: rs) w) go22 ⟨_, _, _, rfl, rfl, eje21_0_5, eje21_0_6, rfl, rfl, rfl, rfl, rfl, ((hst.pk 8 [5, 5, 3, 1, 1, 0] rfl).facts (allT (allT (allT allI))))⟩ ?_
   rintro _ _ w r22_ ⟨x250, x251, f, rfl, rfl, e22_5, e22_6, e22_14, e22_15, e22_91, e22_92, e22_93, hst⟩ hM22 ho22 Q100022 n22 zz22
   refine sR fun _ k101 => yY (ylss (eh e22_93) (eh e22_92)) (wK k101 (seqQ fun Q102 k102 z102 => ?_))
   rcases iteS hM22 with ⟨c276, hM22⟩ | ⟨c276, hM22⟩
   ·refine cT e0 c276 (wp_skip (k102 _ _ (sQ fun _ k103 => blockQ fun _ qb104 => sR fun _ k105 => ?_)))
    obtain ⟨x277, gx277, hM22⟩ := bs hM22
    refine yY (yIa SL_22 (eh e22_91) (eh e22_93) hst rO3 gx277) (yY (yI O_3 e0 hst rO3 gx277) (Ya (iV x277) e0 (wK k105 (wR (Ym h238.v (eh e22_14) (Ym h7.v (eh e22_5) (Ym (iV x277) e0 ?_)))))))
    obtain ⟨x278, gx278, hM22⟩ := bs hM22
    refine yY (yIa SL_22 e0 e0 hst rO0 gx278) (yY (yI O_3 e0 hst rO0 gx278) ?_)
    obtain ⟨x279, gx279, hM22⟩ := bs hM22
    refine yY (yIs SL_93 e0 e0 hst rO2 gx279) ?_
    replace hst := hst.pk 3 [2, 0, 0] rfl
    refine YT wn rfl (r_sti (cs := [.bool true]) hst O_4 rfl e0 rfl rfl mkB gx279) ?_
    intro w hst
    refine wN (qb104 _ _ _ (k103 _ _ (wR (yY (yadd (eh e22_93) rfl) (Ym (iV (wa .i64 x251 1)) e0 (wN ?_))))))
    obtain rfl := someI hM22
    exact n22 _ _ _ rfl ⟨_, _, _, rfl, rfl, e22_5, e22_6, e22_14, e22_15, e22_91, e22_92, rfl, (hst.pk 6 [1, 1, 0, 0, 0, 0] rfl)⟩
   ·refine cF e0 c276 (wp_exit (z102 _ _ _ rfl ?_))
    obtain rfl := someI hM22
    exact zz22 _ _ _ _ rfl rfl (je22_0 _ _ _ e22_6 e22_14 e22_15 (hst.pk 6 [1, 1, 1, 1, 1] rfl) (ho22 _ rfl))
  ·refine condT e0 (nT (dF c245)) (sR fun _ k106 => Ym h238.v e0 (Ya h238.v e0 (wK k106 (wp_ret (z67 _ _ _ rfl ?_)))))
   obtain rfl := someI hM
   exact hQ _ _ _ (fin1r Tryz.results86 ⟨rfl, rfl⟩ ⟨_, rfl, ((hst.pk 8 [3] rfl).facts (allT (allT (allT allI))))⟩)
 replace hst := hst.rowNh 3 I1
 replace hst := hst.rowNh 82 (rI .u64)
 refine loopQ (fun s a w => ∃ (x116 x118 x120 : LI) (x121 : Int) (f : FV) (h115 h117 h119 : Hdr), (x116, x118, x120, x121) = s ∧ a = fr 119 f ∧ f 2 = (pB b5) ∧ f 5 = h7.v ∧ f 6 = h9.v ∧ f 7 = (pB b11) ∧ f 33 = h9.v ∧ f 34 = iV (r8.length : Int) ∧ f 35 = iV x121 ∧ St w0 ros (box b5 26 [h2.v] :: row 3 I1 h7.v r6 :: row 3 I1 h9.v r8 :: row 3 I1 h115.v x116 :: row 3 I1 h117.v x118 :: row 82 (rI .u64) h119.v x120 :: box b11 91 [iV (r6.length : Int), iV (r8.length : Int), h115.v, h117.v, h119.v] :: rs) w) go21 ⟨_, _, _, _, _, _, _, _, rfl, rfl, rfl, rfl, rfl, rfl, rfl, rfl, rfl, (hst.pk 7 [6, 5, 4, 3, 1, 0, 0] rfl)⟩ ?_
 rintro _ _ w r21_ ⟨x116, x118, x120, x121, f, h115, h117, h119, rfl, rfl, e21_2, e21_5, e21_6, e21_7, e21_33, e21_34, e21_35, hst⟩ hM21 ho21 Q100021 n21 zz21
 refine sR fun _ k107 => yY (ylss (eh e21_35) (eh e21_34)) (wK k107 (seqQ fun Q108 k108 z108 => ?_))
 rcases iteS hM21 with ⟨c280, hM21⟩ | ⟨c280, hM21⟩
 ·refine cT e0 c280 (wp_skip (k108 _ _ (sQ fun _ k109 => blockQ fun _ qb110 => sR fun _ k111 => ?_)))
  obtain ⟨x281, gx281, hM21⟩ := bs hM21
  refine yY (yIa SL_22 (eh e21_33) (eh e21_35) hst rO2 gx281) (yY (yI O_3 e0 hst rO2 gx281) (Ya (iV x281) e0 (wK k111 (sQ fun _ k112 => sR fun _ k113 => Ym h7.v (eh e21_5) (yY (yLen SL_22 e0 hst rO1) (Ym (iV 0) rfl (wK k113 (blockQ fun Q114 qb114 => ?_))))))))
  obtain ⟨o30, go30, hM21⟩ := bs hM21
  have je30_0 : ∀ (x349 x351 : LI) (h348 h350 : Hdr) (f : FV) (w : World), f 2 = (pB b5) → f 5 = h7.v → f 6 = h9.v → f 7 = (pB b11) → f 33 = h9.v → f 34 = iV (r8.length : Int) → f 35 = iV x121 → St w0 ros (box b5 26 [h2.v] :: row 3 I1 h7.v r6 :: row 3 I1 h9.v r8 :: row 3 I1 h115.v x116 :: row 3 I1 h348.v x349 :: row 82 (rI .u64) h350.v x351 :: box b11 91 [iV (r6.length : Int), iV (r8.length : Int), h115.v, h348.v, h350.v] :: rs) w → (x349, x351) = o30 → Q114 (.exit 2) (fr 119 f) w := by
   intro x349 x351 h348 h350 f w eje30_0_2 eje30_0_5 eje30_0_6 eje30_0_7 eje30_0_33 eje30_0_34 eje30_0_35 hst ho
   subst ho
   refine qb114 _ _ _ (k112 _ _ (wR (yY (yFb FL_91_2 (eh eje30_0_7)) (yY (lb_ h115.v O_22 e0 hst R6) (yY (yFb FL_91_3 (eh eje30_0_7)) (yY (lb_ h348.v O_22 e0 hst R6) (yY (yLen SL_22 e0 hst rO4) (YH wn rfl (rLt (n := 1) (l := [(x349.length : Int)]) hst SL_22 [iV (x349.length : Int)] (bp1 e0) rfl rfl (mks1 (cs := [iV (x349.length : Int)]) rfl mkI mks0)) ?_))))))))
   intro h352 w hst
   obtain ⟨x354, gx354, hM21⟩ := bs hM21
   replace hst := hst.pk 5 [4, 0, 0, 0, 0] rfl
   refine YH wn rfl (rAp hst SL_22 e0 e0 rO1 gx354) ?_
   intro h353 w hst
   refine yY (yFb FL_91_2 (eh eje30_0_7)) ?_
   replace hst := hst.pk 8 [7, 0, 0, 0, 0, 0, 0, 0] rfl
   refine YT wn rfl (r_stb1 (vals' := [iV (r6.length : Int), iV (r8.length : Int), h353.v, h348.v, h350.v]) hst O_22 e0 e0 rfl rfl rfl rfl) ?_
   intro w hst
   refine wN (qb110 _ _ _ (k109 _ _ (wR (yY (yadd (eh eje30_0_35) rfl) (Ym (iV (wa .i64 x121 1)) e0 (wN ?_))))))
   obtain rfl := someI hM21
   exact n21 _ _ _ rfl ⟨_, _, _, _, _, _, _, _, rfl, rfl, eje30_0_2, eje30_0_5, eje30_0_6, eje30_0_7, eje30_0_33, eje30_0_34, rfl, (hst.pk 8 [3, 3, 3, 1, 2, 2, 0] rfl)⟩
  refine loopQ (fun s a w => ∃ (x311 x313 : LI) (x314 : Int) (f : FV) (h310 h312 : Hdr), (x311, x313, x314) = s ∧ a = fr 119 f ∧ f 2 = (pB b5) ∧ f 5 = h7.v ∧ f 6 = h9.v ∧ f 7 = (pB b11) ∧ f 9 = iV x281 ∧ f 33 = h9.v ∧ f 34 = iV (r8.length : Int) ∧ f 35 = iV x121 ∧ f 39 = h7.v ∧ f 40 = iV (r6.length : Int) ∧ f 41 = iV x314 ∧ St w0 ros (box b5 26 [h2.v] :: row 3 I1 h7.v r6 :: row 3 I1 h9.v r8 :: row 3 I1 h115.v x116 :: row 3 I1 h310.v x311 :: row 82 (rI .u64) h312.v x313 :: box b11 91 [iV (r6.length : Int), iV (r8.length : Int), h115.v, h310.v, h312.v] :: rs) w) go30 ⟨_, _, _, _, _, _, rfl, rfl, e21_2, e21_5, e21_6, e21_7, rfl, e21_33, e21_34, e21_35, rfl, rfl, rfl, hst⟩ ?_
  rintro _ _ w r30_ ⟨x311, x313, x314, f, h310, h312, rfl, rfl, e30_2, e30_5, e30_6, e30_7, e30_9, e30_33, e30_34, e30_35, e30_39, e30_40, e30_41, hst⟩ hM30 ho30 Q100030 n30 zz30
  refine sR fun _ k129 => yY (ylss (eh e30_41) (eh e30_40)) (wK k129 (seqQ fun Q130 k130 z130 => ?_))
  rcases iteS hM30 with ⟨c355, hM30⟩ | ⟨c355, hM30⟩
  ·refine cT e0 c355 (wp_skip (k130 _ _ (sQ fun _ k131 => blockQ fun Q132 qb132 => sR fun _ k133 => Ym (iV x314) (eh e30_41) ?_)))
   obtain ⟨x356, gx356, hM30⟩ := bs hM30
   refine yY (yIa SL_22 (eh e30_39) (eh e30_41) hst rO1 gx356) (yY (yI O_3 e0 hst rO1 gx356) (Ya (iV x314) e0 (Ya (iV x356) e0 (wK k133 (sR fun _ k134 => yY (yFb FL_26_0 (eh e30_2)) (yY (lb_ h2.v O_24 e0 hst R0) (Ym (iV x281) (eh e30_9) ?_)))))))
   obtain ⟨x357, gx357, hM30⟩ := bs hM30
   refine yY (yIa SL_24 e0 e0 hst (rdI q1) gx357) ?_
   obtain ⟨h358, hst⟩ := iLs hst q1 gx357
   refine yY (yCt O_22 e0 hst F1 rfl) (Ym (iV x356) e0 ?_)
   obtain ⟨r359, gr359, hM30⟩ := bs hM30
   refine Yc wn rfl (yCall FN_84 (a2 e0 e0)) (slices_BinarySearch_int_ok gr359 F0 hst) ?_
   rintro _ w ⟨rfl, hst⟩
   refine ⟨_, rfl, ?_⟩
   refine Ym (.tuple #[iV r359.1, .bool r359.2]) e0 (yY (x_ (iV r359.1) e0) (yY (x_ (.bool r359.2) e0) (Ya (iV r359.1) e0 (Ya (.bool r359.2) e0 (wK k134 (sR fun _ k135 => Ym (.bool r359.2) e0 (wK k135 ?_)))))))
   have j32 : ∀ (x370 x372 : LI) (h369 h371 : Hdr) (f : FV) (w : World), f 2 = (pB b5) → f 5 = h7.v → f 6 = h9.v → f 7 = (pB b11) → f 9 = iV x281 → f 33 = h9.v → f 34 = iV (r8.length : Int) → f 35 = iV x121 → f 39 = h7.v → f 40 = iV (r6.length : Int) → f 41 = iV x314 → St w0 ros (box b5 26 [h2.v] :: row 3 I1 h7.v r6 :: row 3 I1 h9.v r8 :: row 3 I1 h115.v x116 :: row 3 I1 h369.v x370 :: row 82 (rI .u64) h371.v x372 :: box b11 91 [iV (r6.length : Int), iV (r8.length : Int), h115.v, h369.v, h371.v] :: rs) w → dissect_cover_j32 x314 x370 x372 = some r30_ → Q132 .normal (fr 119 f) w := by
    intro x370 x372 h369 h371 f w ej32_2 ej32_5 ej32_6 ej32_7 ej32_9 ej32_33 ej32_34 ej32_35 ej32_39 ej32_40 ej32_41 hst hM
    refine qb132 _ _ _ (k131 _ _ (wR (yY (yadd (eh ej32_41) rfl) (Ym (iV (wa .i64 x314 1)) e0 (wN ?_)))))
    obtain rfl := someI hM
    exact n30 _ _ _ rfl ⟨_, _, _, _, _, _, rfl, rfl, ej32_2, ej32_5, ej32_6, ej32_7, ej32_9, ej32_33, ej32_34, ej32_35, ej32_39, ej32_40, rfl, hst⟩
   rcases iteS hM30 with ⟨c373, hM30⟩ | ⟨c373, hM30⟩
   ·refine condT e0 c373 ?_
    obtain ⟨x376, gx376, hM30⟩ := bs hM30
    obtain ⟨x379, gx379, hM30⟩ := bs hM30
    refine joinN (n := 119) (fun f w => ∃ (h380 h381 : Hdr), f 2 = (pB b5) ∧ f 5 = h7.v ∧ f 6 = h9.v ∧ f 7 = (pB b11) ∧ f 9 = iV x281 ∧ f 33 = h9.v ∧ f 34 = iV (r8.length : Int) ∧ f 35 = iV x121 ∧ f 39 = h7.v ∧ f 40 = iV (r6.length : Int) ∧ f 41 = iV x314 ∧ St w0 ros (box b5 26 [h2.v] :: row 3 I1 h7.v r6 :: row 3 I1 h9.v r8 :: row 3 I1 h115.v x116 :: row 3 I1 h380.v x376 :: row 82 (rI .u64) h381.v x379 :: box b11 91 [iV (r6.length : Int), iV (r8.length : Int), h115.v, h380.v, h381.v] :: rs) w) (fun j33 => ?_) ?_
    ·refine dR [0, 1, 0, 4, 15, 0, 32, 0, 255, 127, 1023, 2047, 4095] [3, 4, 7, 8, 10, 12] 6 folM ?_
     replace hst := hst.drew
     refine Dn [0, 1, 2, 5, 6] [] [3, 7] (yR rfl (yFb FL_91_3 (eh e30_7)) (yR rfl (lb_ h310.v O_22 e0 hst R6) (yR rfl (m_ (iV x314) e0) (yR rfl (yFb FL_91_4 (eh e30_7)) (yR rfl (lb_ h312.v O_89 e0 hst R6) (Rn QSn ?_))))))
     refine Lc rfl ?_ (Lc1 rfl ?_)
     ·refine LH wn (rLt (n := 1) (l := [x314]) hst SL_22 [iV x314] (bp1 e0) rfl rfl (mks1 (cs := [iV x314]) rfl mkI mks0)) ?_
      intro h374 w hst
      refine Dn [] [0, 1, 5, 6] [4, 7] (Rn (yS rfl (yFb FL_91_3 (eh e30_7)) (yS rfl (lb_ h310.v O_22 e0 hst R7) (yS rfl (yFb FL_91_4 (eh e30_7)) (yS rfl (lb_ h312.v O_89 e0 hst R7) QSn)))) ?_)
      refine Lc rfl ?_ (Lc1 rfl ?_)
      ·replace hst := hst.pk 6 [5, 0, 0, 0, 0, 0] rfl
       refine LH wn (rAp hst SL_22 e0 e0 rO1 gx376) ?_
       intro h375 w hst
       refine Dn [9] [5, 6] [7] (yR rfl (yFb FL_91_3 (eh e30_7)) (Rn (yS rfl (yFb FL_91_4 (eh e30_7)) (yS rfl (lb_ h312.v O_89 e0 hst R7) QSn)) ?_))
       refine Lc1 rfl ?_
       refine LH wn (rLt (n := 1) (l := [4607182418800017408]) hst SL_89 [.int .u64 4607182418800017408] (bp1 rfl) rfl rfl (mks1 (cs := [.int .u64 4607182418800017408]) rfl mkI mks0)) ?_
       intro h377 w hst
       refine Dn [] [5, 6, 9] [8] (Rn (yS rfl (yFb FL_91_4 (eh e30_7)) (yS rfl (lb_ h312.v O_89 e0 hst R8) (yS rfl (yFb FL_91_3 (eh e30_7)) QSn))) ?_)
       refine Lc1 rfl ?_
       replace hst := hst.pk 8 [7, 0, 0, 0, 0, 0, 0, 0] rfl
       refine LH wn (rAp hst SL_89 e0 e0 rO1 gx379) ?_
       intro h378 w hst
       refine Dn [] [9] [10] (Rn (yS rfl (yFb FL_91_3 (eh e30_7)) QSn) ?_)
       refine Lc1 rfl ?_
       replace hst := hst.pk 9 [8, 0, 0, 0, 0, 0, 0, 0, 0] rfl
       refine LT wn (r_stb1 (vals' := [iV (r6.length : Int), iV (r8.length : Int), h115.v, h375.v, h312.v]) hst O_22 e0 e0 rfl rfl rfl rfl) ?_
       intro w hst
       refine Dn [11] [] [12] (yR rfl (yFb FL_91_4 (eh e30_7)) (Rn QSn ?_))
       refine Lc1 rfl ?_
       refine LT wn (r_stb1 (vals' := [iV (r6.length : Int), iV (r8.length : Int), h115.v, h375.v, h378.v]) hst O_89 e0 e0 rfl rfl rfl rfl) ?_
       intro w hst
       exact Dz [] [] (Rn QSn (j33 _ _ ⟨_, _, e30_2, e30_5, e30_6, e30_7, e30_9, e30_33, e30_34, e30_35, e30_39, e30_40, e30_41, ((hst.pk 9 [5, 5, 5, 5, 3, 1, 0] rfl).facts (allT (allT allI)))⟩))
      ·refine LH wn (rLt (n := 1) (l := [4607182418800017408]) hst SL_89 [.int .u64 4607182418800017408] (bp1 rfl) rfl rfl (mks1 (cs := [.int .u64 4607182418800017408]) rfl mkI mks0)) ?_
       intro h377 w hst
       refine Dn [] [0, 1, 5, 6] [4] (Rn (yS rfl (yFb FL_91_3 (eh e30_7)) (yS rfl (lb_ h310.v O_22 e0 hst R8) (yS rfl (yFb FL_91_4 (eh e30_7)) (yS rfl (lb_ h312.v O_89 e0 hst R8) QSn)))) ?_)
       refine Lc1 rfl ?_
       replace hst := hst.pk 7 [6, 0, 0, 0, 0, 0, 0] rfl
       refine LH wn (rAp hst SL_22 e0 e0 rO2 gx376) ?_
       intro h375 w hst
       refine Dn [9] [5, 6] [8] (yR rfl (yFb FL_91_3 (eh e30_7)) (Rn (yS rfl (yFb FL_91_4 (eh e30_7)) (yS rfl (lb_ h312.v O_89 e0 hst R8) QSn)) ?_))
       refine Lc1 rfl ?_
       replace hst := hst.pk 8 [7, 0, 0, 0, 0, 0, 0, 0] rfl
       refine LH wn (rAp hst SL_89 e0 e0 rO2 gx379) ?_
       intro h378 w hst
       refine Dn [] [9] [10] (Rn (yS rfl (yFb FL_91_3 (eh e30_7)) QSn) ?_)
       refine Lc1 rfl ?_
       replace hst := hst.pk 9 [8, 0, 0, 0, 0, 0, 0, 0, 0] rfl
       refine LT wn (r_stb1 (vals' := [iV (r6.length : Int), iV (r8.length : Int), h115.v, h375.v, h312.v]) hst O_22 e0 e0 rfl rfl rfl rfl) ?_
       intro w hst
       refine Dn [11] [] [12] (yR rfl (yFb FL_91_4 (eh e30_7)) (Rn QSn ?_))
       refine Lc1 rfl ?_
       refine LT wn (r_stb1 (vals' := [iV (r6.length : Int), iV (r8.length : Int), h115.v, h375.v, h378.v]) hst O_89 e0 e0 rfl rfl rfl rfl) ?_
       intro w hst
       exact Dz [] [] (Rn QSn (j33 _ _ ⟨_, _, e30_2, e30_5, e30_6, e30_7, e30_9, e30_33, e30_34, e30_35, e30_39, e30_40, e30_41, ((hst.pk 9 [5, 5, 5, 5, 2, 1, 0] rfl).facts (allT (allT allI)))⟩))
     ·refine LH wn (rLt (n := 1) (l := [4607182418800017408]) hst SL_89 [.int .u64 4607182418800017408] (bp1 rfl) rfl rfl (mks1 (cs := [.int .u64 4607182418800017408]) rfl mkI mks0)) ?_
      intro h377 w hst
      refine Dn [] [0, 1, 2, 5, 6] [3] (Rn (yS rfl (yFb FL_91_3 (eh e30_7)) (yS rfl (lb_ h310.v O_22 e0 hst R7) (yS rfl (m_ (iV x314) e0) (yS rfl (yFb FL_91_4 (eh e30_7)) (yS rfl (lb_ h312.v O_89 e0 hst R7) QSn))))) ?_)
      refine Lc1 rfl ?_
      refine LH wn (rLt (n := 1) (l := [x314]) hst SL_22 [iV x314] (bp1 e0) rfl rfl (mks1 (cs := [iV x314]) rfl mkI mks0)) ?_
      intro h374 w hst
      refine Dn [] [0, 1, 5, 6] [4] (Rn (yS rfl (yFb FL_91_3 (eh e30_7)) (yS rfl (lb_ h310.v O_22 e0 hst R8) (yS rfl (yFb FL_91_4 (eh e30_7)) (yS rfl (lb_ h312.v O_89 e0 hst R8) QSn)))) ?_)
      refine Lc1 rfl ?_
      replace hst := hst.pk 7 [6, 0, 0, 0, 0, 0, 0] rfl
      refine LH wn (rAp hst SL_22 e0 e0 rO1 gx376) ?_
      intro h375 w hst
      refine Dn [9] [5, 6] [8] (yR rfl (yFb FL_91_3 (eh e30_7)) (Rn (yS rfl (yFb FL_91_4 (eh e30_7)) (yS rfl (lb_ h312.v O_89 e0 hst R8) QSn)) ?_))
      refine Lc1 rfl ?_
      replace hst := hst.pk 8 [7, 0, 0, 0, 0, 0, 0, 0] rfl
      refine LH wn (rAp hst SL_89 e0 e0 rO3 gx379) ?_
      intro h378 w hst
      refine Dn [] [9] [10] (Rn (yS rfl (yFb FL_91_3 (eh e30_7)) QSn) ?_)
      refine Lc1 rfl ?_
      replace hst := hst.pk 9 [8, 0, 0, 0, 0, 0, 0, 0, 0] rfl
      refine LT wn (r_stb1 (vals' := [iV (r6.length : Int), iV (r8.length : Int), h115.v, h375.v, h312.v]) hst O_22 e0 e0 rfl rfl rfl rfl) ?_
      intro w hst
      refine Dn [11] [] [12] (yR rfl (yFb FL_91_4 (eh e30_7)) (Rn QSn ?_))
      refine Lc1 rfl ?_
      refine LT wn (r_stb1 (vals' := [iV (r6.length : Int), iV (r8.length : Int), h115.v, h375.v, h378.v]) hst O_89 e0 e0 rfl rfl rfl rfl) ?_
      intro w hst
      exact Dz [] [] (Rn QSn (j33 _ _ ⟨_, _, e30_2, e30_5, e30_6, e30_7, e30_9, e30_33, e30_34, e30_35, e30_39, e30_40, e30_41, ((hst.pk 9 [5, 5, 5, 5, 2, 1, 0] rfl).facts (allT (allT allI)))⟩))
    rintro f w ⟨h380, h381, e382_2, e382_5, e382_6, e382_7, e382_9, e382_33, e382_34, e382_35, e382_39, e382_40, e382_41, hst⟩
    exact j32 _ _ _ _ _ _ e382_2 e382_5 e382_6 e382_7 e382_9 e382_33 e382_34 e382_35 e382_39 e382_40 e382_41 hst hM30
   ·exact condF e0 (bfalse c373) (wp_skip (j32 _ _ _ _ _ _ e30_2 e30_5 e30_6 e30_7 e30_9 e30_33 e30_34 e30_35 e30_39 e30_40 e30_41 (hst.facts (allT (allT allI))) hM30))
  ·refine cF e0 c355 (wp_exit (z130 _ _ _ rfl ?_))
   obtain rfl := someI hM30
   exact zz30 _ _ _ _ rfl rfl (je30_0 _ _ _ _ _ _ e30_2 e30_5 e30_6 e30_7 e30_33 e30_34 e30_35 hst (ho30 _ rfl))
 ·refine cF e0 c280 (wp_exit (z108 _ _ _ rfl ?_))
  obtain rfl := someI hM21
  exact zz21 _ _ _ _ rfl rfl (je21_0 _ _ _ _ _ _ _ _ e21_2 e21_5 e21_6 e21_7 hst (ho21 _ rfl))
theorem dissect_separate_ok {x1 : L2} {h2 : Hdr} {out : LI × LI × LI} (hM : dissect_separate x1 = some out) (q1 : imm S1 h2.v x1 ∈ ros) (hst : St w0 ros rs w) :
  Calls Tryz.prog 56 #[.agg #[h2.v]] w (fun e w => ∃ (h100001 h100003 h100005 : Hdr), e = .returned (.agg #[h100001.v, h100003.v, h100005.v]) ∧ St w0 ros (row 3 I1 h100001.v out.1 :: row 3 I1 h100003.v out.2.1 :: row 3 I1 h100005.v out.2.2 :: rs) w) := by
 refine enterQ Tryz.func56 rfl Tryz.ntmps56 rfl fun Q hQ => sR fun _ k1 => YB wn rfl (r_box (vals := [h2.v]) hst e0 rfl) ?_
 intro b3 w hst
 refine YB wn rfl (rAl hst ZT_46) ?_
 intro b4 w hst
 refine wK k1 (sR fun _ k2 => yY (lbs_ [h2.v] ST_26 e0 hst R1) ?_)
 obtain ⟨r5, gr5, hM⟩ := bs hM
 refine Yc wn rfl (yCall FN_85 (a1 e0)) (dissect_units_ok gr5 q1 hst) ?_
 rintro _ w ⟨h6, h7, h8, rfl, hst⟩
 refine ⟨_, rfl, ?_⟩
 obtain ⟨r9, gr9, hM⟩ := bs hM
 replace hst := hst.fz
 replace hst := hst.fz
 refine Yc wn rfl (yCall FN_43 (a1 e0)) (dissect_bisect_ok gr9 F2 F1 F0 hst) ?_
 rintro _ w ⟨h10, rfl, hst⟩
 refine ⟨_, rfl, ?_⟩
 refine Ym (.tuple #[h10.v, .bool r9.2]) e0 (yY (x_ h10.v e0) (yY (x_ (.bool r9.2) e0) (Ya h10.v e0 (Ya (.bool r9.2) e0 (wK k2 (sR fun _ k3 => yY (lbs_ [h2.v] ST_26 e0 hst R2) (Ym h10.v e0 ?_)))))))
 obtain ⟨r11, gr11, hM⟩ := bs hM
 replace hst := hst.fz
 refine Yc wn rfl (yCall FN_86 (a2 e0 e0)) (dissect_cover_ok gr11 (F_4 q1) F0 hst) ?_
 rintro _ w ⟨h12, rfl, hst⟩
 refine ⟨_, rfl, ?_⟩
 refine Ya h12.v e0 (wK k3 (sR fun _ k4 => YB wn rfl (rAl hst ZT_46) ?_))
 intro b13 w hst
 refine wK k4 (sQ fun _ k5 => sR fun _ k6 => yY (yFb FL_26_0 e0) (yY (lb_ h2.v O_24 e0 hst R3) (yY (yLen SL_24 e0 hst (rdI (F_4 q1))) (Ym (iV 0) rfl (wK k6 (blockQ fun Q7 qb7 => ?_))))))
 obtain ⟨o7, go7, hM⟩ := bs hM
 have je7_0 : ∀ (x131 x133 x135 : LI) (h130 h132 h134 : Hdr) (f : FV) (w : World), f 2 = (pB b4) → f 6 = (pB b13) → St w0 ros (box b4 46 [hnil.v, hnil.v, hnil.v] :: row 3 I1 h130.v x131 :: row 3 I1 h132.v x133 :: row 3 I1 h134.v x135 :: box b13 46 [h130.v, h132.v, h134.v] :: rs) w → (x131, x133, x135) = o7 → Q7 (.exit 0) (fr 54 f) w := by
  intro x131 x133 x135 h130 h132 h134 f w eje7_0_2 eje7_0_6 hst ho
  subst ho
  refine qb7 _ _ _ (k5 _ _ (sR fun _ k26 => yY (lbs_ [h130.v, h132.v, h134.v] ST_46 (eh eje7_0_6) hst R4) (YT wn rfl (r_stbn (vals' := [h130.v, h132.v, h134.v]) (us := [h130.v, h132.v, h134.v]) hst ST_46 (eh eje7_0_2) e0 rfl rfl (one_of rfl) rfl) ?_)))
  intro w hst
  refine wK k26 (wp_ret ?_)
  obtain rfl := someI hM
  exact hQ _ _ _ (fin1r Tryz.results56 (rcs2 rfl eje7_0_2 hst R0 ST_46 rfl) ⟨_, _, _, rfl, (hst.pk 5 [1, 1, 1] rfl)⟩)
 replace hst := hst.rowNh 3 I1
 replace hst := hst.rowNh 3 I1
 replace hst := hst.rowNh 3 I1
 refine loopQ (fun s a w => ∃ (x66 x68 x70 : LI) (x71 : Int) (f : FV) (h65 h67 h69 : Hdr), (x66, x68, x70, x71) = s ∧ a = fr 54 f ∧ f 2 = (pB b4) ∧ f 3 = h10.v ∧ f 5 = h12.v ∧ f 6 = (pB b13) ∧ f 19 = iV (x1.length : Int) ∧ f 20 = iV x71 ∧ St w0 (imm I1 h10.v r9.1 :: ros) (box b4 46 [hnil.v, hnil.v, hnil.v] :: row 4 rB h12.v r11 :: row 3 I1 h65.v x66 :: row 3 I1 h67.v x68 :: row 3 I1 h69.v x70 :: box b13 46 [h65.v, h67.v, h69.v] :: rs) w) go7 ⟨_, _, _, _, _, _, _, _, rfl, rfl, rfl, rfl, rfl, rfl, rfl, rfl, ((hst.pk 7 [5, 4, 2, 1, 0, 0] rfl).facts (allC F0 (allT (allT (allT (allT allI))))))⟩ ?_
 rintro _ _ w r7_ ⟨x66, x68, x70, x71, f, h65, h67, h69, rfl, rfl, e7_2, e7_3, e7_5, e7_6, e7_19, e7_20, hst⟩ hM7 ho7 Q100007 n7 zz7
 refine sR fun _ k27 => yY (ylss (eh e7_20) (eh e7_19)) (wK k27 (seqQ fun Q28 k28 z28 => ?_))
 rcases iteS hM7 with ⟨c136, hM7⟩ | ⟨c136, hM7⟩
 ·refine cT e0 c136 (wp_skip (k28 _ _ (sQ fun _ k29 => blockQ fun _ qb30 => sR fun _ k31 => Ym (iV x71) (eh e7_20) (Ya (iV x71) e0 (wK k31 (blockQ fun Q32 qb32 => sR fun _ k33 => ?_))))))
  refine Ym h12.v (eh e7_5) (Ym (iV x71) e0 ?_)
  obtain ⟨x137, gx137, hM7⟩ := bs hM7
  refine yY (yIa SL_93 e0 e0 hst rO1 gx137) (yY (yB O_4 e0 hst rO1 gx137) (Ya (.bool x137) e0 (wK k33 ?_)))
  have j9 : ∀ (x160 x162 x164 : LI) (h159 h161 h163 : Hdr) (f : FV) (w : World), f 2 = (pB b4) → f 3 = h10.v → f 5 = h12.v → f 6 = (pB b13) → f 19 = iV (x1.length : Int) → f 20 = iV x71 → St w0 (imm I1 h10.v r9.1 :: ros) (box b4 46 [hnil.v, hnil.v, hnil.v] :: row 4 rB h12.v r11 :: row 3 I1 h159.v x160 :: row 3 I1 h161.v x162 :: row 3 I1 h163.v x164 :: box b13 46 [h159.v, h161.v, h163.v] :: rs) w → dissect_separate_j9 x71 x160 x162 x164 = some r7_ → Q32 .normal (fr 54 f) w := by
   intro x160 x162 x164 h159 h161 h163 f w ej9_2 ej9_3 ej9_5 ej9_6 ej9_19 ej9_20 hst hM
   refine qb32 _ _ _ (qb30 _ _ _ (k29 _ _ (wR (yY (yadd (eh ej9_20) rfl) (Ym (iV (wa .i64 x71 1)) e0 (wN ?_))))))
   obtain rfl := someI hM
   exact n7 _ _ _ rfl ⟨_, _, _, _, _, _, _, _, rfl, rfl, ej9_2, ej9_3, ej9_5, ej9_6, ej9_19, rfl, hst⟩
  rcases iteS hM7 with ⟨c165, hM7⟩ | ⟨c165, hM7⟩
  ·refine condT e0 c165 (wR (yY (yFb FL_46_2 (eh e7_6)) (yY (lb_ h69.v O_22 e0 hst R5) (Ym (iV x71) e0 (YH wn rfl (rLt (n := 1) (l := [x71]) hst SL_22 [iV x71] (bp1 e0) rfl rfl (mks1 (cs := [iV x71]) rfl mkI mks0)) ?_)))))
   intro h166 w hst
   obtain ⟨x168, gx168, hM7⟩ := bs hM7
   replace hst := hst.pk 6 [5, 0, 0, 0, 0, 0] rfl
   refine YH wn rfl (rAp hst SL_22 e0 e0 rO1 gx168) ?_
   intro h167 w hst
   refine yY (yFb FL_46_2 (eh e7_6)) ?_
   replace hst := hst.pk 7 [6, 0, 0, 0, 0, 0, 0] rfl
   refine YT wn rfl (r_stb1 (vals' := [h65.v, h67.v, h167.v]) hst O_22 e0 e0 rfl rfl rfl rfl) ?_
   intro w hst
   exact wN (j9 _ _ _ _ _ _ _ _ e7_2 e7_3 e7_5 e7_6 e7_19 e7_20 (hst.pk 7 [3, 3, 3, 3, 1, 0] rfl) hM7)
  ·refine condF e0 (bfalse c165) (sR fun _ k35 => Ym h10.v (eh e7_3) (Ym (iV x71) e0 ?_))
   obtain ⟨x169, gx169, hM7⟩ := bs hM7
   refine yY (yIa SL_22 e0 e0 hst (rdI F0) gx169) (yY (yI O_3 e0 hst (rdI F0) gx169) (yY (yeql e0 rfl) (Ya (.bool (decide (x169 = 0))) e0 (wK k35 ?_))))
   have j10 : ∀ (x177 x179 : LI) (h176 h178 : Hdr) (f : FV) (w : World), f 2 = (pB b4) → f 3 = h10.v → f 5 = h12.v → f 6 = (pB b13) → f 19 = iV (x1.length : Int) → f 20 = iV x71 → St w0 (imm I1 h10.v r9.1 :: ros) (box b4 46 [hnil.v, hnil.v, hnil.v] :: row 4 rB h12.v r11 :: row 3 I1 h176.v x177 :: row 3 I1 h178.v x179 :: row 3 I1 h69.v x70 :: box b13 46 [h176.v, h178.v, h69.v] :: rs) w → dissect_separate_j10 x71 x70 x177 x179 = some r7_ → Q32 .normal (fr 54 f) w := by
    intro x177 x179 h176 h178 f w ej10_2 ej10_3 ej10_5 ej10_6 ej10_19 ej10_20 hst hM
    exact j9 _ _ _ _ _ _ _ _ ej10_2 ej10_3 ej10_5 ej10_6 ej10_19 ej10_20 hst hM
   rcases iteS hM7 with ⟨c180, hM7⟩ | ⟨c180, hM7⟩
   ·refine cT e0 c180 (wR (yY (yFb FL_46_0 (eh e7_6)) (yY (lb_ h65.v O_22 e0 hst R5) (Ym (iV x71) e0 (YH wn rfl (rLt (n := 1) (l := [x71]) hst SL_22 [iV x71] (bp1 e0) rfl rfl (mks1 (cs := [iV x71]) rfl mkI mks0)) ?_)))))
    intro h181 w hst
    obtain ⟨x183, gx183, hM7⟩ := bs hM7
    replace hst := hst.pk 4 [3, 0, 0, 0] rfl
    refine YH wn rfl (rAp hst SL_22 e0 e0 rO1 gx183) ?_
    intro h182 w hst
    refine yY (yFb FL_46_0 (eh e7_6)) ?_
    replace hst := hst.pk 7 [6, 0, 0, 0, 0, 0, 0] rfl
    refine YT wn rfl (r_stb1 (vals' := [h182.v, h67.v, h69.v]) hst O_22 e0 e0 rfl rfl rfl rfl) ?_
    intro w hst
    exact wN (j10 _ _ _ _ _ _ e7_2 e7_3 e7_5 e7_6 e7_19 e7_20 (hst.pk 7 [3, 3, 1, 2, 2, 0] rfl) hM7)
   ·refine cF e0 c180 (wR (yY (yFb FL_46_1 (eh e7_6)) (yY (lb_ h67.v O_22 e0 hst R5) (Ym (iV x71) e0 (YH wn rfl (rLt (n := 1) (l := [x71]) hst SL_22 [iV x71] (bp1 e0) rfl rfl (mks1 (cs := [iV x71]) rfl mkI mks0)) ?_)))))
    intro h184 w hst
    obtain ⟨x186, gx186, hM7⟩ := bs hM7
    replace hst := hst.pk 5 [4, 0, 0, 0, 0] rfl
    refine YH wn rfl (rAp hst SL_22 e0 e0 rO1 gx186) ?_
    intro h185 w hst
    refine yY (yFb FL_46_1 (eh e7_6)) ?_
    replace hst := hst.pk 7 [6, 0, 0, 0, 0, 0, 0] rfl
    refine YT wn rfl (r_stb1 (vals' := [h65.v, h185.v, h69.v]) hst O_22 e0 e0 rfl rfl rfl rfl) ?_
    intro w hst
    exact wN (j10 _ _ _ _ _ _ e7_2 e7_3 e7_5 e7_6 e7_19 e7_20 (hst.pk 7 [3, 3, 3, 1, 2, 0] rfl) hM7)
 ·refine cF e0 c136 (wp_exit (z28 _ _ _ rfl ?_))
  obtain rfl := someI hM7
  exact zz7 _ _ _ _ rfl rfl (je7_0 _ _ _ _ _ _ _ _ e7_2 e7_6 ((hst.pk 6 [0, 1, 1, 1, 1] rfl).facts (allT allI)) (ho7 _ rfl))
theorem dissect_Separate_ok {x1 : L2} {h2 : Hdr} {out : LI × LI × LI × Int} (hM : dissect_Separate x1 = some out) (q1 : imm S1 h2.v x1 ∈ ros) (hst : St w0 ros rs w) :
  Calls Tryz.prog 27 #[.agg #[h2.v]] w (fun e w => ∃ (h100001 h100003 h100005 : Hdr), e = .returned (.tuple #[.agg #[h100001.v, h100003.v, h100005.v], iV out.2.2.2]) ∧ St w0 ros (row 3 I1 h100001.v out.1 :: row 3 I1 h100003.v out.2.1 :: row 3 I1 h100005.v out.2.2.1 :: rs) w) := by
 refine enterQ Tryz.func27 rfl Tryz.ntmps27 rfl fun Q hQ => sR fun _ k1 => YB wn rfl (r_box (vals := [h2.v]) hst e0 rfl) ?_
 intro b3 w hst
 refine YB wn rfl (rAl hst ZT_46) ?_
 intro b4 w hst
 refine Ya (iV 0) rfl (wK k1 (sR fun _ k2 => yY (lbs_ [h2.v] ST_26 e0 hst R1) ?_))
 obtain ⟨r5, gr5, hM⟩ := bs hM
 refine Yc wn rfl (yCall FN_51 (a1 e0)) (graph_Check_ok gr5 q1 hst) ?_
 rintro _ w ⟨rfl, hst⟩
 refine ⟨_, rfl, ?_⟩
 refine Ya (iV r5) e0 (wK k2 (seqQ fun Q3 k3 z3 => sR fun _ k4 => Ym (iV r5) e0 (yY (yneq e0 rfl) (wK k4 ?_))))
 rcases iteS hM with ⟨c6, hM⟩ | ⟨c6, hM⟩
 ·refine condF e0 (nF (dT c6)) (wp_skip (k3 _ _ (sR fun _ k5 => yY (lbs_ [h2.v] ST_26 e0 hst R1) ?_)))
  obtain ⟨r7, gr7, hM⟩ := bs hM
  refine Yc wn rfl (yCall FN_56 (a1 e0)) (dissect_separate_ok gr7 q1 hst) ?_
  rintro _ w ⟨h8, h9, h10, rfl, hst⟩
  refine ⟨_, rfl, ?_⟩
  replace hst := hst.pk 4 [3, 0, 0, 0] rfl
  refine YT wn rfl (r_stbn (vals' := [h8.v, h9.v, h10.v]) (us := [h8.v, h9.v, h10.v]) hst ST_46 e0 e0 rfl rfl (one_of rfl) rfl) ?_
  intro w hst
  refine Ya (iV 0) rfl (wK k5 (wp_ret ?_))
  obtain rfl := someI hM
  exact hQ _ _ _ (fin2r Tryz.results27 (rcs2 rfl rfl hst R0 ST_46 rfl) ⟨rfl, rfl⟩ ⟨_, _, _, rfl, (hst.pk 5 [1, 1, 1] rfl)⟩)
 ·refine condT e0 (nT (dF c6)) (sR fun _ k6 => yY (ybuild (us := [hnil.v, hnil.v, hnil.v]) [] SO_46 bp0 rfl) (Ym (iV r5) e0 (YT wn rfl (r_stbn (vals' := [hnil.v, hnil.v, hnil.v]) (us := [hnil.v, hnil.v, hnil.v]) hst ST_46 e0 e0 rfl rfl (one_of rfl) rfl) ?_)))
  intro w hst
  refine Ya (iV r5) e0 (wK k6 (wp_ret (z3 _ _ _ rfl ?_)))
  obtain rfl := someI hM
  replace hst := hst.rowNh 3 I1
  replace hst := hst.rowNh 3 I1
  replace hst := hst.rowNh 3 I1
  exact hQ _ _ _ (fin2r Tryz.results27 (rcs2 rfl rfl hst R3 ST_46 rfl) ⟨rfl, rfl⟩ ⟨_, _, _, rfl, (hst.pk 5 [2, 1, 0] rfl)⟩)
theorem sparsekit_Ints_ok {x1 x3 : LI} {h2 h4 : Hdr} {out : Bool} (hM : sparsekit_Ints x1 x3 = some out) (q1 : imm I1 h2.v x1 ∈ ros) (q2 : imm I1 h4.v x3 ∈ ros) (hst : St w0 ros rs w) :
  Calls Tryz.prog 13 #[h2.v, h4.v] w (fun e w => e = .returned (.bool out) ∧ St w0 ros rs w) := by
 refine enterQ Tryz.func13 rfl Tryz.ntmps13 rfl fun Q hQ => sR fun _ k1 => Ya (.bool false) rfl (wK k1 (seqQ fun Q2 k2 z2 => sR fun _ k3 => Ym h2.v e0 (yY (yLen SL_22 e0 hst (rdI q1)) (Ym h4.v e0 (yY (yLen SL_22 e0 hst (rdI q2)) (yY (yneq e0 e0) ?_))))))
 refine wK k3 ?_
 rcases iteS hM with ⟨c5, hM⟩ | ⟨c5, hM⟩
 ·refine condF e0 (nF (dT c5)) (wp_skip (k2 _ _ (seqQ fun Q4 k4 z4 => sR fun _ k5 => Ya (iV 0) rfl (wK k5 (blockQ fun Q6 qb6 => ?_)))))
  obtain ⟨o1, go1, hM⟩ := bs hM
  have je1_0 : ∀ (f : FV) (w : World), St w0 ros rs w → .inl () = o1 → Q6 (.exit 0) (fr 26 f) w := by
   intro f w hst ho
   subst ho
   refine qb6 _ _ _ (k4 _ _ (sR fun _ k19 => Ya (.bool true) rfl (wK k19 (wp_ret ?_))))
   obtain rfl := someI hM
   exact hQ _ _ _ (fin1r Tryz.results13 ⟨rfl, rfl⟩ ⟨rfl, hst⟩)
  have je1_1 : ∀ (f : FV) (w : World), f 4 = .bool false → St w0 ros rs w → .inr () = o1 → Q6 .ret (fr 26 f) w := by
   intro f w eje1_1_4 hst ho
   subst ho
   refine qb6 _ _ _ (z4 _ _ _ rfl ?_)
   obtain rfl := someI hM
   exact hQ _ _ _ (fin1r Tryz.results13 ⟨rfl, eje1_1_4⟩ ⟨rfl, hst⟩)
  refine loopQ (fun s a w => ∃ (x10 : Int) (f : FV), x10 = s ∧ a = fr 26 f ∧ f 0 = h2.v ∧ f 1 = h4.v ∧ f 5 = iV x10 ∧ St w0 ros rs w) go1 ⟨_, _, rfl, rfl, rfl, rfl, rfl, hst⟩ ?_
  rintro _ _ w r1_ ⟨x10, f, rfl, rfl, e1_0, e1_1, e1_5, hst⟩ hM1 ho1 Q100001 n1 zz1
  refine seqQ fun Q20 k20 z20 => sR fun _ k21 => Ym (iV x10) (eh e1_5) (Ym h2.v (eh e1_0) (yY (yLen SL_22 e0 hst (rdI q1)) (yY (ylss e0 e0) (wK k21 ?_))))
  rcases iteS hM1 with ⟨c16, hM1⟩ | ⟨c16, hM1⟩
  ·refine cT e0 c16 (wp_skip (k20 _ _ (seqQ fun Q22 k22 z22 => blockQ fun _ qb23 => sQ fun _ k24 => ?_)))
   obtain ⟨x17, gx17, hM1⟩ := bs hM1
   obtain ⟨x18, gx18, hM1⟩ := bs hM1
   refine dR [0, 0, 3, 7, 0, 0, 48, 112, 255] [] 0 folM ?_
   replace hst := hst.drew
   refine Dz [0, 1, 2, 3, 4, 5, 6, 7, 8] [] (yR rfl (m_ h2.v (eh e1_0)) (yR rfl (m_ (iV x10) (eh e1_5)) (yR rfl (yIa SL_22 e0 e0 hst (rdI q1) gx17) (yR rfl (yI O_3 e0 hst (rdI q1) gx17) (yR rfl (m_ h4.v (eh e1_1)) (yR rfl (m_ (iV x10) (eh e1_5)) (yR rfl (yIa SL_22 e0 e0 hst (rdI q2) gx18) (yR rfl (yI O_3 e0 hst (rdI q2) gx18) (yR rfl (yneq e0 e0) (Rn QSn (k24 _ _ ?_)))))))))))
   rcases iteS hM1 with ⟨c19, hM1⟩ | ⟨c19, hM1⟩
   ·refine condF e0 (nF (dT c19)) (wp_skip (qb23 _ _ _ (k22 _ _ (wR (Ym (iV x10) (eh e1_5) (yY (yadd e0 rfl) (Ya (iV (wa .i64 x10 1)) e0 (wN ?_))))))))
    obtain rfl := someI hM1
    exact n1 _ _ _ rfl ⟨_, _, rfl, rfl, e1_0, e1_1, rfl, hst⟩
   ·refine condT e0 (nT (dF c19)) (sR fun _ k25 => Ya (.bool false) rfl (wK k25 (wp_ret (qb23 _ _ _ (z22 _ _ _ rfl ?_)))))
    obtain rfl := someI hM1
    exact zz1 _ _ _ _ rfl rfl (je1_1 _ _ rfl hst (ho1 _ rfl))
  ·refine cF e0 c16 (wp_exit (z20 _ _ _ rfl ?_))
   obtain rfl := someI hM1
   exact zz1 _ _ _ _ rfl rfl (je1_0 _ _ hst (ho1 _ rfl))
 ·refine condT e0 (nT (dF c5)) (sR fun _ k26 => Ya (.bool false) rfl (wK k26 (wp_ret (z2 _ _ _ rfl ?_))))
  obtain rfl := someI hM
  exact hQ _ _ _ (fin1r Tryz.results13 ⟨rfl, rfl⟩ ⟨rfl, hst⟩)
theorem sparsekit_Split_ok {x1 x3 x5 x7 x9 x11 : LI} {h2 h4 h6 h8 h10 h12 : Hdr} {out : Bool} (hM : sparsekit_Split x1 x3 x5 x7 x9 x11 = some out) (q1 : imm I1 h2.v x1 ∈ ros) (q2 : imm I1 h4.v x3 ∈ ros) (q3 : imm I1 h6.v x5 ∈ ros) (q4 : imm I1 h8.v x7 ∈ ros) (q5 : imm I1 h10.v x9 ∈ ros) (q6 : imm I1 h12.v x11 ∈ ros) (hst : St w0 ros rs w) :
  Calls Tryz.prog 31 #[.agg #[h2.v, h4.v, h6.v], .agg #[h8.v, h10.v, h12.v]] w (fun e w => e = .returned (.bool out) ∧ St w0 ros rs w) := by
 refine enterQ Tryz.func31 rfl Tryz.ntmps31 rfl fun Q hQ => sR fun _ k1 => YB wn rfl (r_box (vals := [h2.v, h4.v, h6.v]) hst e0 rfl) ?_
 intro b13 w hst
 refine YB wn rfl (r_box (vals := [h8.v, h10.v, h12.v]) hst e0 rfl) ?_
 intro b14 w hst
 refine Ya (.bool false) rfl (wK k1 (sR fun _ k2 => yY (yFb FL_46_0 e0) (yY (lb_ h2.v O_22 e0 hst R1) (yY (yFb FL_46_0 e0) (yY (lb_ h8.v O_22 e0 hst R0) ?_)))))
 obtain ⟨r15, gr15, hM⟩ := bs hM
 refine Yc wn rfl (yCall FN_13 (a2 e0 e0)) (sparsekit_Ints_ok gr15 q1 q4 hst) ?_
 rintro _ w ⟨rfl, hst⟩
 refine ⟨_, rfl, ?_⟩
 refine Ym (.bool r15) e0 ?_
 obtain ⟨r17, gr17, hM⟩ := bs hM
 refine joinW 6 (fun f w => f 2 = (pB b13) ∧ f 3 = (pB b14) ∧ f 16 = .bool r17 ∧ St w0 ros (box b13 46 [h2.v, h4.v, h6.v] :: box b14 46 [h8.v, h10.v, h12.v] :: rs) w) (fun j1 => ?_) ?_
 ·rcases iteS gr17 with ⟨c19, gr17⟩ | ⟨c19, gr17⟩
  ·refine yG c19 (yFb FL_46_1 e0) (yG c19 (lb_ h4.v O_22 e0 hst R1) (yG c19 (yFb FL_46_1 e0) (yG c19 (lb_ h10.v O_22 e0 hst R0) ?_)))
   obtain ⟨r20, gr20, gr17⟩ := bs gr17
   refine Yc (wG c19) rfl (yCall FN_13 (a2 e0 e0)) (sparsekit_Ints_ok gr20 q2 q5 hst) ?_
   rintro _ w ⟨rfl, hst⟩
   refine ⟨_, rfl, ?_⟩
   refine yY (pt_ (.bool r20) e0 c19 e0) ?_
   obtain rfl := someI gr17
   exact j1 _ _ ⟨rfl, rfl, rfl, (hst.pk 2 [1, 0] rfl)⟩
  ·refine gN (bfalse c19) (gN (bfalse c19) (gN (bfalse c19) (gN (bfalse c19) (gN (bfalse c19) (yY (pf_ (.bool false) e0 (bfalse c19) rfl) ?_)))))
   obtain rfl := someI gr17
   exact j1 _ _ ⟨rfl, rfl, rfl, (hst.pk 2 [1, 0] rfl)⟩
 rintro f w ⟨e18_2, e18_3, e18_16, hst⟩
 refine Ym (.bool r17) (eh e18_16) ?_
 obtain ⟨r22, gr22, hM⟩ := bs hM
 refine joinW 6 (fun f w => f 23 = .bool r22 ∧ St w0 ros rs w) (fun j2 => ?_) ?_
 ·rcases iteS gr22 with ⟨c24, gr22⟩ | ⟨c24, gr22⟩
  ·refine yG c24 (yFb FL_46_2 (eh e18_2)) (yG c24 (lb_ h6.v O_22 e0 hst R0) (yG c24 (yFb FL_46_2 (eh e18_3)) (yG c24 (lb_ h12.v O_22 e0 hst R1) ?_)))
   obtain ⟨r25, gr25, gr22⟩ := bs gr22
   refine Yc (wG c24) rfl (yCall FN_13 (a2 e0 e0)) (sparsekit_Ints_ok gr25 q3 q6 hst) ?_
   rintro _ w ⟨rfl, hst⟩
   refine ⟨_, rfl, ?_⟩
   refine yY (pt_ (.bool r25) e0 c24 e0) ?_
   obtain rfl := someI gr22
   exact j2 _ _ ⟨rfl, (hst.pk 2 [] rfl)⟩
  ·refine gN (bfalse c24) (gN (bfalse c24) (gN (bfalse c24) (gN (bfalse c24) (gN (bfalse c24) (yY (pf_ (.bool false) e0 (bfalse c24) rfl) ?_)))))
   obtain rfl := someI gr22
   exact j2 _ _ ⟨rfl, (hst.pk 2 [] rfl)⟩
 rintro f w ⟨e23_23, hst⟩
 refine Ya (.bool r22) (eh e23_23) (wK k2 (wp_ret ?_))
 obtain rfl := someI hM
 exact hQ _ _ _ (fin1r Tryz.results31 ⟨rfl, rfl⟩ ⟨rfl, hst⟩)
theorem dissect_parts_ok {x1 : Int} {x2 : L2} {h3 : Hdr} {out : LI × Bool} (hM : dissect_parts x1 x2 = some out) (q1 : imm S1 h3.v x2 ∈ ros) (hst : St w0 ros rs w) :
  Calls Tryz.prog 65 #[iV x1, h3.v] w (fun e w => ∃ (h100001 : Hdr), e = .returned (.tuple #[h100001.v, .bool out.2]) ∧ St w0 ros (row 3 I1 h100001.v out.1 :: rs) w) := by
 refine enterQ Tryz.func65 rfl Tryz.ntmps65 rfl fun Q hQ => sR fun _ k1 => Ya hnil.v rfl (Ya (.bool false) rfl (wK k1 (sR fun _ k2 => YH wn rfl (rLt (n := 1) (l := [(-1)]) hst SL_22 [iV (-1)] (bp1 rfl) rfl rfl (mks1 (cs := [iV (-1)]) rfl mkI mks0)) ?_)))
 intro h4 w hst
 refine Ym (iV x1) e0 ?_
 obtain ⟨r5, gr5, hM⟩ := bs hM
 replace hst := hst.fz
 refine Yc wn rfl (yCall FN_72 (a2 e0 e0)) (slices_Repeat_int_ok gr5 F0 hst) ?_
 rintro _ w ⟨h6, rfl, hst⟩
 refine ⟨_, rfl, ?_⟩
 refine Ya h6.v e0 (wK k2 (sR fun _ k3 => Ya (iV 0) rfl (wK k3 (seqQ fun Q4 k4 z4 => sR fun _ k5 => Ym h3.v e0 (yY (yLen SL_24 e0 hst (rdI (mtF q1))) (Ym (iV 0) rfl ?_))))))
 refine wK k5 (blockQ fun Q6 qb6 => ?_)
 obtain ⟨o15, go15, hM⟩ := bs hM
 have je15_0 : ∀ (x105 : LI) (x106 : Int) (f : FV) (w : World), f 0 = iV x1 → f 6 = h6.v → f 7 = iV x106 → St w0 ros (row 3 I1 h6.v x105 :: rs) w → .inl (x105, x106) = o15 → Q6 (.exit 0) (fr 57 f) w := by
  intro x105 x106 f w eje15_0_0 eje15_0_6 eje15_0_7 hst ho
  subst ho
  refine qb6 _ _ _ (k4 _ _ (sR fun _ k77 => Ym h6.v (eh eje15_0_6) (Ym (iV x106) (eh eje15_0_7) (Ym (iV x1) (eh eje15_0_0) (yY (yeql e0 e0) (Ya h6.v e0 (Ya (.bool (decide (x106 = x1))) e0 (wK k77 (wp_ret ?_)))))))))
  obtain rfl := someI hM
  exact hQ _ _ _ (fin2r Tryz.results65 ⟨rfl, rfl⟩ ⟨rfl, rfl⟩ ⟨_, rfl, hst⟩)
 have je15_1 : ∀ (f : FV) (w : World), f 4 = hnil.v → f 5 = .bool false → St w0 ros rs w → .inr () = o15 → Q6 .ret (fr 57 f) w := by
  intro f w eje15_1_4 eje15_1_5 hst ho
  subst ho
  refine qb6 _ _ _ (z4 _ _ _ rfl ?_)
  obtain rfl := someI hM
  replace hst := hst.rowNh 3 I1
  exact hQ _ _ _ (fin2r Tryz.results65 ⟨rfl, eje15_1_4⟩ ⟨rfl, eje15_1_5⟩ ⟨_, rfl, hst⟩)
 refine loopQ (fun s a w => ∃ (x53 : LI) (x54 x55 : Int) (f : FV), (x53, x54, x55) = s ∧ a = fr 57 f ∧ f 0 = iV x1 ∧ f 6 = h6.v ∧ f 7 = iV x54 ∧ f 16 = h3.v ∧ f 17 = iV (x2.length : Int) ∧ f 18 = iV x55 ∧ St w0 ros (row 3 I1 h6.v x53 :: rs) w) go15 ⟨_, _, _, _, rfl, rfl, rfl, rfl, rfl, rfl, rfl, rfl, (hst.facts (allT allI))⟩ ?_
 rintro _ _ w r15_ ⟨x53, x54, x55, f, rfl, rfl, e15_0, e15_6, e15_7, e15_16, e15_17, e15_18, hst⟩ hM15 ho15 Q100015 n15 zz15
 refine sR fun _ k78 => yY (ylss (eh e15_18) (eh e15_17)) (wK k78 (seqQ fun Q79 k79 z79 => ?_))
 rcases iteS hM15 with ⟨c107, hM15⟩ | ⟨c107, hM15⟩
 ·refine cT e0 c107 (wp_skip (k79 _ _ (seqQ fun Q80 k80 z80 => blockQ fun _ qb81 => sR fun _ k82 => Ym (iV x55) (eh e15_18) ?_)))
  obtain ⟨x108, gx108, hM15⟩ := bs hM15
  refine yY (yIa SL_24 (eh e15_16) (eh e15_18) hst (rdI q1) gx108) ?_
  obtain ⟨h109, hst⟩ := iLs hst q1 gx108
  refine yY (yCt O_22 e0 hst F1 rfl) (Ya (iV x55) e0 (Ya h109.v e0 (wK k82 (sR fun _ k83 => Ya (iV (-1)) rfl (wK k83 (sR fun _ k84 => Ym h109.v e0 (yY (yLen SL_22 e0 hst (rdI F0)) ?_)))))))
  refine Ym (iV 0) rfl (wK k84 (blockQ fun Q85 qb85 => ?_))
  obtain ⟨o20, go20, hM15⟩ := bs hM15
  have je20_0 : ∀ (x140 : LI) (x141 : Int) (f : FV) (w : World), f 0 = iV x1 → f 6 = h6.v → f 7 = iV x141 → f 16 = h3.v → f 17 = iV (x2.length : Int) → f 18 = iV x55 → St w0 ros (row 3 I1 h6.v x140 :: rs) w → .inl (x140, x141) = o20 → Q85 (.exit 2) (fr 57 f) w := by
   intro x140 x141 f w eje20_0_0 eje20_0_6 eje20_0_7 eje20_0_16 eje20_0_17 eje20_0_18 hst ho
   subst ho
   refine qb85 _ _ _ (qb81 _ _ _ (k80 _ _ (wR (yY (yadd (eh eje20_0_18) rfl) (Ym (iV (wa .i64 x55 1)) e0 (wN ?_))))))
   obtain rfl := someI hM15
   exact n15 _ _ _ rfl ⟨_, _, _, _, rfl, rfl, eje20_0_0, eje20_0_6, eje20_0_7, eje20_0_16, eje20_0_17, rfl, hst⟩
  have je20_1 : ∀ (f : FV) (w : World), f 4 = hnil.v → f 5 = .bool false → St w0 ros rs w → .inr () = o20 → Q85 .ret (fr 57 f) w := by
   intro f w eje20_1_4 eje20_1_5 hst ho
   subst ho
   refine qb85 _ _ _ (qb81 _ _ _ (z80 _ _ _ rfl ?_))
   obtain rfl := someI hM15
   exact zz15 _ _ _ _ rfl rfl (je15_1 _ _ eje20_1_4 eje20_1_5 hst (ho15 _ rfl))
  refine loopQ (fun s a w => ∃ (x121 : LI) (x122 x123 x124 : Int) (f : FV), (x121, x122, x123, x124) = s ∧ a = fr 57 f ∧ f 0 = iV x1 ∧ f 6 = h6.v ∧ f 7 = iV x122 ∧ f 8 = iV x55 ∧ f 10 = iV x123 ∧ f 16 = h3.v ∧ f 17 = iV (x2.length : Int) ∧ f 18 = iV x55 ∧ f 23 = h109.v ∧ f 24 = iV (x108.length : Int) ∧ f 25 = iV x124 ∧ St w0 (imm I1 h109.v x108 :: ros) (row 3 I1 h6.v x121 :: rs) w) go20 ⟨_, _, _, _, _, rfl, rfl, e15_0, e15_6, e15_7, rfl, rfl, e15_16, e15_17, e15_18, rfl, rfl, rfl, (hst.facts (allC F0 (allT (allT allI))))⟩ ?_
  rintro _ _ w r20_ ⟨x121, x122, x123, x124, f, rfl, rfl, e20_0, e20_6, e20_7, e20_8, e20_10, e20_16, e20_17, e20_18, e20_23, e20_24, e20_25, hst⟩ hM20 ho20 Q100020 n20 zz20
  refine sR fun _ k104 => yY (ylss (eh e20_25) (eh e20_24)) (wK k104 (seqQ fun Q105 k105 z105 => ?_))
  rcases iteS hM20 with ⟨c142, hM20⟩ | ⟨c142, hM20⟩
  ·refine cT e0 c142 (wp_skip (k105 _ _ (seqQ fun Q106 k106 z106 => blockQ fun _ qb107 => sR fun _ k108 => ?_)))
   obtain ⟨x143, gx143, hM20⟩ := bs hM20
   refine yY (yIa SL_22 (eh e20_23) (eh e20_25) hst (rdI F0) gx143) (yY (yI O_3 e0 hst (rdI F0) gx143) (Ya (iV x143) e0 (wK k108 (seqQ fun Q109 k109 z109 => sR fun _ k110 => Ym (iV x143) e0 (Ym (iV x123) (eh e20_10) (yY (yleq e0 e0) (Ym (.bool (decide (x143 ≤ x123))) e0 ?_)))))))
   refine joinW 4 (fun f w => f 0 = iV x1 ∧ f 6 = h6.v ∧ f 7 = iV x122 ∧ f 8 = iV x55 ∧ f 12 = iV x143 ∧ f 16 = h3.v ∧ f 17 = iV (x2.length : Int) ∧ f 18 = iV x55 ∧ f 23 = h109.v ∧ f 24 = iV (x108.length : Int) ∧ f 25 = iV x124 ∧ f 36 = .bool ((decide (x143 ≤ x123)) || (decide (x1 ≤ x143))) ∧ St w0 (imm I1 h109.v x108 :: ros) (row 3 I1 h6.v x121 :: rs) w) (fun j21 => ?_) ?_
   ·rcases Bool.eq_false_or_eq_true (decide (x143 ≤ x123)) with c145 | c145
    ·exact gN c145 (gN c145 (gN c145 (yY (pt_ (.bool true) e0 c145 rfl) (j21 _ _ ⟨e20_0, e20_6, e20_7, e20_8, rfl, e20_16, e20_17, e20_18, e20_23, e20_24, e20_25, (congrArg Value.bool (orT c145)), hst⟩))))
    ·exact yG c145 (m_ (iV x143) e0) (yG c145 (m_ (iV x1) (eh e20_0)) (yG c145 (ygeq e0 e0) (yY (pf_ (.bool (decide (x1 ≤ x143))) e0 c145 e0) (j21 _ _ ⟨e20_0, e20_6, e20_7, e20_8, rfl, e20_16, e20_17, e20_18, e20_23, e20_24, e20_25, (congrArg Value.bool (orF c145)), hst⟩))))
   rintro f w ⟨e144_0, e144_6, e144_7, e144_8, e144_12, e144_16, e144_17, e144_18, e144_23, e144_24, e144_25, e144_36, hst⟩
   refine Ym (.bool ((decide (x143 ≤ x123)) || (decide (x1 ≤ x143)))) (eh e144_36) ?_
   obtain ⟨r147, gr147, hM20⟩ := bs hM20
   refine joinW 6 (fun f w => f 0 = iV x1 ∧ f 6 = h6.v ∧ f 7 = iV x122 ∧ f 8 = iV x55 ∧ f 12 = iV x143 ∧ f 16 = h3.v ∧ f 17 = iV (x2.length : Int) ∧ f 18 = iV x55 ∧ f 23 = h109.v ∧ f 24 = iV (x108.length : Int) ∧ f 25 = iV x124 ∧ f 43 = .bool r147 ∧ St w0 (imm I1 h109.v x108 :: ros) (row 3 I1 h6.v x121 :: rs) w) (fun j22 => ?_) ?_
   ·rcases iteS gr147 with ⟨c149, gr147⟩ | ⟨c149, gr147⟩
    ·refine gN c149 (gN c149 (gN c149 (gN c149 (gN c149 (yY (pt_ (.bool true) e0 c149 rfl) ?_)))))
     obtain rfl := someI gr147
     exact j22 _ _ ⟨e144_0, e144_6, e144_7, e144_8, e144_12, e144_16, e144_17, e144_18, e144_23, e144_24, e144_25, rfl, hst⟩
    ·refine yG (bfalse c149) (m_ h6.v (eh e144_6)) (yG (bfalse c149) (m_ (iV x143) (eh e144_12)) ?_)
     obtain ⟨x150, gx150, gr147⟩ := bs gr147
     refine yG (bfalse c149) (yIa SL_22 e0 e0 hst rO0 gx150) (yG (bfalse c149) (yI O_3 e0 hst rO0 gx150) (yG (bfalse c149) (yneq e0 rfl) (yY (pf_ (.bool (!(decide (x150 = (-1))))) e0 (bfalse c149) e0) ?_)))
     obtain rfl := someI gr147
     exact j22 _ _ ⟨e144_0, e144_6, e144_7, e144_8, e144_12, e144_16, e144_17, e144_18, e144_23, e144_24, e144_25, rfl, hst⟩
   rintro f w ⟨e148_0, e148_6, e148_7, e148_8, e148_12, e148_16, e148_17, e148_18, e148_23, e148_24, e148_25, e148_43, hst⟩
   refine wK k110 ?_
   rcases iteS hM20 with ⟨c151, hM20⟩ | ⟨c151, hM20⟩
   ·refine condT (eh e148_43) c151 (sR fun _ k111 => Ya hnil.v rfl (Ya (.bool false) rfl (wK k111 (wp_ret (z109 _ _ _ rfl (qb107 _ _ _ (z106 _ _ _ rfl ?_)))))))
    obtain rfl := someI hM20
    exact zz20 _ _ _ _ rfl rfl (je20_1 _ _ rfl rfl ((hst.pk 1 [] rfl).facts (allT allI)) (ho20 _ rfl))
   ·refine condF (eh e148_43) (bfalse c151) (wp_skip (k109 _ _ (sR fun _ k112 => Ym h6.v (eh e148_6) (Ym (iV x143) (eh e148_12) (Ym (iV x55) (eh e148_8) (Ym (iV x143) (eh e148_12) ?_))))))
    obtain ⟨x152, gx152, hM20⟩ := bs hM20
    refine yY (yIs SL_22 e0 e0 hst rO0 gx152) (YT wn rfl (r_sti (cs := [iV x55]) hst O_3 rfl e0 e0 rfl mkI gx152) ?_)
    intro w hst
    refine Ya (iV x143) e0 (wK k112 (wR (Ym (iV x122) (eh e148_7) (yY (yadd e0 rfl) (Ya (iV (wa .i64 x122 1)) e0 (wN (qb107 _ _ _ (k106 _ _ (wR (yY (yadd (eh e148_25) rfl) (Ym (iV (wa .i64 x124 1)) e0 (wN ?_))))))))))))
    obtain rfl := someI hM20
    exact n20 _ _ _ rfl ⟨_, _, _, _, _, rfl, rfl, e148_0, e148_6, rfl, e148_8, rfl, e148_16, e148_17, e148_18, e148_23, e148_24, rfl, hst⟩
  ·refine cF e0 c142 (wp_exit (z105 _ _ _ rfl ?_))
   obtain rfl := someI hM20
   exact zz20 _ _ _ _ rfl rfl (je20_0 _ _ _ _ e20_0 e20_6 e20_7 e20_16 e20_17 e20_18 (hst.facts (allT allI)) (ho20 _ rfl))
 ·refine cF e0 c107 (wp_exit (z79 _ _ _ rfl ?_))
  obtain rfl := someI hM15
  exact zz15 _ _ _ _ rfl rfl (je15_0 _ _ _ _ e15_0 e15_6 e15_7 hst (ho15 _ rfl))
end Go.Proofs.YthpeajepbffinaaGreat
