/- Walks: each function computes its model, printed. -/
import Derived.Test.YthpeajepbffinaaGreatW5
namespace Go.Proofs.YthpeajepbffinaaGreat
open Go Sx M
set_option maxRecDepth 100000
set_option maxHeartbeats 40000000
set_option linter.unusedVariables false
attribute [local irreducible] wpList Code.wp Calls DR QR QS LA LS St
variable {w0 : World} {ros : List Fact} {rs : List Res} {w : World}
theorem slices_IndexFunc_int_v3_ok {x1 : LI} {h2 : Hdr} {out : Int} (hM : slices_IndexFunc_int_v3 x1 = some out) (q1 : imm I1 h2.v x1 ∈ ros) (hst : St w0 ros rs w) :
  Calls Tryz.prog 80 #[h2.v, .func (.func 50) #[] #[]] w (fun e w => e = .returned (iV out) ∧ St w0 ros rs w) := by
 refine enterQ Tryz.func80 rfl Tryz.ntmps80 rfl fun Q hQ => sR fun _ k1 => Ya (iV 0) rfl (wK k1 (seqQ fun Q2 k2 z2 => sR fun _ k3 => Ym h2.v e0 (yY (yLen SL_22 e0 hst (rdI q1)) (Ym (iV 0) rfl (wK k3 ?_)))))
 refine blockQ fun Q4 qb4 => ?_
 obtain ⟨o1, go1, hM⟩ := bs hM
 have je1_0 : ∀ (f : FV) (w : World), St w0 ros rs w → .inl () = o1 → Q4 (.exit 0) (fr 19 f) w := by
  intro f w hst ho
  subst ho
  refine qb4 _ _ _ (k2 _ _ (sR fun _ k19 => Ya (iV (-1)) rfl (wK k19 (wp_ret ?_))))
  obtain rfl := someI hM
  exact hQ _ _ _ (fin1r Tryz.results80 ⟨rfl, rfl⟩ ⟨rfl, hst⟩)
 have je1_1 : ∀ (x13 : Int) (f : FV) (w : World), f 4 = iV x13 → St w0 ros rs w → .inr x13 = o1 → Q4 .ret (fr 19 f) w := by
  intro x13 f w eje1_1_4 hst ho
  subst ho
  refine qb4 _ _ _ (z2 _ _ _ rfl ?_)
  obtain rfl := someI hM
  exact hQ _ _ _ (fin1r Tryz.results80 ⟨rfl, eje1_1_4⟩ ⟨rfl, hst⟩)
 refine loopQ (fun s a w => ∃ (x7 : Int) (f : FV), x7 = s ∧ a = fr 19 f ∧ f 0 = h2.v ∧ f 1 = .func (.func 50) #[] #[] ∧ f 7 = iV (x1.length : Int) ∧ f 8 = iV x7 ∧ St w0 ros rs w) go1 ⟨_, _, rfl, rfl, rfl, rfl, rfl, rfl, hst⟩ ?_
 rintro _ _ w r1_ ⟨x7, f, rfl, rfl, e1_0, e1_1, e1_7, e1_8, hst⟩ hM1 ho1 Q100001 n1 zz1
 refine sR fun _ k20 => yY (ylss (eh e1_8) (eh e1_7)) (wK k20 (seqQ fun Q21 k21 z21 => ?_))
 rcases iteS hM1 with ⟨c14, hM1⟩ | ⟨c14, hM1⟩
 ·refine cT e0 c14 (wp_skip (k21 _ _ (seqQ fun Q22 k22 z22 => blockQ fun _ qb23 => sR fun _ k24 => Ym (iV x7) (eh e1_8) (Ya (iV x7) e0 (wK k24 (sR fun _ k25 => Ym (.func (.func 50) #[] #[]) (eh e1_1) ?_))))))
  refine Ym h2.v (eh e1_0) (Ym (iV x7) e0 ?_)
  obtain ⟨x15, gx15, hM1⟩ := bs hM1
  refine yY (yIa SL_22 e0 e0 hst (rdI q1) gx15) (yY (yI O_3 e0 hst (rdI q1) gx15) ?_)
  obtain ⟨r16, gr16, hM1⟩ := bs hM1
  refine Yc wn rfl (yCallw FN_50 e0 (a1 e0)) (dissect_Cut_1_ok gr16 hst) ?_
  rintro _ w ⟨rfl, hst⟩
  refine ⟨_, rfl, ?_⟩
  refine wK k25 ?_
  rcases iteS hM1 with ⟨c17, hM1⟩ | ⟨c17, hM1⟩
  ·refine condT e0 c17 (sR fun _ k26 => Ym (iV x7) e0 (Ya (iV x7) e0 (wK k26 (wp_ret (qb23 _ _ _ (z22 _ _ _ rfl ?_))))))
   obtain rfl := someI hM1
   exact zz1 _ _ _ _ rfl rfl (je1_1 _ _ _ rfl hst (ho1 _ rfl))
  ·refine condF e0 (bfalse c17) (wp_skip (qb23 _ _ _ (k22 _ _ (wR (yY (yadd (eh e1_8) rfl) (Ym (iV (wa .i64 x7 1)) e0 (wN ?_)))))))
   obtain rfl := someI hM1
   exact n1 _ _ _ rfl ⟨_, _, rfl, rfl, e1_0, e1_1, e1_7, rfl, hst⟩
 ·refine cF e0 c14 (wp_exit (z21 _ _ _ rfl ?_))
  obtain rfl := someI hM1
  exact zz1 _ _ _ _ rfl rfl (je1_0 _ _ hst (ho1 _ rfl))
theorem slices_ContainsFunc_int_v3_ok {x1 : LI} {h2 : Hdr} {out : Bool} (hM : slices_ContainsFunc_int_v3 x1 = some out) (q1 : imm I1 h2.v x1 ∈ ros) (hst : St w0 ros rs w) :
  Calls Tryz.prog 49 #[h2.v, .func (.func 50) #[] #[]] w (fun e w => e = .returned (.bool out) ∧ St w0 ros rs w) := by
 refine enterQ Tryz.func49 rfl Tryz.ntmps49 rfl fun Q hQ => sR fun _ k1 => Ya (.bool false) rfl (wK k1 (sR fun _ k2 => Ym h2.v e0 (Ym (.func (.func 50) #[] #[]) e0 ?_)))
 obtain ⟨r3, gr3, hM⟩ := bs hM
 refine Yc wn rfl (yCall FN_80 (a2 e0 e0)) (slices_IndexFunc_int_v3_ok gr3 q1 hst) ?_
 rintro _ w ⟨rfl, hst⟩
 refine ⟨_, rfl, ?_⟩
 refine yY (ygeq e0 rfl) (Ya (.bool (decide ((0 : Int) ≤ r3))) e0 (wK k2 (wp_ret ?_)))
 obtain rfl := someI hM
 exact hQ _ _ _ (fin1r Tryz.results49 ⟨rfl, rfl⟩ ⟨rfl, hst⟩)
theorem dissect_Cut_ok {x1 : L2} {x3 : LI} {x5 : L2} {x7 : LI} {h2 h4 h6 h8 : Hdr} {out : Int × Int} (hM : dissect_Cut x1 x3 x5 x7 = some out) (q1 : imm S1 h2.v x1 ∈ ros) (q2 : imm I1 h4.v x3 ∈ ros) (q3 : imm S1 h6.v x5 ∈ ros) (q4 : imm I1 h8.v x7 ∈ ros) (hst : St w0 ros rs w) :
  Calls Tryz.prog 21 #[.agg #[h2.v, h4.v, h6.v], h8.v] w (fun e w => e = .returned (.tuple #[iV out.1, iV out.2]) ∧ St w0 ros rs w) := by
 refine enterQ Tryz.func21 rfl Tryz.ntmps21 rfl fun Q hQ => sR fun _ k1 => YB wn rfl (r_box (vals := [h2.v, h4.v, h6.v]) hst e0 rfl) ?_
 intro b9 w hst
 refine Ya (iV 0) rfl (Ya (iV 0) rfl (wK k1 (sR fun _ k2 => yY (lbs_ [h2.v, h4.v, h6.v] ST_28 e0 hst R0) ?_)))
 obtain ⟨r10, gr10, hM⟩ := bs hM
 refine Yc wn rfl (yCall FN_23 (a1 e0)) (dissect_CheckWeighted_ok gr10 q1 q2 q3 hst) ?_
 rintro _ w ⟨rfl, hst⟩
 refine ⟨_, rfl, ?_⟩
 refine Ya (iV r10) e0 (wK k2 (seqQ fun Q3 k3 z3 => blockQ fun _ qb4 => sR fun _ k5 => Ym (iV r10) e0 (yY (yneq e0 rfl) (Ya (.bool (!(decide (r10 = 0)))) e0 (wK k5 ?_)))))
 rcases iteS hM with ⟨c11, hM⟩ | ⟨c11, hM⟩
 ·refine condF e0 (nF (dT c11)) (sR fun _ k6 => Ym h8.v e0 (yY (yLen SL_22 e0 hst (rdI q4)) (yY (yFb FL_28_1 e0) (yY (lb_ h4.v O_22 e0 hst R0) (yY (yLen SL_22 e0 hst (rdI q2)) (yY (yneq e0 e0) (Ya (.bool (!(decide ((x7.length : Int) = (x3.length : Int))))) e0 (wK k6 ?_))))))))
  rcases iteS hM with ⟨c12, hM⟩ | ⟨c12, hM⟩
  ·refine condF e0 (nF (dT c12)) (sR fun _ k7 => Ym h8.v e0 ?_)
   obtain ⟨r13, gr13, hM⟩ := bs hM
   refine Yc wn rfl (yCall FN_49 (a2 e0 rfl)) (slices_ContainsFunc_int_v3_ok gr13 q4 hst) ?_
   rintro _ w ⟨rfl, hst⟩
   refine ⟨_, rfl, ?_⟩
   refine Ya (.bool r13) e0 (wK k7 ?_)
   rcases iteS hM with ⟨c14, hM⟩ | ⟨c14, hM⟩
   ·refine condT e0 c14 (sR fun _ k8 => Ya (iV 0) rfl (Ya (iV 1) rfl (wK k8 (wp_ret (qb4 _ _ _ (z3 _ _ _ rfl ?_))))))
    obtain rfl := someI hM
    exact hQ _ _ _ (fin2r Tryz.results21 ⟨rfl, rfl⟩ ⟨rfl, rfl⟩ ⟨rfl, (hst.pk 1 [] rfl)⟩)
   ·refine condF e0 (bfalse c14) (wp_skip (qb4 _ _ _ (k3 _ _ (sR fun _ k9 => Ya (iV 0) rfl (wK k9 (sQ fun _ k10 => sR fun _ k11 => yY (yFb FL_28_0 e0) (yY (yFb FL_26_0 e0) ?_)))))))
    refine yY (lb_ h2.v O_24 e0 hst R0) (yY (yLen SL_24 e0 hst (rdI q1)) (Ym (iV 0) rfl (wK k11 (blockQ fun Q12 qb12 => ?_))))
    obtain ⟨o27, go27, hM⟩ := bs hM
    have je27_0 : ∀ (x131 : Int) (f : FV) (w : World), f 7 = iV x131 → St w0 ros rs w → x131 = o27 → Q12 (.exit 1) (fr 71 f) w := by
     intro x131 f w eje27_0_7 hst ho
     subst ho
     refine qb12 _ _ _ (k10 _ _ (sR fun _ k63 => Ym (iV x131) (eh eje27_0_7) (Ya (iV x131) e0 (Ya (iV 0) rfl (wK k63 (wp_ret ?_))))))
     obtain rfl := someI hM
     exact hQ _ _ _ (fin2r Tryz.results21 ⟨rfl, rfl⟩ ⟨rfl, rfl⟩ ⟨rfl, hst⟩)
    refine loopQ (fun s a w => ∃ (x71 x72 : Int) (f : FV), (x71, x72) = s ∧ a = fr 71 f ∧ f 1 = h8.v ∧ f 2 = (pB b9) ∧ f 7 = iV x71 ∧ f 30 = h2.v ∧ f 31 = iV (x1.length : Int) ∧ f 32 = iV x72 ∧ St w0 ros (box b9 28 [h2.v, h4.v, h6.v] :: rs) w) go27 ⟨_, _, _, rfl, rfl, rfl, rfl, rfl, rfl, rfl, rfl, hst⟩ ?_
    rintro _ _ w r27_ ⟨x71, x72, f, rfl, rfl, e27_1, e27_2, e27_7, e27_30, e27_31, e27_32, hst⟩ hM27 ho27 Q100027 n27 zz27
    refine sR fun _ k64 => yY (ylss (eh e27_32) (eh e27_31)) (wK k64 (seqQ fun Q65 k65 z65 => ?_))
    rcases iteS hM27 with ⟨c132, hM27⟩ | ⟨c132, hM27⟩
    ·refine cT e0 c132 (wp_skip (k65 _ _ (sQ fun _ k66 => blockQ fun _ qb67 => sR fun _ k68 => Ym (iV x72) (eh e27_32) ?_)))
     obtain ⟨x133, gx133, hM27⟩ := bs hM27
     refine yY (yIa SL_24 (eh e27_30) (eh e27_32) hst (rdI q1) gx133) ?_
     obtain ⟨h134, hst⟩ := iLs hst q1 gx133
     refine yY (yCt O_22 e0 hst F1 rfl) (Ya (iV x72) e0 (Ya h134.v e0 (wK k68 (sR fun _ k69 => Ym h134.v e0 (yY (yLen SL_22 e0 hst (rdI F0)) (Ym (iV 0) rfl (wK k69 (blockQ fun Q70 qb70 => ?_))))))))
     obtain ⟨o36, go36, hM27⟩ := bs hM27
     have je36_0 : ∀ (x171 : Int) (f : FV) (w : World), f 1 = h8.v → f 2 = (pB b9) → f 7 = iV x171 → f 30 = h2.v → f 31 = iV (x1.length : Int) → f 32 = iV x72 → St w0 ros (box b9 28 [h2.v, h4.v, h6.v] :: rs) w → x171 = o36 → Q70 (.exit 3) (fr 71 f) w := by
      intro x171 f w eje36_0_1 eje36_0_2 eje36_0_7 eje36_0_30 eje36_0_31 eje36_0_32 hst ho
      subst ho
      refine qb70 _ _ _ (qb67 _ _ _ (k66 _ _ (wR (yY (yadd (eh eje36_0_32) rfl) (Ym (iV (wa .i64 x72 1)) e0 (wN ?_))))))
      obtain rfl := someI hM27
      exact n27 _ _ _ rfl ⟨_, _, _, rfl, rfl, eje36_0_1, eje36_0_2, eje36_0_7, eje36_0_30, eje36_0_31, rfl, hst⟩
     refine loopQ (fun s a w => ∃ (x151 x152 : Int) (f : FV), (x151, x152) = s ∧ a = fr 71 f ∧ f 1 = h8.v ∧ f 2 = (pB b9) ∧ f 7 = iV x151 ∧ f 8 = iV x72 ∧ f 30 = h2.v ∧ f 31 = iV (x1.length : Int) ∧ f 32 = iV x72 ∧ f 37 = h134.v ∧ f 38 = iV (x133.length : Int) ∧ f 39 = iV x152 ∧ St w0 (imm I1 h134.v x133 :: ros) (box b9 28 [h2.v, h4.v, h6.v] :: rs) w) go36 ⟨_, _, _, rfl, rfl, e27_1, e27_2, e27_7, rfl, e27_30, e27_31, e27_32, rfl, rfl, rfl, (hst.facts (allC F0 (allT (allT allI))))⟩ ?_
     rintro _ _ w r36_ ⟨x151, x152, f, rfl, rfl, e36_1, e36_2, e36_7, e36_8, e36_30, e36_31, e36_32, e36_37, e36_38, e36_39, hst⟩ hM36 ho36 Q100036 n36 zz36
     refine sR fun _ k83 => yY (ylss (eh e36_39) (eh e36_38)) (wK k83 (seqQ fun Q84 k84 z84 => ?_))
     rcases iteS hM36 with ⟨c172, hM36⟩ | ⟨c172, hM36⟩
     ·refine cT e0 c172 (wp_skip (k84 _ _ (sQ fun _ k85 => blockQ fun Q86 qb86 => sR fun _ k87 => Ym (iV x152) (eh e36_39) ?_)))
      obtain ⟨x173, gx173, hM36⟩ := bs hM36
      refine yY (yIa SL_22 (eh e36_37) (eh e36_39) hst (rdI F0) gx173) (yY (yI O_3 e0 hst (rdI F0) gx173) (Ya (iV x152) e0 (Ya (iV x173) e0 (wK k87 (sQ fun _ k88 => ?_)))))
      obtain ⟨r174, gr174, hM36⟩ := bs hM36
      refine joinN (n := 71) (fun f w => f 1 = h8.v ∧ f 2 = (pB b9) ∧ f 7 = iV x151 ∧ f 8 = iV x72 ∧ f 10 = iV x152 ∧ f 30 = h2.v ∧ f 31 = iV (x1.length : Int) ∧ f 32 = iV x72 ∧ f 37 = h134.v ∧ f 38 = iV (x133.length : Int) ∧ f 39 = iV x152 ∧ f 57 = .bool r174 ∧ St w0 (imm I1 h134.v x133 :: ros) (box b9 28 [h2.v, h4.v, h6.v] :: rs) w) (fun j37 => ?_) ?_
      ·rcases iteS gr174 with ⟨c177, gr174⟩ | ⟨c177, gr174⟩
       ·obtain ⟨x178, gx178, gr174⟩ := bs gr174
        obtain ⟨x179, gx179, gr174⟩ := bs gr174
        have hr38 := someI gr174
        refine dR [0, 0, 3, 7, 15, 15, 63, 127, 15, 15, 783, 1807, 4095, 8191] [] 0 folM ?_
        replace hst := hst.drew
        refine Dz [0, 1, 2, 3, 4, 5, 6, 7, 8, 9, 10, 11, 12, 13] [] (yR rfl (m_ (iV x173) e0) (yR rfl (m_ (iV x72) (eh e36_8)) (yR rfl (ylss e0 e0) (yR rfl (m_ (.bool (decide (x173 < x72))) e0) (Ry rfl rfl (wG (dT c177)) (m_ h8.v (eh e36_1)) (Ry rfl rfl (wG (dT c177)) (m_ (iV x173) e0) (Ry rfl rfl (wG (dT c177)) (yIa SL_22 e0 e0 hst (rdI (mtF q4)) gx178) (Ry rfl rfl (wG (dT c177)) (yI O_3 e0 hst (rdI (mtF q4)) gx178) (Ry rfl rfl (wG (dT c177)) (m_ h8.v (eh e36_1)) (Ry rfl rfl (wG (dT c177)) (m_ (iV x72) (eh e36_8)) (Ry rfl rfl (wG (dT c177)) (yIa SL_22 e0 e0 hst (rdI (mtF q4)) gx179) (Ry rfl rfl (wG (dT c177)) (yI O_3 e0 hst (rdI (mtF q4)) gx179) (Ry rfl rfl (wG (dT c177)) (yneq e0 e0) ?_)))))))))))))
        exact yR rfl (pt_ (.bool r174) e0 (dT c177) (eqv hr38 e0)) (Rn QSn (j37 _ _ ⟨e36_1, e36_2, e36_7, e36_8, rfl, e36_30, e36_31, e36_32, e36_37, e36_38, e36_39, rfl, hst⟩))
       ·have hr39 := someI gr174
        refine dR [0, 0, 3, 7, 15, 15, 63, 127, 15, 15, 783, 1807, 4095, 8191] [] 0 folM ?_
        replace hst := hst.drew
        refine Dz [0, 1, 2, 3, 4, 5, 6, 7, 8, 9, 10, 11, 12, 13] [] (yR rfl (m_ (iV x173) e0) (yR rfl (m_ (iV x72) (eh e36_8)) (yR rfl (ylss e0 e0) (yR rfl (m_ (.bool (decide (x173 < x72))) e0) (Rx rfl rfl (wX (dF c177)) (Rx rfl rfl (wX (dF c177)) (Rx rfl rfl (wX (dF c177)) (Rx rfl rfl (wX (dF c177)) (Rx rfl rfl (wX (dF c177)) (Rx rfl rfl (wX (dF c177)) (Rx rfl rfl (wX (dF c177)) (Rx rfl rfl (wX (dF c177)) (Rx rfl rfl (wX (dF c177)) ?_)))))))))))))
        exact yR rfl (pf_ (.bool r174) e0 (dF c177) (eqv hr39 rfl)) (Rn QSn (j37 _ _ ⟨e36_1, e36_2, e36_7, e36_8, rfl, e36_30, e36_31, e36_32, e36_37, e36_38, e36_39, rfl, hst⟩))
      rintro f w ⟨e175_1, e175_2, e175_7, e175_8, e175_10, e175_30, e175_31, e175_32, e175_37, e175_38, e175_39, e175_57, hst⟩
      refine k88 _ _ ?_
      have j40 : ∀ (x183 : Int) (f : FV) (w : World), f 1 = h8.v → f 2 = (pB b9) → f 7 = iV x183 → f 8 = iV x72 → f 30 = h2.v → f 31 = iV (x1.length : Int) → f 32 = iV x72 → f 37 = h134.v → f 38 = iV (x133.length : Int) → f 39 = iV x152 → St w0 (imm I1 h134.v x133 :: ros) (box b9 28 [h2.v, h4.v, h6.v] :: rs) w → dissect_Cut_j40 x152 x183 = some r36_ → Q86 .normal (fr 71 f) w := by
       intro x183 f w ej40_1 ej40_2 ej40_7 ej40_8 ej40_30 ej40_31 ej40_32 ej40_37 ej40_38 ej40_39 hst hM
       refine qb86 _ _ _ (k85 _ _ (wR (yY (yadd (eh ej40_39) rfl) (Ym (iV (wa .i64 x152 1)) e0 (wN ?_)))))
       obtain rfl := someI hM
       exact n36 _ _ _ rfl ⟨_, _, _, rfl, rfl, ej40_1, ej40_2, ej40_7, ej40_8, ej40_30, ej40_31, ej40_32, ej40_37, ej40_38, rfl, hst⟩
      rcases iteS hM36 with ⟨c184, hM36⟩ | ⟨c184, hM36⟩
      ·refine condT (eh e175_57) c184 (wR (Ym (iV x151) (eh e175_7) (yY (yFb FL_28_2 (eh e175_2)) (yY (lb_ h6.v O_24 e0 hst R0) (Ym (iV x72) (eh e175_8) ?_)))))
       obtain ⟨x185, gx185, hM36⟩ := bs hM36
       refine yY (yIa SL_24 e0 e0 hst (rdI (mtF q3)) gx185) ?_
       obtain ⟨h186, hst⟩ := iLs hst (mtF q3) gx185
       refine yY (yCt O_22 e0 hst F1 rfl) (Ym (iV x152) (eh e175_10) ?_)
       obtain ⟨x187, gx187, hM36⟩ := bs hM36
       exact yY (yIa SL_22 e0 e0 hst (rdI F0) gx187) (yY (yI O_3 e0 hst (rdI F0) gx187) (yY (yadd e0 e0) (Ya (iV (wa .i64 x151 x187)) e0 (wN (j40 _ _ _ e175_1 e175_2 rfl e175_8 e175_30 e175_31 e175_32 e175_37 e175_38 e175_39 (hst.facts (allC F2 (allT (allT (allT allI))))) hM36)))))
      ·exact condF (eh e175_57) (bfalse c184) (wp_skip (j40 _ _ _ e175_1 e175_2 e175_7 e175_8 e175_30 e175_31 e175_32 e175_37 e175_38 e175_39 hst hM36))
     ·refine cF e0 c172 (wp_exit (z84 _ _ _ rfl ?_))
      obtain rfl := someI hM36
      exact zz36 _ _ _ _ rfl rfl (je36_0 _ _ _ e36_1 e36_2 e36_7 e36_30 e36_31 e36_32 (hst.facts (allT allI)) (ho36 _ rfl))
    ·refine cF e0 c132 (wp_exit (z65 _ _ _ rfl ?_))
     obtain rfl := someI hM27
     exact zz27 _ _ _ _ rfl rfl (je27_0 _ _ _ e27_7 (hst.pk 1 [] rfl) (ho27 _ rfl))
  ·refine condT e0 (nT (dF c12)) (sR fun _ k89 => Ya (iV 0) rfl (Ya (iV 2) rfl (wK k89 (wp_ret (qb4 _ _ _ (z3 _ _ _ rfl ?_))))))
   obtain rfl := someI hM
   exact hQ _ _ _ (fin2r Tryz.results21 ⟨rfl, rfl⟩ ⟨rfl, rfl⟩ ⟨rfl, (hst.pk 1 [] rfl)⟩)
 ·refine condT e0 (nT (dF c11)) (sR fun _ k90 => Ym (iV r10) e0 (Ya (iV 0) rfl (Ya (iV r10) e0 (wK k90 (wp_ret (qb4 _ _ _ (z3 _ _ _ rfl ?_)))))))
  obtain rfl := someI hM
  exact hQ _ _ _ (fin2r Tryz.results21 ⟨rfl, rfl⟩ ⟨rfl, rfl⟩ ⟨rfl, (hst.pk 1 [] rfl)⟩)
theorem sparseref18_Cut_ok {x1 : L2} {x3 : LI} {x5 : L2} {x7 : LI} {h2 h4 h6 h8 : Hdr} {out : Int × Int} (hM : sparseref18_Cut x1 x3 x5 x7 = some out) (q1 : imm S1 h2.v x1 ∈ ros) (q2 : imm I1 h4.v x3 ∈ ros) (q3 : imm S1 h6.v x5 ∈ ros) (q4 : imm I1 h8.v x7 ∈ ros) (hst : St w0 ros rs w) :
  Calls Tryz.prog 22 #[.agg #[h2.v, h4.v, h6.v], h8.v] w (fun e w => e = .returned (.tuple #[iV out.1, iV out.2]) ∧ St w0 ros rs w) := by
 refine enterQ Tryz.func22 rfl Tryz.ntmps22 rfl fun Q hQ => sR fun _ k1 => YB wn rfl (r_box (vals := [h2.v, h4.v, h6.v]) hst e0 rfl) ?_
 intro b9 w hst
 refine Ya (iV 0) rfl (Ya (iV 0) rfl (wK k1 (seqQ fun Q2 k2 z2 => sR fun _ k3 => yY (lbs_ [h2.v, h4.v, h6.v] ST_28 e0 hst R0) ?_)))
 obtain ⟨r10, gr10, hM⟩ := bs hM
 refine Yc wn rfl (yCall FN_24 (a1 e0)) (sparseref18_CheckWeighted_ok gr10 q1 q2 q3 hst) ?_
 rintro _ w ⟨rfl, hst⟩
 refine ⟨_, rfl, ?_⟩
 refine Ya (iV r10) e0 (wK k3 (sR fun _ k4 => Ym (iV r10) e0 (yY (yneq e0 rfl) (wK k4 ?_))))
 rcases iteS hM with ⟨c11, hM⟩ | ⟨c11, hM⟩
 ·refine condF e0 (nF (dT c11)) (wp_skip (k2 _ _ (seqQ fun Q5 k5 z5 => sR fun _ k6 => Ym h8.v e0 (yY (yLen SL_22 e0 hst (rdI q4)) (yY (yFb FL_28_1 e0) (yY (lb_ h4.v O_22 e0 hst R0) (yY (yLen SL_22 e0 hst (rdI q2)) (yY (yneq e0 e0) (wK k6 ?_)))))))))
  rcases iteS hM with ⟨c12, hM⟩ | ⟨c12, hM⟩
  ·refine condF e0 (nF (dT c12)) (wp_skip (k5 _ _ (sR fun _ k7 => Ya (iV 0) rfl (wK k7 (seqQ fun Q8 k8 z8 => sR fun _ k9 => Ya (iV 0) rfl (wK k9 ?_))))))
   refine blockQ fun Q10 qb10 => ?_
   obtain ⟨o3, go3, hM⟩ := bs hM
   have je3_0 : ∀ (f : FV) (w : World), f 1 = h8.v → f 2 = (pB b9) → f 7 = iV 0 → St w0 ros (box b9 28 [h2.v, h4.v, h6.v] :: rs) w → .inl () = o3 → Q10 (.exit 0) (fr 87 f) w := by
    intro f w eje3_0_1 eje3_0_2 eje3_0_7 hst ho
    subst ho
    refine qb10 _ _ _ (k8 _ _ (sQ fun _ k23 => sR fun _ k24 => Ya (iV 0) rfl (wK k24 (blockQ fun Q25 qb25 => ?_))))
    obtain ⟨o18, go18, hM⟩ := bs hM
    have je18_0 : ∀ (x185 : Int) (f : FV) (w : World), f 7 = iV x185 → St w0 ros rs w → x185 = o18 → Q25 (.exit 2) (fr 87 f) w := by
     intro x185 f w eje18_0_7 hst ho
     subst ho
     refine qb25 _ _ _ (k23 _ _ (sR fun _ k68 => Ym (iV x185) (eh eje18_0_7) (Ya (iV x185) e0 (Ya (iV 0) rfl (wK k68 (wp_ret ?_))))))
     obtain rfl := someI hM
     exact hQ _ _ _ (fin2r Tryz.results22 ⟨rfl, rfl⟩ ⟨rfl, rfl⟩ ⟨rfl, hst⟩)
    refine loopQ (fun s a w => ∃ (x106 x107 : Int) (f : FV), (x106, x107) = s ∧ a = fr 87 f ∧ f 1 = h8.v ∧ f 2 = (pB b9) ∧ f 7 = iV x106 ∧ f 9 = iV x107 ∧ St w0 ros (box b9 28 [h2.v, h4.v, h6.v] :: rs) w) go18 ⟨_, _, _, rfl, rfl, eje3_0_1, eje3_0_2, eje3_0_7, rfl, hst⟩ ?_
    rintro _ _ w r18_ ⟨x106, x107, f, rfl, rfl, e18_1, e18_2, e18_7, e18_9, hst⟩ hM18 ho18 Q100018 n18 zz18
    refine seqQ fun Q69 k69 z69 => sR fun _ k70 => Ym (iV x107) (eh e18_9) (Ym h8.v (eh e18_1) (yY (yLen SL_22 e0 hst (rdI q4)) (yY (ylss e0 e0) (wK k70 ?_))))
    rcases iteS hM18 with ⟨c186, hM18⟩ | ⟨c186, hM18⟩
    ·refine cT e0 c186 (wp_skip (k69 _ _ (sQ fun _ k71 => blockQ fun _ qb72 => sR fun _ k73 => Ya (iV 0) rfl (wK k73 (blockQ fun Q74 qb74 => ?_)))))
     obtain ⟨o23, go23, hM18⟩ := bs hM18
     have je23_0 : ∀ (x237 : Int) (f : FV) (w : World), f 1 = h8.v → f 2 = (pB b9) → f 7 = iV x237 → f 9 = iV x107 → St w0 ros (box b9 28 [h2.v, h4.v, h6.v] :: rs) w → x237 = o23 → Q74 (.exit 4) (fr 87 f) w := by
      intro x237 f w eje23_0_1 eje23_0_2 eje23_0_7 eje23_0_9 hst ho
      subst ho
      refine qb74 _ _ _ (qb72 _ _ _ (k71 _ _ (wR (Ym (iV x107) (eh eje23_0_9) (yY (yadd e0 rfl) (Ya (iV (wa .i64 x107 1)) e0 (wN ?_)))))))
      obtain rfl := someI hM18
      exact n18 _ _ _ rfl ⟨_, _, _, rfl, rfl, eje23_0_1, eje23_0_2, eje23_0_7, rfl, hst⟩
     refine loopQ (fun s a w => ∃ (x210 x211 : Int) (f : FV), (x210, x211) = s ∧ a = fr 87 f ∧ f 1 = h8.v ∧ f 2 = (pB b9) ∧ f 7 = iV x210 ∧ f 9 = iV x107 ∧ f 10 = iV x211 ∧ St w0 ros (box b9 28 [h2.v, h4.v, h6.v] :: rs) w) go23 ⟨_, _, _, rfl, rfl, e18_1, e18_2, e18_7, e18_9, rfl, hst⟩ ?_
     rintro _ _ w r23_ ⟨x210, x211, f, rfl, rfl, e23_1, e23_2, e23_7, e23_9, e23_10, hst⟩ hM23 ho23 Q100023 n23 zz23
     refine seqQ fun Q85 k85 z85 => sR fun _ k86 => Ym (iV x211) (eh e23_10) (yY (yFb FL_28_2 (eh e23_2)) (yY (lb_ h6.v O_24 e0 hst R0) (Ym (iV x107) (eh e23_9) ?_)))
     obtain ⟨x238, gx238, hM23⟩ := bs hM23
     refine yY (yIa SL_24 e0 e0 hst (rdI q3) gx238) ?_
     obtain ⟨h239, hst⟩ := iLs hst q3 gx238
     refine yY (yCt O_22 e0 hst F1 rfl) (yY (yLen SL_22 e0 hst (rdI F0)) (yY (ylss e0 e0) (wK k86 ?_)))
     rcases iteS hM23 with ⟨c240, hM23⟩ | ⟨c240, hM23⟩
     ·refine cT e0 c240 (wp_skip (k85 _ _ (sQ fun _ k87 => blockQ fun Q88 qb88 => sR fun _ k89 => Ym h8.v (eh e23_1) (Ym (iV x107) (eh e23_9) ?_))))
      obtain ⟨x241, gx241, hM23⟩ := bs hM23
      refine yY (yIa SL_22 e0 e0 hst (rdI (F_2 q4)) gx241) (yY (yI O_3 e0 hst (rdI (F_2 q4)) gx241) (yY (yeql e0 rfl) (Ym (.bool (decide (x241 = 0))) e0 ?_)))
      obtain ⟨r246, gr246, hM23⟩ := bs hM23
      refine joinW 14 (fun f w => f 1 = h8.v ∧ f 2 = (pB b9) ∧ f 7 = iV x210 ∧ f 9 = iV x107 ∧ f 10 = iV x211 ∧ f 75 = .bool r246 ∧ St w0 ros (box b9 28 [h2.v, h4.v, h6.v] :: rs) w) (fun j24 => ?_) ?_
      ·rcases iteS gr246 with ⟨c248, gr246⟩ | ⟨c248, gr246⟩
       ·refine yG (dT c248) (m_ h8.v (eh e23_1)) (yG (dT c248) (yFb FL_28_0 (eh e23_2)) (yG (dT c248) (yFb FL_26_0 e0) (yG (dT c248) (lb_ h2.v O_24 e0 hst R0) (yG (dT c248) (m_ (iV x107) (eh e23_9)) ?_))))
        obtain ⟨x249, gx249, gr246⟩ := bs gr246
        refine yG (dT c248) (yIa SL_24 e0 e0 hst (rdI (F_2 q1)) gx249) ?_
        obtain ⟨h250, hst⟩ := iLs hst (F_2 q1) gx249
        refine yG (dT c248) (yCt O_22 e0 hst F1 rfl) (yG (dT c248) (m_ (iV x211) (eh e23_10)) ?_)
        obtain ⟨x251, gx251, gr246⟩ := bs gr246
        refine yG (dT c248) (yIa SL_22 e0 e0 hst (rdI F0) gx251) (yG (dT c248) (yI O_3 e0 hst (rdI F0) gx251) ?_)
        obtain ⟨x252, gx252, gr246⟩ := bs gr246
        refine yG (dT c248) (yIa SL_22 e0 e0 hst (rdI (F_4 q4)) gx252) (yG (dT c248) (yI O_3 e0 hst (rdI (F_4 q4)) gx252) (yG (dT c248) (yeql e0 rfl) (yY (pt_ (.bool (decide (x252 = 1))) e0 (dT c248) e0) ?_)))
        obtain rfl := someI gr246
        exact j24 _ _ ⟨e23_1, e23_2, e23_7, e23_9, e23_10, rfl, (hst.facts (allT (allT (allT (allT allI)))))⟩
       ·refine gN (dF c248) (gN (dF c248) (gN (dF c248) (gN (dF c248) (gN (dF c248) (gN (dF c248) (gN (dF c248) (gN (dF c248) (gN (dF c248) (gN (dF c248) (gN (dF c248) (gN (dF c248) (gN (dF c248) (yY (pf_ (.bool false) e0 (dF c248) rfl) ?_)))))))))))))
        obtain rfl := someI gr246
        exact j24 _ _ ⟨e23_1, e23_2, e23_7, e23_9, e23_10, rfl, (hst.facts (allT (allT allI)))⟩
      rintro f w ⟨e247_1, e247_2, e247_7, e247_9, e247_10, e247_75, hst⟩
      refine wK k89 ?_
      have j25 : ∀ (x256 : Int) (f : FV) (w : World), f 1 = h8.v → f 2 = (pB b9) → f 7 = iV x256 → f 9 = iV x107 → f 10 = iV x211 → St w0 ros (box b9 28 [h2.v, h4.v, h6.v] :: rs) w → sparseref18_Cut_j25 x211 x256 = some r23_ → Q88 .normal (fr 87 f) w := by
       intro x256 f w ej25_1 ej25_2 ej25_7 ej25_9 ej25_10 hst hM
       refine qb88 _ _ _ (k87 _ _ (wR (Ym (iV x211) (eh ej25_10) (yY (yadd e0 rfl) (Ya (iV (wa .i64 x211 1)) e0 (wN ?_))))))
       obtain rfl := someI hM
       exact n23 _ _ _ rfl ⟨_, _, _, rfl, rfl, ej25_1, ej25_2, ej25_7, ej25_9, rfl, hst⟩
      rcases iteS hM23 with ⟨c257, hM23⟩ | ⟨c257, hM23⟩
      ·refine condT (eh e247_75) c257 (wR (Ym (iV x210) (eh e247_7) (yY (yFb FL_28_2 (eh e247_2)) (yY (lb_ h6.v O_24 e0 hst R0) (Ym (iV x107) (eh e247_9) ?_)))))
       obtain ⟨x258, gx258, hM23⟩ := bs hM23
       refine yY (yIa SL_24 e0 e0 hst (rdI q3) gx258) ?_
       obtain ⟨h259, hst⟩ := iLs hst q3 gx258
       refine yY (yCt O_22 e0 hst F1 rfl) (Ym (iV x211) (eh e247_10) ?_)
       obtain ⟨x260, gx260, hM23⟩ := bs hM23
       exact yY (yIa SL_22 e0 e0 hst (rdI F0) gx260) (yY (yI O_3 e0 hst (rdI F0) gx260) (yY (yadd e0 e0) (Ya (iV (wa .i64 x210 x260)) e0 (wN (j25 _ _ _ e247_1 e247_2 rfl e247_9 e247_10 (hst.facts (allT (allT allI))) hM23)))))
      ·exact condF (eh e247_75) (bfalse c257) (wp_skip (j25 _ _ _ e247_1 e247_2 e247_7 e247_9 e247_10 hst hM23))
     ·refine cF e0 c240 (wp_exit (z85 _ _ _ rfl ?_))
      obtain rfl := someI hM23
      exact zz23 _ _ _ _ rfl rfl (je23_0 _ _ _ e23_1 e23_2 e23_7 e23_9 (hst.facts (allT (allT allI))) (ho23 _ rfl))
    ·refine cF e0 c186 (wp_exit (z69 _ _ _ rfl ?_))
     obtain rfl := someI hM18
     exact zz18 _ _ _ _ rfl rfl (je18_0 _ _ _ e18_7 (hst.pk 1 [] rfl) (ho18 _ rfl))
   have je3_1 : ∀ (f : FV) (w : World), f 4 = iV 0 → f 5 = iV 1 → St w0 ros rs w → .inr () = o3 → Q10 .ret (fr 87 f) w := by
    intro f w eje3_1_4 eje3_1_5 hst ho
    subst ho
    refine qb10 _ _ _ (z8 _ _ _ rfl ?_)
    obtain rfl := someI hM
    exact hQ _ _ _ (fin2r Tryz.results22 ⟨rfl, eje3_1_4⟩ ⟨rfl, eje3_1_5⟩ ⟨rfl, hst⟩)
   refine loopQ (fun s a w => ∃ (x21 : Int) (f : FV), x21 = s ∧ a = fr 87 f ∧ f 1 = h8.v ∧ f 2 = (pB b9) ∧ f 7 = iV 0 ∧ f 8 = iV x21 ∧ St w0 ros (box b9 28 [h2.v, h4.v, h6.v] :: rs) w) go3 ⟨_, _, rfl, rfl, rfl, rfl, rfl, rfl, hst⟩ ?_
   rintro _ _ w r3_ ⟨x21, f, rfl, rfl, e3_1, e3_2, e3_7, e3_8, hst⟩ hM3 ho3 Q100003 n3 zz3
   refine seqQ fun Q90 k90 z90 => sR fun _ k91 => Ym (iV x21) (eh e3_8) (Ym h8.v (eh e3_1) (yY (yLen SL_22 e0 hst (rdI q4)) (yY (ylss e0 e0) (wK k91 ?_))))
   rcases iteS hM3 with ⟨c261, hM3⟩ | ⟨c261, hM3⟩
   ·refine cT e0 c261 (wp_skip (k90 _ _ (seqQ fun Q92 k92 z92 => blockQ fun _ qb93 => sR fun _ k94 => Ym h8.v (eh e3_1) (Ym (iV x21) (eh e3_8) ?_))))
    obtain ⟨x262, gx262, hM3⟩ := bs hM3
    refine yY (yIa SL_22 e0 e0 hst (rdI q4) gx262) (yY (yI O_3 e0 hst (rdI q4) gx262) (yY (yneq e0 rfl) (Ym (.bool (!(decide (x262 = 0)))) e0 ?_)))
    obtain ⟨r264, gr264, hM3⟩ := bs hM3
    refine joinW 6 (fun f w => f 1 = h8.v ∧ f 2 = (pB b9) ∧ f 7 = iV 0 ∧ f 8 = iV x21 ∧ f 39 = .bool r264 ∧ St w0 ros (box b9 28 [h2.v, h4.v, h6.v] :: rs) w) (fun j26 => ?_) ?_
    ·rcases iteS gr264 with ⟨c266, gr264⟩ | ⟨c266, gr264⟩
     ·refine gN (nF (dT c266)) (gN (nF (dT c266)) (gN (nF (dT c266)) (gN (nF (dT c266)) (gN (nF (dT c266)) (yY (pf_ (.bool false) e0 (nF (dT c266)) rfl) ?_)))))
      obtain rfl := someI gr264
      exact j26 _ _ ⟨e3_1, e3_2, e3_7, e3_8, rfl, hst⟩
     ·refine yG (nT (dF c266)) (m_ h8.v (eh e3_1)) (yG (nT (dF c266)) (m_ (iV x21) (eh e3_8)) ?_)
      obtain ⟨x267, gx267, gr264⟩ := bs gr264
      refine yG (nT (dF c266)) (yIa SL_22 e0 e0 hst (rdI q4) gx267) (yG (nT (dF c266)) (yI O_3 e0 hst (rdI q4) gx267) (yG (nT (dF c266)) (yneq e0 rfl) (yY (pt_ (.bool (!(decide (x267 = 1)))) e0 (nT (dF c266)) e0) ?_)))
      obtain rfl := someI gr264
      exact j26 _ _ ⟨e3_1, e3_2, e3_7, e3_8, rfl, hst⟩
    rintro f w ⟨e265_1, e265_2, e265_7, e265_8, e265_39, hst⟩
    refine wK k94 ?_
    rcases iteS hM3 with ⟨c268, hM3⟩ | ⟨c268, hM3⟩
    ·refine condT (eh e265_39) c268 (sR fun _ k95 => Ya (iV 0) rfl (Ya (iV 1) rfl (wK k95 (wp_ret (qb93 _ _ _ (z92 _ _ _ rfl ?_))))))
     obtain rfl := someI hM3
     exact zz3 _ _ _ _ rfl rfl (je3_1 _ _ rfl rfl (hst.pk 1 [] rfl) (ho3 _ rfl))
    ·refine condF (eh e265_39) (bfalse c268) (wp_skip (qb93 _ _ _ (k92 _ _ (wR (Ym (iV x21) (eh e265_8) (yY (yadd e0 rfl) (Ya (iV (wa .i64 x21 1)) e0 (wN ?_))))))))
     obtain rfl := someI hM3
     exact n3 _ _ _ rfl ⟨_, _, rfl, rfl, e265_1, e265_2, e265_7, rfl, hst⟩
   ·refine cF e0 c261 (wp_exit (z90 _ _ _ rfl ?_))
    obtain rfl := someI hM3
    exact zz3 _ _ _ _ rfl rfl (je3_0 _ _ e3_1 e3_2 e3_7 hst (ho3 _ rfl))
  ·refine condT e0 (nT (dF c12)) (sR fun _ k96 => Ya (iV 0) rfl (Ya (iV 2) rfl (wK k96 (wp_ret (z5 _ _ _ rfl ?_)))))
   obtain rfl := someI hM
   exact hQ _ _ _ (fin2r Tryz.results22 ⟨rfl, rfl⟩ ⟨rfl, rfl⟩ ⟨rfl, (hst.pk 1 [] rfl)⟩)
 ·refine condT e0 (nT (dF c11)) (sR fun _ k97 => Ym (iV r10) e0 (Ya (iV 0) rfl (Ya (iV r10) e0 (wK k97 (wp_ret (z2 _ _ _ rfl ?_))))))
  obtain rfl := someI hM
  exact hQ _ _ _ (fin2r Tryz.results22 ⟨rfl, rfl⟩ ⟨rfl, rfl⟩ ⟨rfl, (hst.pk 1 [] rfl)⟩)
theorem sparsekit_Lists_ok {x1 x3 : L2} {h2 h4 : Hdr} {out : Bool} (hM : sparsekit_Lists x1 x3 = some out) (q1 : imm S1 h2.v x1 ∈ ros) (q2 : imm S1 h4.v x3 ∈ ros) (hst : St w0 ros rs w) :
  Calls Tryz.prog 46 #[h2.v, h4.v] w (fun e w => e = .returned (.bool out) ∧ St w0 ros rs w) := by
 refine enterQ Tryz.func46 rfl Tryz.ntmps46 rfl fun Q hQ => sR fun _ k1 => Ya (.bool false) rfl (wK k1 (seqQ fun Q2 k2 z2 => sR fun _ k3 => Ym h2.v e0 (yY (yLen SL_24 e0 hst (rdI q1)) (Ym h4.v e0 (yY (yLen SL_24 e0 hst (rdI q2)) (yY (yneq e0 e0) ?_))))))
 refine wK k3 ?_
 rcases iteS hM with ⟨c5, hM⟩ | ⟨c5, hM⟩
 ·refine condF e0 (nF (dT c5)) (wp_skip (k2 _ _ (seqQ fun Q4 k4 z4 => sR fun _ k5 => Ya (iV 0) rfl (wK k5 (blockQ fun Q6 qb6 => ?_)))))
  obtain ⟨o1, go1, hM⟩ := bs hM
  have je1_0 : ∀ (f : FV) (w : World), St w0 ros rs w → .inl () = o1 → Q6 (.exit 0) (fr 27 f) w := by
   intro f w hst ho
   subst ho
   refine qb6 _ _ _ (k4 _ _ (sR fun _ k19 => Ya (.bool true) rfl (wK k19 (wp_ret ?_))))
   obtain rfl := someI hM
   exact hQ _ _ _ (fin1r Tryz.results46 ⟨rfl, rfl⟩ ⟨rfl, hst⟩)
  have je1_1 : ∀ (f : FV) (w : World), f 4 = .bool false → St w0 ros rs w → .inr () = o1 → Q6 .ret (fr 27 f) w := by
   intro f w eje1_1_4 hst ho
   subst ho
   refine qb6 _ _ _ (z4 _ _ _ rfl ?_)
   obtain rfl := someI hM
   exact hQ _ _ _ (fin1r Tryz.results46 ⟨rfl, eje1_1_4⟩ ⟨rfl, hst⟩)
  refine loopQ (fun s a w => ∃ (x13 : Int) (f : FV), x13 = s ∧ a = fr 27 f ∧ f 0 = h2.v ∧ f 1 = h4.v ∧ f 5 = iV x13 ∧ St w0 ros rs w) go1 ⟨_, _, rfl, rfl, rfl, rfl, rfl, hst⟩ ?_
  rintro _ _ w r1_ ⟨x13, f, rfl, rfl, e1_0, e1_1, e1_5, hst⟩ hM1 ho1 Q100001 n1 zz1
  refine seqQ fun Q20 k20 z20 => sR fun _ k21 => Ym (iV x13) (eh e1_5) (Ym h2.v (eh e1_0) (yY (yLen SL_24 e0 hst (rdI q1)) (yY (ylss e0 e0) (wK k21 ?_))))
  rcases iteS hM1 with ⟨c22, hM1⟩ | ⟨c22, hM1⟩
  ·refine cT e0 c22 (wp_skip (k20 _ _ (seqQ fun Q22 k22 z22 => blockQ fun _ qb23 => sQ fun _ k24 => ?_)))
   obtain ⟨x23, gx23, hM1⟩ := bs hM1
   obtain ⟨x25, gx25, hM1⟩ := bs hM1
   obtain ⟨r27, gr27, hM1⟩ := bs hM1
   refine dR [0, 0, 3, 7, 0, 0, 48, 112, 255, 511] [8] 1 folM ?_
   replace hst := hst.drew
   refine Dn [0, 1, 2, 3, 4, 5, 6, 7] [] [8] (yR rfl (m_ h2.v (eh e1_0)) (yR rfl (m_ (iV x13) (eh e1_5)) (yR rfl (yIa SL_24 e0 e0 hst (rdI q1) gx23) ?_)))
   obtain ⟨h24, hst⟩ := iLs hst q1 gx23
   refine yR rfl (yCt O_22 e0 hst F1 rfl) (yR rfl (m_ h4.v (eh e1_1)) (yR rfl (m_ (iV x13) (eh e1_5)) (yR rfl (yIa SL_24 e0 e0 hst (rdI (F_2 q2)) gx25) ?_)))
   obtain ⟨h26, hst⟩ := iLs hst (F_2 q2) gx25
   refine yR rfl (yCt O_22 e0 hst F1 rfl) (Rn QSn ?_)
   refine Lc1 rfl ?_
   refine Lk wn (yCall FN_13 (a2 e0 e0)) (sparsekit_Ints_ok gr27 F2 F0 hst) ?_
   rintro _ w ⟨rfl, hst⟩
   refine ⟨_, rfl, ?_⟩
   refine Dz [9] [] (yR rfl (ynot e0) (Rn QSn (k24 _ _ ?_)))
   rcases iteS hM1 with ⟨c28, hM1⟩ | ⟨c28, hM1⟩
   ·refine condF e0 (nF c28) (wp_skip (qb23 _ _ _ (k22 _ _ (wR (Ym (iV x13) (eh e1_5) (yY (yadd e0 rfl) (Ya (iV (wa .i64 x13 1)) e0 (wN ?_))))))))
    obtain rfl := someI hM1
    exact n1 _ _ _ rfl ⟨_, _, rfl, rfl, e1_0, e1_1, rfl, (hst.facts (allT (allT (allT (allT allI)))))⟩
   ·refine condT e0 (nT (bfalse c28)) (sR fun _ k25 => Ya (.bool false) rfl (wK k25 (wp_ret (qb23 _ _ _ (z22 _ _ _ rfl ?_)))))
    obtain rfl := someI hM1
    exact zz1 _ _ _ _ rfl rfl (je1_1 _ _ rfl (hst.facts (allT (allT (allT (allT allI))))) (ho1 _ rfl))
  ·refine cF e0 c22 (wp_exit (z20 _ _ _ rfl ?_))
   obtain rfl := someI hM1
   exact zz1 _ _ _ _ rfl rfl (je1_0 _ _ hst (ho1 _ rfl))
 ·refine condT e0 (nT (dF c5)) (sR fun _ k26 => Ya (.bool false) rfl (wK k26 (wp_ret (z2 _ _ _ rfl ?_))))
  obtain rfl := someI hM
  exact hQ _ _ _ (fin1r Tryz.results46 ⟨rfl, rfl⟩ ⟨rfl, hst⟩)
theorem sparsekit_Graph_ok {x1 x3 : L2} {h2 h4 : Hdr} {out : Bool} (hM : sparsekit_Graph x1 x3 = some out) (q1 : imm S1 h2.v x1 ∈ ros) (q2 : imm S1 h4.v x3 ∈ ros) (hst : St w0 ros rs w) :
  Calls Tryz.prog 34 #[.agg #[h2.v], .agg #[h4.v]] w (fun e w => e = .returned (.bool out) ∧ St w0 ros rs w) := by
 refine enterQ Tryz.func34 rfl Tryz.ntmps34 rfl fun Q hQ => sR fun _ k1 => YB wn rfl (r_box (vals := [h2.v]) hst e0 rfl) ?_
 intro b5 w hst
 refine YB wn rfl (r_box (vals := [h4.v]) hst e0 rfl) ?_
 intro b6 w hst
 refine Ya (.bool false) rfl (wK k1 (sR fun _ k2 => yY (yFb FL_26_0 e0) (yY (lb_ h2.v O_24 e0 hst R1) (yY (yFb FL_26_0 e0) (yY (lb_ h4.v O_24 e0 hst R0) ?_)))))
 obtain ⟨r7, gr7, hM⟩ := bs hM
 refine Yc wn rfl (yCall FN_46 (a2 e0 e0)) (sparsekit_Lists_ok gr7 q1 q2 hst) ?_
 rintro _ w ⟨rfl, hst⟩
 refine ⟨_, rfl, ?_⟩
 refine Ya (.bool r7) e0 (wK k2 (wp_ret ?_))
 obtain rfl := someI hM
 exact hQ _ _ _ (fin1r Tryz.results34 ⟨rfl, rfl⟩ ⟨rfl, (hst.pk 2 [] rfl)⟩)
theorem sparsekit_Weighted_ok {x1 : L2} {x3 : LI} {x5 x7 : L2} {x9 : LI} {x11 : L2} {h2 h4 h6 h8 h10 h12 : Hdr} {out : Bool} (hM : sparsekit_Weighted x1 x3 x5 x7 x9 x11 = some out) (q1 : imm S1 h2.v x1 ∈ ros) (q2 : imm I1 h4.v x3 ∈ ros) (q3 : imm S1 h6.v x5 ∈ ros) (q4 : imm S1 h8.v x7 ∈ ros) (q5 : imm I1 h10.v x9 ∈ ros) (q6 : imm S1 h12.v x11 ∈ ros) (hst : St w0 ros rs w) :
  Calls Tryz.prog 18 #[.agg #[h2.v, h4.v, h6.v], .agg #[h8.v, h10.v, h12.v]] w (fun e w => e = .returned (.bool out) ∧ St w0 ros rs w) := by
 refine enterQ Tryz.func18 rfl Tryz.ntmps18 rfl fun Q hQ => sR fun _ k1 => YB wn rfl (r_box (vals := [h2.v, h4.v, h6.v]) hst e0 rfl) ?_
 intro b13 w hst
 refine YB wn rfl (r_box (vals := [h8.v, h10.v, h12.v]) hst e0 rfl) ?_
 intro b14 w hst
 refine Ya (.bool false) rfl (wK k1 (sR fun _ k2 => yY (yFb FL_28_0 e0) (yY (lbs_ [h2.v] ST_26 e0 hst R1) (yY (yFb FL_28_0 e0) (yY (lbs_ [h8.v] ST_26 e0 hst R0) ?_)))))
 obtain ⟨r15, gr15, hM⟩ := bs hM
 refine Yc wn rfl (yCall FN_34 (a2 e0 e0)) (sparsekit_Graph_ok gr15 q1 q4 hst) ?_
 rintro _ w ⟨rfl, hst⟩
 refine ⟨_, rfl, ?_⟩
 refine Ym (.bool r15) e0 ?_
 obtain ⟨r17, gr17, hM⟩ := bs hM
 refine joinW 6 (fun f w => f 2 = (pB b13) ∧ f 3 = (pB b14) ∧ f 16 = .bool r17 ∧ St w0 ros (box b13 28 [h2.v, h4.v, h6.v] :: box b14 28 [h8.v, h10.v, h12.v] :: rs) w) (fun j1 => ?_) ?_
 ·rcases iteS gr17 with ⟨c19, gr17⟩ | ⟨c19, gr17⟩
  ·refine yG c19 (yFb FL_28_1 e0) (yG c19 (lb_ h4.v O_22 e0 hst R1) (yG c19 (yFb FL_28_1 e0) (yG c19 (lb_ h10.v O_22 e0 hst R0) ?_)))
   obtain ⟨r20, gr20, gr17⟩ := bs gr17
   refine Yc (wG c19) rfl (yCall FN_13 (a2 e0 e0)) (sparsekit_Ints_ok gr20 q2 q5 hst) ?_
   rintro _ w ⟨rfl, hst⟩
   refine ⟨_, rfl, ?_⟩
   refine yY (pt_ (.bool r20) e0 c19 e0) ?_
   obtain rfl := someI gr17
   exact j1 _ _ ⟨rfl, rfl, rfl, (hst.pk 2 [1, 0] rfl)⟩
  ·refine gN (bfalse c19) (gN (bfalse c19) (gN (bfalse c19) (gN (bfalse c19) (gN (bfalse c19) (yY (pf_ (.bool false) e0 (bfalse c19) rfl) ?_)))))
   obtain rfl := someI gr17
   exact j1 _ _ ⟨rfl, rfl, rfl, (hst.pk 2 [1, 0] rfl)⟩
 rintro f w ⟨e18_2, e18_3, e18_16, hst⟩
 refine Ym (.bool r17) (eh e18_16) ?_
 obtain ⟨r22, gr22, hM⟩ := bs hM
 refine joinW 6 (fun f w => f 23 = .bool r22 ∧ St w0 ros rs w) (fun j2 => ?_) ?_
 ·rcases iteS gr22 with ⟨c24, gr22⟩ | ⟨c24, gr22⟩
  ·refine yG c24 (yFb FL_28_2 (eh e18_2)) (yG c24 (lb_ h6.v O_24 e0 hst R0) (yG c24 (yFb FL_28_2 (eh e18_3)) (yG c24 (lb_ h12.v O_24 e0 hst R1) ?_)))
   obtain ⟨r25, gr25, gr22⟩ := bs gr22
   refine Yc (wG c24) rfl (yCall FN_46 (a2 e0 e0)) (sparsekit_Lists_ok gr25 q3 q6 hst) ?_
   rintro _ w ⟨rfl, hst⟩
   refine ⟨_, rfl, ?_⟩
   refine yY (pt_ (.bool r25) e0 c24 e0) ?_
   obtain rfl := someI gr22
   exact j2 _ _ ⟨rfl, (hst.pk 2 [] rfl)⟩
  ·refine gN (bfalse c24) (gN (bfalse c24) (gN (bfalse c24) (gN (bfalse c24) (gN (bfalse c24) (yY (pf_ (.bool false) e0 (bfalse c24) rfl) ?_)))))
   obtain rfl := someI gr22
   exact j2 _ _ ⟨rfl, (hst.pk 2 [] rfl)⟩
 rintro f w ⟨e23_23, hst⟩
 refine Ya (.bool r22) (eh e23_23) (wK k2 (wp_ret ?_))
 obtain rfl := someI hM
 exact hQ _ _ _ (fin1r Tryz.results18 ⟨rfl, rfl⟩ ⟨rfl, hst⟩)
theorem sparselaw18_DissectWeighted_ok {x1 : L2} {x3 : LI} {x5 : L2} {x7 : LI} {h2 h4 h6 h8 : Hdr} {out : Bool} (hM : sparselaw18_DissectWeighted x1 x3 x5 x7 = some out) (hT : out = true) (q1 : imm S1 h2.v x1 ∈ ros) (q2 : imm I1 h4.v x3 ∈ ros) (q3 : imm S1 h6.v x5 ∈ ros) (q4 : imm I1 h8.v x7 ∈ ros) (hst : St w0 ros rs w) :
  Calls Tryz.prog 4 #[.agg #[h2.v, h4.v, h6.v], h8.v] w (fun e w => e = .returned (.bool out) ∧ St w0 ros rs w) := by
 refine enterQ Tryz.func4 rfl Tryz.ntmps4 rfl fun Q hQ => sR fun _ k1 => YB wn rfl (r_box (vals := [h2.v, h4.v, h6.v]) hst e0 rfl) ?_
 intro b9 w hst
 refine Ya (.bool false) rfl (wK k1 (seqQ fun Q2 k2 z2 => sR fun _ k3 => yY (lbs_ [h2.v, h4.v, h6.v] ST_28 e0 hst R0) ?_))
 obtain ⟨r10, gr10, hM⟩ := bs hM
 refine Yc wn rfl (yCall FN_19 (a1 e0)) (sparselaw18_small_ok gr10 q1 q2 q3 hst) ?_
 rintro _ w ⟨rfl, hst⟩
 refine ⟨_, rfl, ?_⟩
 refine yY (ynot e0) (Ym (.bool (!r10)) e0 ?_)
 refine joinW 4 (fun f w => f 1 = h8.v ∧ f 2 = (pB b9) ∧ f 31 = .bool ((!r10) || (decide ((20 : Int) < (x7.length : Int)))) ∧ St w0 ros (box b9 28 [h2.v, h4.v, h6.v] :: rs) w) (fun j1 => ?_) ?_
 ·rcases Bool.eq_false_or_eq_true (!r10) with c12 | c12
  ·exact gN c12 (gN c12 (gN c12 (yY (pt_ (.bool true) e0 c12 rfl) (j1 _ _ ⟨rfl, rfl, (congrArg Value.bool (orT c12)), hst⟩))))
  ·exact yG c12 (m_ h8.v e0) (yG c12 (yLen SL_22 e0 hst (rdI q4)) (yG c12 (ygtr e0 rfl) (yY (pf_ (.bool (decide ((20 : Int) < (x7.length : Int)))) e0 c12 e0) (j1 _ _ ⟨rfl, rfl, (congrArg Value.bool (orF c12)), hst⟩))))
 rintro f w ⟨e11_1, e11_2, e11_31, hst⟩
 refine wK k3 ?_
 rcases iteS hM with ⟨c13, hM⟩ | ⟨c13, hM⟩
 ·refine condT (eh e11_31) c13 (sR fun _ k4 => ?_)
  obtain ⟨r14, gr14, hM⟩ := bs hM
  refine Yc wn rfl (yCall FN_8 a0) (sparselaw18_awake_ok gr14 hst) ?_
  rintro _ w ⟨rfl, hst⟩
  refine ⟨_, rfl, ?_⟩
  refine Ya (.bool r14) e0 (wK k4 (wp_ret (z2 _ _ _ rfl ?_)))
  obtain rfl := someI hM
  exact hQ _ _ _ (fin1r Tryz.results4 ⟨rfl, rfl⟩ ⟨rfl, (hst.pk 1 [] rfl)⟩)
 ·refine condF (eh e11_31) (bfalse c13) (wp_skip (k2 _ _ (sR fun _ k5 => yY (lbs_ [h2.v, h4.v, h6.v] ST_28 (eh e11_2) hst R0) ?_)))
  obtain ⟨r15, gr15, hM⟩ := bs hM
  refine Yc wn rfl (yCall FN_20 (a1 e0)) (sparsekit_TwinWeighted_ok gr15 q1 q2 q3 hst) ?_
  rintro _ w ⟨h16, h17, h18, rfl, hst⟩
  refine ⟨_, rfl, ?_⟩
  refine YB wn rfl (rAl hst ZT_28) ?_
  intro b19 w hst
  refine YT wn rfl (r_stbn (vals' := [h16.v, h17.v, h18.v]) (us := [h16.v, h17.v, h18.v]) hst ST_28 e0 e0 rfl rfl (one_of rfl) rfl) ?_
  intro w hst
  refine wK k5 (sR fun _ k6 => yY (lbs_ [h16.v, h17.v, h18.v] ST_28 e0 hst R0) ?_)
  obtain ⟨r20, gr20, hM⟩ := bs hM
  replace hst := hst.pk 2 [1, 0] rfl
  replace hst := hst.fz
  replace hst := hst.pk 2 [1, 0] rfl
  replace hst := hst.fz
  replace hst := hst.pk 2 [1, 0] rfl
  replace hst := hst.fz
  refine Yc wn rfl (yCall FN_11 (a1 e0)) (dissect_Match_ok gr20 F2 F1 F0 hst) ?_
  rintro _ w ⟨h21, rfl, hst⟩
  refine ⟨_, rfl, ?_⟩
  refine Ym (.tuple #[h21.v, iV r20.2]) e0 (yY (x_ h21.v e0) (yY (x_ (iV r20.2) e0) (Ya h21.v e0 (Ya (iV r20.2) e0 (wK k6 (sR fun _ k7 => yY (lbs_ [h2.v, h4.v, h6.v] ST_28 (eh e11_2) hst R2) ?_))))))
  obtain ⟨r22, gr22, hM⟩ := bs hM
  refine Yc wn rfl (yCall FN_12 (a1 e0)) (sparseref18_Match_ok gr22 (F_3 q1) (F_3 q2) (F_3 q3) hst) ?_
  rintro _ w ⟨h23, rfl, hst⟩
  refine ⟨_, rfl, ?_⟩
  refine Ym (.tuple #[h23.v, iV r22.2]) e0 (yY (x_ h23.v e0) (yY (x_ (iV r22.2) e0) (Ya h23.v e0 (Ya (iV r22.2) e0 (wK k7 (sR fun _ k8 => yY (lbs_ [h16.v, h17.v, h18.v] ST_28 e0 hst R2) (Ym h8.v (eh e11_1) ?_)))))))
  obtain ⟨r24, gr24, hM⟩ := bs hM
  refine Yc wn rfl (yCall FN_14 (a2 e0 e0)) (dissect_Coarsen_ok gr24 F2 F1 F0 (F_3 q4) hst) ?_
  rintro _ w ⟨h25, y26, h27, h28, y29, h30, rfl, hst⟩
  refine ⟨_, rfl, ?_⟩
  refine Ym (.tuple #[.agg #[h25.v, h27.v, h28.v], h30.v, iV r24.2.2.2.2]) e0 (yY (x_ (.agg #[h25.v, h27.v, h28.v]) e0) (yY (x_ h30.v e0) (yY (x_ (iV r24.2.2.2.2) e0) (YB wn rfl (rAl hst ZT_28) ?_))))
  intro b31 w hst
  refine YT wn rfl (r_stbn (vals' := [h25.v, h27.v, h28.v]) (us := [h25.v, h27.v, h28.v]) hst ST_28 e0 e0 rfl rfl (one_of rfl) rfl) ?_
  intro w hst
  refine Ya h30.v e0 (Ya (iV r24.2.2.2.2) e0 (wK k8 (sR fun _ k9 => yY (lbs_ [h2.v, h4.v, h6.v] ST_28 (eh e11_2) hst R9) (Ym h8.v (eh e11_1) ?_))))
  obtain ⟨r32, gr32, hM⟩ := bs hM
  refine Yc wn rfl (yCall FN_15 (a2 e0 e0)) (sparseref18_Coarsen_ok gr32 (F_4 q1) (F_4 q2) (F_4 q3) (F_4 q4) hst) ?_
  rintro _ w ⟨h33, y34, h35, h36, y37, h38, rfl, hst⟩
  refine ⟨_, rfl, ?_⟩
  refine Ym (.tuple #[.agg #[h33.v, h35.v, h36.v], h38.v, iV r32.2.2.2.2]) e0 (yY (x_ (.agg #[h33.v, h35.v, h36.v]) e0) (yY (x_ h38.v e0) (yY (x_ (iV r32.2.2.2.2) e0) (YB wn rfl (rAl hst ZT_28) ?_))))
  intro b39 w hst
  refine YT wn rfl (r_stbn (vals' := [h33.v, h35.v, h36.v]) (us := [h33.v, h35.v, h36.v]) hst ST_28 e0 e0 rfl rfl (one_of rfl) rfl) ?_
  intro w hst
  refine Ya h38.v e0 (Ya (iV r32.2.2.2.2) e0 (wK k9 (sR fun _ k10 => yY (lbs_ [h16.v, h17.v, h18.v] ST_28 e0 hst R15) ?_)))
  obtain ⟨r40, gr40, hM⟩ := bs hM
  refine Yc wn rfl (yCall FN_16 (a1 e0)) (dissect_Bisect_ok gr40 F3 F2 F1 hst) ?_
  rintro _ w ⟨h41, rfl, hst⟩
  refine ⟨_, rfl, ?_⟩
  refine Ym (.tuple #[h41.v, iV r40.2]) e0 (yY (x_ h41.v e0) (yY (x_ (iV r40.2) e0) (Ya h41.v e0 (Ya (iV r40.2) e0 (wK k10 (sR fun _ k11 => yY (lbs_ [h2.v, h4.v, h6.v] ST_28 (eh e11_2) hst R17) ?_))))))
  obtain ⟨r42, gr42, hM⟩ := bs hM
  refine Yc wn rfl (yCall FN_17 (a1 e0)) (sparseref18_Bisect_ok gr42 (F_4 q1) (F_4 q2) (F_4 q3) hst) ?_
  rintro _ w ⟨h43, rfl, hst⟩
  refine ⟨_, rfl, ?_⟩
  refine Ym (.tuple #[h43.v, iV r42.2]) e0 (yY (x_ h43.v e0) (yY (x_ (iV r42.2) e0) (Ya h43.v e0 (Ya (iV r42.2) e0 (wK k11 (sR fun _ k12 => yY (lbs_ [h16.v, h17.v, h18.v] ST_28 e0 hst R17) (Ym h8.v (eh e11_1) ?_)))))))
  obtain ⟨r44, gr44, hM⟩ := bs hM
  refine Yc wn rfl (yCall FN_21 (a2 e0 e0)) (dissect_Cut_ok gr44 F3 F2 F1 (F_4 q4) hst) ?_
  rintro _ w ⟨rfl, hst⟩
  refine ⟨_, rfl, ?_⟩
  refine Ym (.tuple #[iV r44.1, iV r44.2]) e0 (yY (x_ (iV r44.1) e0) (yY (x_ (iV r44.2) e0) (Ya (iV r44.1) e0 (Ya (iV r44.2) e0 (wK k12 (sR fun _ k13 => yY (lbs_ [h2.v, h4.v, h6.v] ST_28 (eh e11_2) hst R18) (Ym h8.v (eh e11_1) ?_)))))))
  obtain ⟨r45, gr45, hM⟩ := bs hM
  refine Yc wn rfl (yCall FN_22 (a2 e0 e0)) (sparseref18_Cut_ok gr45 (F_4 q1) (F_4 q2) (F_4 q3) (F_4 q4) hst) ?_
  rintro _ w ⟨rfl, hst⟩
  refine ⟨_, rfl, ?_⟩
  refine Ym (.tuple #[iV r45.1, iV r45.2]) e0 (yY (x_ (iV r45.1) e0) (yY (x_ (iV r45.2) e0) (Ya (iV r45.1) e0 (Ya (iV r45.2) e0 (wK k13 (sQ fun _ k14 => ?_))))))
  obtain ⟨r46, gr46, hM⟩ := bs hM
  obtain ⟨r47, gr47, hM⟩ := bs hM
  obtain ⟨r48, gr48, hM⟩ := bs hM
  obtain ⟨r49, gr49, hM⟩ := bs hM
  obtain ⟨r50, gr50, hM⟩ := bs hM
  obtain ⟨r51, gr51, hM⟩ := bs hM
  obtain ⟨r52, gr52, hM⟩ := bs hM
  obtain ⟨r53, gr53, hM⟩ := bs hM
  obtain ⟨r54, gr54, hM⟩ := bs hM
  obtain ⟨r55, gr55, hM⟩ := bs hM
  obtain ⟨r56, gr56, hM⟩ := bs hM
  obtain ⟨r57, gr57, hM⟩ := bs hM
  obtain ⟨r58, gr58, hM⟩ := bs hM
  refine joinN (n := 139) (fun f w => f 4 = .bool r58 ∧ St w0 ros rs w) (fun j2 => ?_) ?_
  ·have hx3 := (someI hM).trans hT
   obtain ⟨c60, gr58⟩ := chT gr58 hx3
   obtain ⟨c61, gr57⟩ := chT gr57 c60
   obtain ⟨c62, gr56⟩ := chT gr56 c61
   obtain ⟨c63, gr55⟩ := chT gr55 c62
   obtain ⟨c64, gr54⟩ := chT gr54 c63
   obtain ⟨c65, gr53⟩ := chT gr53 c64
   obtain ⟨c66, gr52⟩ := chT gr52 c65
   obtain ⟨c67, gr51⟩ := chT gr51 c66
   obtain ⟨c68, gr50⟩ := chT gr50 c67
   obtain ⟨c69, gr49⟩ := chT gr49 c68
   obtain ⟨c70, gr48⟩ := chT gr48 c69
   obtain ⟨r72, gr72, gr48⟩ := bs gr48
   have hr4 := someI gr48
   have hr5 := someI gr49
   obtain ⟨r75, gr75, gr50⟩ := bs gr50
   have hr6 := someI gr50
   obtain ⟨r77, gr77, gr51⟩ := bs gr51
   have hr7 := someI gr51
   have hr8 := someI gr52
   obtain ⟨r80, gr80, gr53⟩ := bs gr53
   have hr9 := someI gr53
   have hr10 := someI gr54
   have hr11 := someI gr55
   have hr12 := someI gr56
   obtain ⟨r85, gr85, gr57⟩ := bs gr57
   have hr13 := someI gr57
   obtain ⟨r87, gr87, gr58⟩ := bs gr58
   have hr14 := someI gr58
   refine dR [0, 1, 0, 7, 15, 31, 63, 63, 255, 511, 1023, 2047, 2047, 8191, 16383, 32767, 65535, 65535, 262143, 524287, 1048575, 2097151, 2097151, 8388607, 16777215, 33554431, 67108863, 67108863, 268435455, 536870911, 1073741823, 2147483647, 2147483647, 8589934591, 17179869183, 34359738367, 68719476735, 68719476735, 274877906943, 549755813887, 1099511627775, 2199023255551, 2199023255551, 8796093022207, 17592186044415, 35184372088831, 70368744177663, 70368744177663, 281474976710655, 562949953421311, 1125899906842623, 2251799813685247, 2251799813685247, 9007199254740991, 18014398509481983, 36028797018963967, 72057594037927935, 144115188075855871, 288230376151711743] [1, 3, 8, 18, 23, 33, 53, 56, 58] 9 folM ?_
   replace hst := hst.drew
   refine Dn [0, 2] [] [1] (yR rfl (lbs_ [h16.v, h17.v, h18.v] ST_28 e0 hst R17) (yR rfl (lbs_ [h2.v, h4.v, h6.v] ST_28 (eh e11_2) hst R18) (Rn QSn ?_)))
   refine Lc1 rfl ?_
   refine Lk wn (yCall FN_23 (a1 e0)) (dissect_CheckWeighted_ok gr46 F3 F2 F1 hst) ?_
   rintro _ w ⟨rfl, hst⟩
   refine ⟨_, rfl, ?_⟩
   refine Dn [] [2] [3] (Rn (yS rfl (lbs_ [h2.v, h4.v, h6.v] ST_28 (eh e11_2) hst R18) QSn) ?_)
   refine Lc1 rfl ?_
   refine Lk wn (yCall FN_24 (a1 e0)) (sparseref18_CheckWeighted_ok gr47 (F_4 q1) (F_4 q2) (F_4 q3) hst) ?_
   rintro _ w ⟨rfl, hst⟩
   refine ⟨_, rfl, ?_⟩
   refine Dn [4, 5, 6, 7] [] [8] (yR rfl (yeql e0 e0) (yR rfl (m_ (.bool (decide (r46 = r47))) e0) (Ry rfl rfl (wG (dT c70)) (m_ h21.v e0) (Ry rfl rfl (wG (dT c70)) (m_ h23.v e0) (Rn QSn ?_)))))
   refine Lc1 rfl ?_
   replace hst := hst.pk 17 [16, 0, 0, 0, 0, 0, 0, 0, 0, 0, 0, 0, 0, 0, 0, 0, 0] rfl
   replace hst := hst.fz
   replace hst := hst.pk 16 [15, 0, 0, 0, 0, 0, 0, 0, 0, 0, 0, 0, 0, 0, 0, 0] rfl
   replace hst := hst.fz
   refine Lk (wG (dT c70)) (yCall FN_13 (a2 e0 e0)) (sparsekit_Ints_ok gr72 F1 F0 hst) ?_
   rintro _ w ⟨rfl, hst⟩
   refine ⟨_, rfl, ?_⟩
   refine Dn [9, 10, 11, 12, 13, 14, 15, 16, 17] [] [18] (yR rfl (pt_ (.bool r48) e0 (dT c70) (eqv hr4 e0)) (yR rfl (m_ (.bool r48) e0) (Ry rfl rfl (wG c69) (m_ (iV r20.2) e0) (Ry rfl rfl (wG c69) (m_ (iV r22.2) e0) (Ry rfl rfl (wG c69) (yeql e0 e0) (yR rfl (pt_ (.bool r49) e0 c69 (eqv hr5 e0)) (yR rfl (m_ (.bool r49) e0) (Ry rfl rfl (wG c68) (lbs_ [h25.v, h27.v, h28.v] ST_28 e0 hst R9) (Ry rfl rfl (wG c68) (lbs_ [h33.v, h35.v, h36.v] ST_28 e0 hst R2) (Rn QSn ?_))))))))))
   refine Lc1 rfl ?_
   replace hst := hst.pk 12 [10, 10, 0, 0, 0, 0, 0, 0, 0, 0, 0, 0] rfl
   replace hst := hst.ffz
   replace hst := hst.pk 12 [10, 10, 0, 0, 0, 0, 0, 0, 0, 0, 0, 0] rfl
   replace hst := hst.ffz
   replace hst := hst.pk 5 [3, 3, 0, 0, 0] rfl
   replace hst := hst.ffz
   replace hst := hst.pk 4 [3, 0, 0, 0] rfl
   replace hst := hst.fz
   replace hst := hst.pk 5 [3, 3, 0, 0, 0] rfl
   replace hst := hst.ffz
   refine Lk (wG c68) (yCall FN_18 (a2 e0 e0)) (sparsekit_Weighted_ok gr75 F4 F7 F3 F2 F1 F0 hst) ?_
   rintro _ w ⟨rfl, hst⟩
   refine ⟨_, rfl, ?_⟩
   refine Dn [19, 20, 21, 22] [] [23] (yR rfl (pt_ (.bool r50) e0 c68 (eqv hr6 e0)) (yR rfl (m_ (.bool r50) e0) (Ry rfl rfl (wG c67) (m_ h30.v e0) (Ry rfl rfl (wG c67) (m_ h38.v e0) (Rn QSn ?_)))))
   refine Lc1 rfl ?_
   replace hst := hst.pk 6 [5, 0, 0, 0, 0, 0] rfl
   replace hst := hst.fz
   replace hst := hst.pk 4 [3, 0, 0, 0] rfl
   replace hst := hst.fz
   refine Lk (wG c67) (yCall FN_13 (a2 e0 e0)) (sparsekit_Ints_ok gr77 F1 F0 hst) ?_
   rintro _ w ⟨rfl, hst⟩
   refine ⟨_, rfl, ?_⟩
   refine Dn [24, 25, 26, 27, 28, 29, 30, 31, 32] [] [33] (yR rfl (pt_ (.bool r51) e0 c67 (eqv hr7 e0)) (yR rfl (m_ (.bool r51) e0) (Ry rfl rfl (wG c66) (m_ (iV r24.2.2.2.2) e0) (Ry rfl rfl (wG c66) (m_ (iV r32.2.2.2.2) e0) (Ry rfl rfl (wG c66) (yeql e0 e0) (yR rfl (pt_ (.bool r52) e0 c66 (eqv hr8 e0)) (yR rfl (m_ (.bool r52) e0) (Ry rfl rfl (wG c65) (m_ h41.v e0) (Ry rfl rfl (wG c65) (m_ h43.v e0) (Rn QSn ?_))))))))))
   refine Lc1 rfl ?_
   replace hst := hst.pk 2 [1, 0] rfl
   replace hst := hst.fz
   replace hst := hst.fz
   refine Lk (wG c65) (yCall FN_13 (a2 e0 e0)) (sparsekit_Ints_ok gr80 F1 F0 hst) ?_
   rintro _ w ⟨rfl, hst⟩
   refine ⟨_, rfl, ?_⟩
   refine Dn [34, 35, 36, 37, 38, 39, 40, 41, 42, 43, 44, 45, 46, 47, 48, 49, 50, 51, 52] [] [53] (yR rfl (pt_ (.bool r53) e0 c65 (eqv hr9 e0)) (yR rfl (m_ (.bool r53) e0) (Ry rfl rfl (wG c64) (m_ (iV r40.2) e0) (Ry rfl rfl (wG c64) (m_ (iV r42.2) e0) (Ry rfl rfl (wG c64) (yeql e0 e0) (yR rfl (pt_ (.bool r54) e0 c64 (eqv hr10 e0)) (yR rfl (m_ (.bool r54) e0) (Ry rfl rfl (wG c63) (m_ (iV r44.1) e0) (Ry rfl rfl (wG c63) (m_ (iV r45.1) e0) (Ry rfl rfl (wG c63) (yeql e0 e0) (yR rfl (pt_ (.bool r55) e0 c63 (eqv hr11 e0)) (yR rfl (m_ (.bool r55) e0) (Ry rfl rfl (wG c62) (m_ (iV r44.2) e0) ?_)))))))))))))
   refine Ry rfl rfl (wG c62) (m_ (iV r45.2) e0) (Ry rfl rfl (wG c62) (yeql e0 e0) (yR rfl (pt_ (.bool r56) e0 c62 (eqv hr12 e0)) (yR rfl (m_ (.bool r56) e0) (Ry rfl rfl (wG c61) (lbs_ [h16.v, h17.v, h18.v] ST_28 e0 hst R2) (Ry rfl rfl (wG c61) (lbs_ [h2.v, h4.v, h6.v] ST_28 (eh e11_2) hst R3) (Rn QSn ?_))))))
   refine Lc1 rfl ?_
   refine Lk (wG c61) (yCall FN_18 (a2 e0 e0)) (sparsekit_Weighted_ok gr85 F14 F13 F12 (F_15 q1) (F_15 q2) (F_15 q3) hst) ?_
   rintro _ w ⟨rfl, hst⟩
   refine ⟨_, rfl, ?_⟩
   refine Dn [54, 55] [] [56] (yR rfl (pt_ (.bool r57) e0 c61 (eqv hr13 e0)) (yR rfl (m_ (.bool r57) e0) (Rn QSn ?_)))
   refine Lc1 rfl ?_
   refine Lk (wG c60) (yCall FN_8 a0) (sparselaw18_awake_ok gr87 hst) ?_
   rintro _ w ⟨rfl, hst⟩
   refine ⟨_, rfl, ?_⟩
   refine Dn [57] [] [58] (yR rfl (pt_ (.bool r58) e0 c60 (eqv hr14 e0)) (Rn QSn ?_))
   refine Lc1 rfl ?_
   exact Ly wn (a_ (.bool r58) e0) (Dz [] [] (Rn QSn (j2 _ _ ⟨rfl, ((hst.pk 4 [] rfl).facts (allT (allT (allT (allT (allT (allT (allT (allT (allT (allT (allT (allT (allT (allT (allT allI))))))))))))))))⟩)))
  rintro f w ⟨e59_4, hst⟩
  refine k14 _ _ (wp_ret ?_)
  obtain rfl := someI hM
  exact hQ _ _ _ (fin1r Tryz.results4 ⟨rfl, e59_4⟩ ⟨rfl, hst⟩)
end Go.Proofs.YthpeajepbffinaaGreat
