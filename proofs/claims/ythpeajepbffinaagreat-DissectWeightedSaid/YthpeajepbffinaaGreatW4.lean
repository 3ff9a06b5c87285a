/- Walks: each function computes its model, printed. -/
import Derived.Test.YthpeajepbffinaaGreatW3
namespace Go.Proofs.YthpeajepbffinaaGreat
open Go Sx M
set_option maxRecDepth 100000
set_option maxHeartbeats 40000000
set_option linter.unusedVariables false
attribute [local irreducible] wpList Code.wp Calls DR QR QS LA LS St
variable {w0 : World} {ros : List Fact} {rs : List Res} {w : World}
theorem dissect_Check_ok {x1 : L2} {x3 x5 x7 : LI} {h2 h4 h6 h8 : Hdr} {out : Int} (hM : dissect_Check x1 x3 x5 x7 = some out) (q1 : imm S1 h2.v x1 ∈ ros) (q2 : imm I1 h4.v x3 ∈ ros) (q3 : imm I1 h6.v x5 ∈ ros) (q4 : imm I1 h8.v x7 ∈ ros) (hst : St w0 ros rs w) :
  Calls Tryz.prog 32 #[.agg #[h2.v], .agg #[h4.v, h6.v, h8.v]] w (fun e w => e = .returned (iV out) ∧ St w0 ros rs w) := by
 refine enterQ Tryz.func32 rfl Tryz.ntmps32 rfl fun Q hQ => sR fun _ k1 => YB wn rfl (r_box (vals := [h2.v]) hst e0 rfl) ?_
 intro b9 w hst
 refine YB wn rfl (r_box (vals := [h4.v, h6.v, h8.v]) hst e0 rfl) ?_
 intro b10 w hst
 refine Ya (iV 0) rfl (wK k1 (sR fun _ k2 => yY (lbs_ [h2.v] ST_26 e0 hst R1) ?_))
 obtain ⟨r11, gr11, hM⟩ := bs hM
 refine Yc wn rfl (yCall FN_51 (a1 e0)) (graph_Check_ok gr11 q1 hst) ?_
 rintro _ w ⟨rfl, hst⟩
 refine ⟨_, rfl, ?_⟩
 refine Ya (iV r11) e0 (wK k2 (seqQ fun Q3 k3 z3 => sR fun _ k4 => Ym (iV r11) e0 (yY (yneq e0 rfl) (wK k4 ?_))))
 rcases iteS hM with ⟨c12, hM⟩ | ⟨c12, hM⟩
 ·refine condF e0 (nF (dT c12)) (wp_skip (k3 _ _ (sR fun _ k5 => yY (yFb FL_26_0 e0) (yY (lb_ h2.v O_24 e0 hst R1) (yY (yLen SL_24 e0 hst (rdI q1)) (yY (yFb FL_46_0 e0) (yY (lb_ h4.v O_22 e0 hst R0) (yY (yFb FL_46_1 e0) (yY (lb_ h6.v O_22 e0 hst R0) (yY (yFb FL_46_2 e0) (yY (lb_ h8.v O_22 e0 hst R0) ?_)))))))))))
  refine YH wn rfl (rLt (n := 3) (l := [x3, x5, x7]) hst SL_24 [h4.v, h6.v, h8.v] (bp3 e0 e0 e0) rfl rfl (mks1 (cs := [h4.v]) rfl (mkS q2) (mks1 (cs := [h6.v]) rfl (mkS q3) (mks1 (cs := [h8.v]) rfl (mkS q4) mks0)))) ?_
  intro h13 w hst
  obtain ⟨r14, gr14, hM⟩ := bs hM
  replace hst := hst.fz
  refine Yc wn rfl (yCall FN_65 (a2 e0 e0)) (dissect_parts_ok gr14 F0 hst) ?_
  rintro _ w ⟨h15, rfl, hst⟩
  refine ⟨_, rfl, ?_⟩
  refine Ym (.tuple #[h15.v, .bool r14.2]) e0 (yY (x_ h15.v e0) (yY (x_ (.bool r14.2) e0) (Ya h15.v e0 (Ya (.bool r14.2) e0 (wK k5 (seqQ fun Q6 k6 z6 => sR fun _ k7 => Ym (.bool r14.2) e0 (yY (ynot e0) (wK k7 ?_))))))))
  rcases iteS hM with ⟨c16, hM⟩ | ⟨c16, hM⟩
  ·refine condF e0 (nF c16) (wp_skip (k6 _ _ (seqQ fun Q8 k8 z8 => sR fun _ k9 => yY (yFb FL_26_0 e0) (yY (lb_ h2.v O_24 e0 hst R2) (yY (yLen SL_24 e0 hst (rdI (mtF q1))) (Ym (iV 0) rfl (wK k9 (blockQ fun Q10 qb10 => ?_))))))))
   obtain ⟨o9, go9, hM⟩ := bs hM
   have je9_0 : ∀ (f : FV) (w : World), St w0 ros rs w → .inl () = o9 → Q10 (.exit 0) (fr 61 f) w := by
    intro f w hst ho
    subst ho
    refine qb10 _ _ _ (k8 _ _ (sR fun _ k67 => Ya (iV 0) rfl (wK k67 (wp_ret ?_))))
    obtain rfl := someI hM
    exact hQ _ _ _ (fin1r Tryz.results32 ⟨rfl, rfl⟩ ⟨rfl, hst⟩)
   have je9_1 : ∀ (f : FV) (w : World), f 4 = iV 180 → St w0 ros rs w → .inr () = o9 → Q10 .ret (fr 61 f) w := by
    intro f w eje9_1_4 hst ho
    subst ho
    refine qb10 _ _ _ (z8 _ _ _ rfl ?_)
    obtain rfl := someI hM
    exact hQ _ _ _ (fin1r Tryz.results32 ⟨rfl, eje9_1_4⟩ ⟨rfl, hst⟩)
   refine loopQ (fun s a w => ∃ (x49 : Int) (f : FV), x49 = s ∧ a = fr 61 f ∧ f 6 = h15.v ∧ f 34 = h2.v ∧ f 35 = iV (x1.length : Int) ∧ f 36 = iV x49 ∧ St w0 ros (row 3 I1 h15.v r14.1 :: rs) w) go9 ⟨_, _, rfl, rfl, rfl, rfl, rfl, rfl, ((hst.pk 3 [0] rfl).facts (allT allI))⟩ ?_
   rintro _ _ w r9_ ⟨x49, f, rfl, rfl, e9_6, e9_34, e9_35, e9_36, hst⟩ hM9 ho9 Q100009 n9 zz9
   refine sR fun _ k68 => yY (ylss (eh e9_36) (eh e9_35)) (wK k68 (seqQ fun Q69 k69 z69 => ?_))
   rcases iteS hM9 with ⟨c83, hM9⟩ | ⟨c83, hM9⟩
   ·refine cT e0 c83 (wp_skip (k69 _ _ (seqQ fun Q70 k70 z70 => blockQ fun _ qb71 => sR fun _ k72 => Ym (iV x49) (eh e9_36) ?_)))
    obtain ⟨x84, gx84, hM9⟩ := bs hM9
    refine yY (yIa SL_24 (eh e9_34) (eh e9_36) hst (rdI q1) gx84) ?_
    obtain ⟨h85, hst⟩ := iLs hst q1 gx84
    refine yY (yCt O_22 e0 hst F1 rfl) (Ya (iV x49) e0 (Ya h85.v e0 (wK k72 (sR fun _ k73 => Ym h85.v e0 (yY (yLen SL_22 e0 hst (rdI F0)) (Ym (iV 0) rfl (wK k73 (blockQ fun Q74 qb74 => ?_))))))))
    obtain ⟨o12, go12, hM9⟩ := bs hM9
    have je12_0 : ∀ (f : FV) (w : World), f 6 = h15.v → f 34 = h2.v → f 35 = iV (x1.length : Int) → f 36 = iV x49 → St w0 ros (row 3 I1 h15.v r14.1 :: rs) w → .inl () = o12 → Q74 (.exit 2) (fr 61 f) w := by
     intro f w eje12_0_6 eje12_0_34 eje12_0_35 eje12_0_36 hst ho
     subst ho
     refine qb74 _ _ _ (qb71 _ _ _ (k70 _ _ (wR (yY (yadd (eh eje12_0_36) rfl) (Ym (iV (wa .i64 x49 1)) e0 (wN ?_))))))
     obtain rfl := someI hM9
     exact n9 _ _ _ rfl ⟨_, _, rfl, rfl, eje12_0_6, eje12_0_34, eje12_0_35, rfl, hst⟩
    have je12_1 : ∀ (f : FV) (w : World), f 4 = iV 180 → St w0 ros rs w → .inr () = o12 → Q74 .ret (fr 61 f) w := by
     intro f w eje12_1_4 hst ho
     subst ho
     refine qb74 _ _ _ (qb71 _ _ _ (z70 _ _ _ rfl ?_))
     obtain rfl := someI hM9
     exact zz9 _ _ _ _ rfl rfl (je9_1 _ _ eje12_1_4 hst (ho9 _ rfl))
    refine loopQ (fun s a w => ∃ (x95 : Int) (f : FV), x95 = s ∧ a = fr 61 f ∧ f 6 = h15.v ∧ f 8 = iV x49 ∧ f 34 = h2.v ∧ f 35 = iV (x1.length : Int) ∧ f 36 = iV x49 ∧ f 41 = h85.v ∧ f 42 = iV (x84.length : Int) ∧ f 43 = iV x95 ∧ St w0 (imm I1 h85.v x84 :: ros) (row 3 I1 h15.v r14.1 :: rs) w) go12 ⟨_, _, rfl, rfl, e9_6, rfl, e9_34, e9_35, e9_36, rfl, rfl, rfl, (hst.facts (allC F0 (allT (allT allI))))⟩ ?_
    rintro _ _ w r12_ ⟨x95, f, rfl, rfl, e12_6, e12_8, e12_34, e12_35, e12_36, e12_41, e12_42, e12_43, hst⟩ hM12 ho12 Q100012 n12 zz12
    refine sR fun _ k89 => yY (ylss (eh e12_43) (eh e12_42)) (wK k89 (seqQ fun Q90 k90 z90 => ?_))
    rcases iteS hM12 with ⟨c106, hM12⟩ | ⟨c106, hM12⟩
    ·refine cT e0 c106 (wp_skip (k90 _ _ (seqQ fun Q91 k91 z91 => blockQ fun _ qb92 => sR fun _ k93 => ?_)))
     obtain ⟨x107, gx107, hM12⟩ := bs hM12
     refine yY (yIa SL_22 (eh e12_41) (eh e12_43) hst (rdI F0) gx107) (yY (yI O_3 e0 hst (rdI F0) gx107) (Ya (iV x107) e0 (wK k93 (sR fun _ k94 => Ym h15.v (eh e12_6) (Ym (iV x49) (eh e12_8) ?_)))))
     obtain ⟨x108, gx108, hM12⟩ := bs hM12
     refine yY (yIa SL_22 e0 e0 hst rO0 gx108) (yY (yI O_3 e0 hst rO0 gx108) (yY (yeql e0 rfl) (Ym (.bool (decide (x108 = 0))) e0 ?_)))
     obtain ⟨r110, gr110, hM12⟩ := bs hM12
     refine joinW 6 (fun f w => f 6 = h15.v ∧ f 8 = iV x49 ∧ f 34 = h2.v ∧ f 35 = iV (x1.length : Int) ∧ f 36 = iV x49 ∧ f 41 = h85.v ∧ f 42 = iV (x84.length : Int) ∧ f 43 = iV x95 ∧ f 58 = .bool r110 ∧ St w0 (imm I1 h85.v x84 :: ros) (row 3 I1 h15.v r14.1 :: rs) w) (fun j13 => ?_) ?_
     ·rcases iteS gr110 with ⟨c112, gr110⟩ | ⟨c112, gr110⟩
      ·refine yG (dT c112) (m_ h15.v (eh e12_6)) (yG (dT c112) (m_ (iV x107) e0) ?_)
       obtain ⟨x113, gx113, gr110⟩ := bs gr110
       refine yG (dT c112) (yIa SL_22 e0 e0 hst rO0 gx113) (yG (dT c112) (yI O_3 e0 hst rO0 gx113) (yG (dT c112) (yeql e0 rfl) (yY (pt_ (.bool (decide (x113 = 1))) e0 (dT c112) e0) ?_)))
       obtain rfl := someI gr110
       exact j13 _ _ ⟨e12_6, e12_8, e12_34, e12_35, e12_36, e12_41, e12_42, e12_43, rfl, hst⟩
      ·refine gN (dF c112) (gN (dF c112) (gN (dF c112) (gN (dF c112) (gN (dF c112) (yY (pf_ (.bool false) e0 (dF c112) rfl) ?_)))))
       obtain rfl := someI gr110
       exact j13 _ _ ⟨e12_6, e12_8, e12_34, e12_35, e12_36, e12_41, e12_42, e12_43, rfl, hst⟩
     rintro f w ⟨e111_6, e111_8, e111_34, e111_35, e111_36, e111_41, e111_42, e111_43, e111_58, hst⟩
     refine wK k94 ?_
     rcases iteS hM12 with ⟨c114, hM12⟩ | ⟨c114, hM12⟩
     ·refine condT (eh e111_58) c114 (sR fun _ k95 => Ya (iV 180) rfl (wK k95 (wp_ret (qb92 _ _ _ (z91 _ _ _ rfl ?_)))))
      obtain rfl := someI hM12
      exact zz12 _ _ _ _ rfl rfl (je12_1 _ _ rfl ((hst.pk 1 [] rfl).facts (allT allI)) (ho12 _ rfl))
     ·refine condF (eh e111_58) (bfalse c114) (wp_skip (qb92 _ _ _ (k91 _ _ (wR (yY (yadd (eh e111_43) rfl) (Ym (iV (wa .i64 x95 1)) e0 (wN ?_)))))))
      obtain rfl := someI hM12
      exact n12 _ _ _ rfl ⟨_, _, rfl, rfl, e111_6, e111_8, e111_34, e111_35, e111_36, e111_41, e111_42, rfl, hst⟩
    ·refine cF e0 c106 (wp_exit (z90 _ _ _ rfl ?_))
     obtain rfl := someI hM12
     exact zz12 _ _ _ _ rfl rfl (je12_0 _ _ e12_6 e12_34 e12_35 e12_36 (hst.facts (allT allI)) (ho12 _ rfl))
   ·refine cF e0 c83 (wp_exit (z69 _ _ _ rfl ?_))
    obtain rfl := someI hM9
    exact zz9 _ _ _ _ rfl rfl (je9_0 _ _ (hst.pk 1 [] rfl) (ho9 _ rfl))
  ·refine condT e0 (nT (bfalse c16)) (sR fun _ k96 => Ya (iV 180) rfl (wK k96 (wp_ret (z6 _ _ _ rfl ?_))))
   obtain rfl := someI hM
   exact hQ _ _ _ (fin1r Tryz.results32 ⟨rfl, rfl⟩ ⟨rfl, ((hst.pk 3 [] rfl).facts (allT allI))⟩)
 ·refine condT e0 (nT (dF c12)) (sR fun _ k97 => Ym (iV r11) e0 (Ya (iV r11) e0 (wK k97 (wp_ret (z3 _ _ _ rfl ?_)))))
  obtain rfl := someI hM
  exact hQ _ _ _ (fin1r Tryz.results32 ⟨rfl, rfl⟩ ⟨rfl, (hst.pk 2 [] rfl)⟩)
theorem sparselaw18_awake_ok {out : Bool} (hM : sparselaw18_awake = some out) (hst : St w0 ros rs w) :
  Calls Tryz.prog 8 #[] w (fun e w => e = .returned (.bool out) ∧ St w0 ros rs w) := by
 refine enterQ Tryz.func8 rfl Tryz.ntmps8 rfl fun Q hQ => sR fun _ k1 => Ya (.bool false) rfl (wK k1 (sR fun _ k2 => YH wn rfl (rLt (n := 1) (l := [1]) hst SL_22 [iV 1] (bp1 rfl) rfl rfl (mks1 (cs := [iV 1]) rfl mkI mks0)) ?_))
 intro h1 w hst
 refine YH wn rfl (rLt (n := 2) (l := [0, 2]) hst SL_22 [iV 0, iV 2] (bp2 rfl rfl) rfl rfl (mks1 (cs := [iV 0]) rfl mkI (mks1 (cs := [iV 2]) rfl mkI mks0))) ?_
 intro h2 w hst
 refine YH wn rfl (rLt (n := 2) (l := [1, 3]) hst SL_22 [iV 1, iV 3] (bp2 rfl rfl) rfl rfl (mks1 (cs := [iV 1]) rfl mkI (mks1 (cs := [iV 3]) rfl mkI mks0))) ?_
 intro h3 w hst
 refine YH wn rfl (rLt (n := 1) (l := [2]) hst SL_22 [iV 2] (bp1 rfl) rfl rfl (mks1 (cs := [iV 2]) rfl mkI mks0)) ?_
 intro h4 w hst
 replace hst := hst.pk 4 [3, 0, 0, 0] rfl
 replace hst := hst.fz
 replace hst := hst.pk 3 [2, 0, 0] rfl
 replace hst := hst.fz
 replace hst := hst.pk 2 [1, 0] rfl
 replace hst := hst.fz
 replace hst := hst.fz
 refine YH wn rfl (rLt (n := 4) (l := [[1], [0, 2], [1, 3], [2]]) hst SL_24 [h1.v, h2.v, h3.v, h4.v] (bp4 e0 e0 e0 e0) rfl rfl (mks1 (cs := [h1.v]) rfl (mkS F3) (mks1 (cs := [h2.v]) rfl (mkS F2) (mks1 (cs := [h3.v]) rfl (mkS F1) (mks1 (cs := [h4.v]) rfl (mkS F0) mks0))))) ?_
 intro h5 w hst
 refine yY (ybuild (us := [h5.v]) [(0, h5.v)] SO_26 (bp1 e0) rfl) (YB wn rfl (rAl hst ZT_26) ?_)
 intro b6 w hst
 refine YT wn rfl (r_stbn (vals' := [h5.v]) (us := [h5.v]) hst ST_26 e0 e0 rfl rfl (one_of rfl) rfl) ?_
 intro w hst
 refine wK k2 (sR fun _ k3 => yY (lbs_ [h5.v] ST_26 e0 hst R0) ?_)
 obtain ⟨r7, gr7, hM⟩ := bs hM
 replace hst := hst.pk 2 [1, 0] rfl
 replace hst := hst.fz
 refine Yc wn rfl (yCall FN_27 (a1 e0)) (dissect_Separate_ok gr7 F0 hst) ?_
 rintro _ w ⟨h8, h9, h10, rfl, hst⟩
 refine ⟨_, rfl, ?_⟩
 refine Ym (.tuple #[.agg #[h8.v, h9.v, h10.v], iV r7.2.2.2]) e0 (yY (x_ (.agg #[h8.v, h9.v, h10.v]) e0) (yY (x_ (iV r7.2.2.2) e0) (YB wn rfl (rAl hst ZT_46) ?_)))
 intro b11 w hst
 refine YT wn rfl (r_stbn (vals' := [h8.v, h9.v, h10.v]) (us := [h8.v, h9.v, h10.v]) hst ST_46 e0 e0 rfl rfl (one_of rfl) rfl) ?_
 intro w hst
 refine Ya (iV r7.2.2.2) e0 (wK k3 (sR fun _ k4 => Ym (iV r7.2.2.2) e0 (yY (yeql e0 rfl) (Ym (.bool (decide (r7.2.2.2 = 0))) e0 ?_))))
 obtain ⟨r16, gr16, hM⟩ := bs hM
 refine joinW 7 (fun f w => f 1 = (pB b6) ∧ f 2 = (pB b11) ∧ f 24 = .bool r16 ∧ St w0 (imm S1 h5.v [[1], [0, 2], [1, 3], [2]] :: imm I1 h8.v r7.1 :: imm I1 h9.v r7.2.1 :: imm I1 h10.v r7.2.2.1 :: ros) (box b6 26 [h5.v] :: box b11 46 [h8.v, h9.v, h10.v] :: rs) w) (fun j1 => ?_) ?_
 ·rcases iteS gr16 with ⟨c18, gr16⟩ | ⟨c18, gr16⟩
  ·refine yG (dT c18) (lbs_ [h8.v, h9.v, h10.v] ST_46 e0 hst R0) (YH (wG (dT c18)) rfl (rLt (n := 2) (l := [0, 1]) hst SL_22 [iV 0, iV 1] (bp2 rfl rfl) rfl rfl (mks1 (cs := [iV 0]) rfl mkI (mks1 (cs := [iV 1]) rfl mkI mks0))) ?_)
   intro h19 w hst
   refine YH (wG (dT c18)) rfl (rLt (n := 1) (l := [3]) hst SL_22 [iV 3] (bp1 rfl) rfl rfl (mks1 (cs := [iV 3]) rfl mkI mks0)) ?_
   intro h20 w hst
   refine YH (wG (dT c18)) rfl (rLt (n := 1) (l := [2]) hst SL_22 [iV 2] (bp1 rfl) rfl rfl (mks1 (cs := [iV 2]) rfl mkI mks0)) ?_
   intro h21 w hst
   refine yG (dT c18) (ybuild (us := [h19.v, h20.v, h21.v]) [(0, h19.v), (1, h20.v), (2, h21.v)] SO_46 (bp3 e0 e0 e0) rfl) ?_
   obtain ⟨r22, gr22, gr16⟩ := bs gr16
   replace hst := hst.pk 5 [4, 0, 0, 0, 0] rfl
   replace hst := hst.fz
   replace hst := hst.pk 5 [4, 0, 0, 0, 0] rfl
   replace hst := hst.fz
   replace hst := hst.pk 5 [4, 0, 0, 0, 0] rfl
   replace hst := hst.fz
   replace hst := hst.pk 3 [2, 0, 0] rfl
   replace hst := hst.fz
   replace hst := hst.pk 2 [1, 0] rfl
   replace hst := hst.fz
   replace hst := hst.fz
   refine Yc (wG (dT c18)) rfl (yCall FN_31 (a2 e0 e0)) (sparsekit_Split_ok gr22 F5 F4 F3 F2 F1 F0 hst) ?_
   rintro _ w ⟨rfl, hst⟩
   refine ⟨_, rfl, ?_⟩
   refine yY (pt_ (.bool r22) e0 (dT c18) e0) ?_
   obtain rfl := someI gr16
   exact j1 _ _ ⟨rfl, rfl, rfl, ((hst.pk 2 [1, 0] rfl).facts (allC F6 (allC F5 (allC F4 (allC F3 (allT (allT (allT (allT (allT (allT (allT (allT (allT (allT (allT allI))))))))))))))))⟩
  ·refine gN (dF c18) (gN (dF c18) (gN (dF c18) (gN (dF c18) (gN (dF c18) (gN (dF c18) (yY (pf_ (.bool false) e0 (dF c18) rfl) ?_))))))
   obtain rfl := someI gr16
   replace hst := hst.pk 2 [1, 0] rfl
   replace hst := hst.fz
   replace hst := hst.pk 2 [1, 0] rfl
   replace hst := hst.fz
   replace hst := hst.pk 2 [1, 0] rfl
   replace hst := hst.fz
   exact j1 _ _ ⟨rfl, rfl, rfl, ((hst.pk 2 [1, 0] rfl).facts (allC F3 (allC F2 (allC F1 (allC F0 (allT (allT (allT (allT (allT (allT (allT (allT allI)))))))))))))⟩
 rintro f w ⟨e17_1, e17_2, e17_24, hst⟩
 refine Ym (.bool r16) (eh e17_24) ?_
 obtain ⟨r24, gr24, hM⟩ := bs hM
 refine joinW 5 (fun f w => f 30 = .bool r24 ∧ St w0 ros rs w) (fun j2 => ?_) ?_
 ·rcases iteS gr24 with ⟨c26, gr24⟩ | ⟨c26, gr24⟩
  ·refine yG c26 (lbs_ [h5.v] ST_26 (eh e17_1) hst R0) (yG c26 (lbs_ [h8.v, h9.v, h10.v] ST_46 (eh e17_2) hst R1) ?_)
   obtain ⟨r27, gr27, gr24⟩ := bs gr24
   refine Yc (wG c26) rfl (yCall FN_32 (a2 e0 e0)) (dissect_Check_ok gr27 F0 F1 F2 F3 hst) ?_
   rintro _ w ⟨rfl, hst⟩
   refine ⟨_, rfl, ?_⟩
   refine yG c26 (yeql e0 rfl) (yY (pt_ (.bool (decide (r27 = 0))) e0 c26 e0) ?_)
   obtain rfl := someI gr24
   exact j2 _ _ ⟨rfl, ((hst.pk 2 [] rfl).facts (allT (allT (allT (allT allI)))))⟩
  ·refine gN (bfalse c26) (gN (bfalse c26) (gN (bfalse c26) (gN (bfalse c26) (yY (pf_ (.bool false) e0 (bfalse c26) rfl) ?_))))
   obtain rfl := someI gr24
   exact j2 _ _ ⟨rfl, ((hst.pk 2 [] rfl).facts (allT (allT (allT (allT allI)))))⟩
 rintro f w ⟨e25_30, hst⟩
 refine Ya (.bool r24) (eh e25_30) (wK k4 (wp_ret ?_))
 obtain rfl := someI hM
 exact hQ _ _ _ (fin1r Tryz.results8 ⟨rfl, rfl⟩ ⟨rfl, hst⟩)
theorem sparsekit_TwinInts_ok {x1 : LI} {h2 : Hdr} {out : LI} (hM : sparsekit_TwinInts x1 = some out) (q1 : imm I1 h2.v x1 ∈ ros) (hst : St w0 ros rs w) :
  Calls Tryz.prog 47 #[h2.v] w (fun e w => ∃ (h100001 : Hdr), e = .returned (h100001.v) ∧ St w0 ros (row 3 I1 h100001.v out :: rs) w) := by
 refine enterQ Tryz.func47 rfl Tryz.ntmps47 rfl fun Q hQ => sR fun _ k1 => Ya hnil.v rfl (wK k1 (sR fun _ k2 => Ya hnil.v rfl (wK k2 (sQ fun _ k3 => sR fun _ k4 => ?_))))
 refine Ya (iV 0) rfl (wK k4 (blockQ fun Q5 qb5 => ?_))
 obtain ⟨o1, go1, hM⟩ := bs hM
 have je1_0 : ∀ (x20 : LI) (h19 : Hdr) (f : FV) (w : World), f 3 = h19.v → St w0 ros (row 3 I1 h19.v x20 :: rs) w → x20 = o1 → Q5 (.exit 0) (fr 19 f) w := by
  intro x20 h19 f w eje1_0_3 hst ho
  subst ho
  refine qb5 _ _ _ (k3 _ _ (sR fun _ k14 => Ym h19.v (eh eje1_0_3) (Ya h19.v e0 (wK k14 (wp_ret ?_)))))
  obtain rfl := someI hM
  exact hQ _ _ _ (fin1r Tryz.results47 ⟨rfl, rfl⟩ ⟨_, rfl, hst⟩)
 replace hst := hst.rowNh 3 I1
 refine loopQ (fun s a w => ∃ (x9 : LI) (x10 : Int) (f : FV) (h8 : Hdr), (x9, x10) = s ∧ a = fr 19 f ∧ f 0 = h2.v ∧ f 3 = h8.v ∧ f 4 = iV x10 ∧ St w0 ros (row 3 I1 h8.v x9 :: rs) w) go1 ⟨_, _, _, _, rfl, rfl, rfl, rfl, rfl, hst⟩ ?_
 rintro _ _ w r1_ ⟨x9, x10, f, h8, rfl, rfl, e1_0, e1_3, e1_4, hst⟩ hM1 ho1 Q100001 n1 zz1
 refine seqQ fun Q15 k15 z15 => sR fun _ k16 => Ym (iV x10) (eh e1_4) (Ym h2.v (eh e1_0) (yY (yLen SL_22 e0 hst (rdI q1)) (yY (ylss e0 e0) (wK k16 ?_))))
 rcases iteS hM1 with ⟨c21, hM1⟩ | ⟨c21, hM1⟩
 ·refine cT e0 c21 (wp_skip (k15 _ _ (sQ fun _ k17 => blockQ fun _ qb18 => wR (Ym h8.v (eh e1_3) (Ym h2.v (eh e1_0) (Ym (iV x10) (eh e1_4) ?_))))))
  obtain ⟨x22, gx22, hM1⟩ := bs hM1
  refine yY (yIa SL_22 e0 e0 hst (rdI q1) gx22) (yY (yI O_3 e0 hst (rdI q1) gx22) (YH wn rfl (rLt (n := 1) (l := [x22]) hst SL_22 [iV x22] (bp1 e0) rfl rfl (mks1 (cs := [iV x22]) rfl mkI mks0)) ?_))
  intro h23 w hst
  obtain ⟨x25, gx25, hM1⟩ := bs hM1
  replace hst := hst.pk 2 [1, 0] rfl
  refine YH wn rfl (rAp hst SL_22 e0 e0 rO1 gx25) ?_
  intro h24 w hst
  refine Ya h24.v e0 (wN (qb18 _ _ _ (k17 _ _ (wR (Ym (iV x10) (eh e1_4) (yY (yadd e0 rfl) (Ya (iV (wa .i64 x10 1)) e0 (wN ?_))))))))
  obtain rfl := someI hM1
  exact n1 _ _ _ rfl ⟨_, _, _, _, rfl, rfl, e1_0, rfl, rfl, (hst.pk 2 [0] rfl)⟩
 ·refine cF e0 c21 (wp_exit (z15 _ _ _ rfl ?_))
  obtain rfl := someI hM1
  exact zz1 _ _ _ _ rfl rfl (je1_0 _ _ _ _ e1_3 hst (ho1 _ rfl))
theorem sparsekit_TwinLists_ok {x1 : L2} {h2 : Hdr} {out : L2} (hM : sparsekit_TwinLists x1 = some out) (q1 : imm S1 h2.v x1 ∈ ros) (hst : St w0 ros rs w) :
  Calls Tryz.prog 48 #[h2.v] w (fun e w => ∃ (h100001 : Hdr), e = .returned (h100001.v) ∧ St w0 ros (row 22 S1 h100001.v out :: rs) w) := by
 refine enterQ Tryz.func48 rfl Tryz.ntmps48 rfl fun Q hQ => sR fun _ k1 => Ya hnil.v rfl (wK k1 (sR fun _ k2 => Ya hnil.v rfl (wK k2 (sQ fun _ k3 => sR fun _ k4 => ?_))))
 refine Ya (iV 0) rfl (wK k4 (blockQ fun Q5 qb5 => ?_))
 obtain ⟨o1, go1, hM⟩ := bs hM
 have je1_0 : ∀ (x26 : L2) (h25 : Hdr) (f : FV) (w : World), f 3 = h25.v → St w0 ros (row 22 S1 h25.v x26 :: rs) w → x26 = o1 → Q5 (.exit 0) (fr 20 f) w := by
  intro x26 h25 f w eje1_0_3 hst ho
  subst ho
  refine qb5 _ _ _ (k3 _ _ (sR fun _ k14 => Ym h25.v (eh eje1_0_3) (Ya h25.v e0 (wK k14 (wp_ret ?_)))))
  obtain rfl := someI hM
  exact hQ _ _ _ (fin1r Tryz.results48 ⟨rfl, rfl⟩ ⟨_, rfl, hst⟩)
 replace hst := hst.rowNh 22 S1
 refine loopQ (fun s a w => ∃ (x12 : L2) (x13 : Int) (f : FV) (h11 : Hdr), (x12, x13) = s ∧ a = fr 20 f ∧ f 0 = h2.v ∧ f 3 = h11.v ∧ f 4 = iV x13 ∧ St w0 ros (row 22 S1 h11.v x12 :: rs) w) go1 ⟨_, _, _, _, rfl, rfl, rfl, rfl, rfl, hst⟩ ?_
 rintro _ _ w r1_ ⟨x12, x13, f, h11, rfl, rfl, e1_0, e1_3, e1_4, hst⟩ hM1 ho1 Q100001 n1 zz1
 refine seqQ fun Q15 k15 z15 => sR fun _ k16 => Ym (iV x13) (eh e1_4) (Ym h2.v (eh e1_0) (yY (yLen SL_24 e0 hst (rdI q1)) (yY (ylss e0 e0) (wK k16 ?_))))
 rcases iteS hM1 with ⟨c27, hM1⟩ | ⟨c27, hM1⟩
 ·refine cT e0 c27 (wp_skip (k15 _ _ (sQ fun _ k17 => blockQ fun _ qb18 => wR (Ym h11.v (eh e1_3) (Ym h2.v (eh e1_0) (Ym (iV x13) (eh e1_4) ?_))))))
  obtain ⟨x28, gx28, hM1⟩ := bs hM1
  refine yY (yIa SL_24 e0 e0 hst (rdI q1) gx28) ?_
  obtain ⟨h29, hst⟩ := iLs hst q1 gx28
  refine yY (yCt O_22 e0 hst F1 rfl) ?_
  obtain ⟨r30, gr30, hM1⟩ := bs hM1
  refine Yc wn rfl (yCall FN_47 (a1 e0)) (sparsekit_TwinInts_ok gr30 F0 hst) ?_
  rintro _ w ⟨h31, rfl, hst⟩
  refine ⟨_, rfl, ?_⟩
  replace hst := hst.fz
  refine YH wn rfl (rLt (n := 1) (l := [r30]) hst SL_24 [h31.v] (bp1 e0) rfl rfl (mks1 (cs := [h31.v]) rfl (mkS F0) mks0)) ?_
  intro h32 w hst
  obtain ⟨x34, gx34, hM1⟩ := bs hM1
  replace hst := hst.pk 2 [1, 0] rfl
  refine YH wn rfl (rAp hst SL_24 e0 e0 rO1 gx34) ?_
  intro h33 w hst
  refine Ya h33.v e0 (wN (qb18 _ _ _ (k17 _ _ (wR (Ym (iV x13) (eh e1_4) (yY (yadd e0 rfl) (Ya (iV (wa .i64 x13 1)) e0 (wN ?_))))))))
  obtain rfl := someI hM1
  exact n1 _ _ _ rfl ⟨_, _, _, _, rfl, rfl, e1_0, rfl, rfl, ((hst.pk 2 [0] rfl).facts (allT (allT (allT allI))))⟩
 ·refine cF e0 c27 (wp_exit (z15 _ _ _ rfl ?_))
  obtain rfl := someI hM1
  exact zz1 _ _ _ _ rfl rfl (je1_0 _ _ _ _ e1_3 hst (ho1 _ rfl))
theorem sparsekit_TwinGraph_ok {x1 : L2} {h2 : Hdr} {out : L2} (hM : sparsekit_TwinGraph x1 = some out) (q1 : imm S1 h2.v x1 ∈ ros) (hst : St w0 ros rs w) :
  Calls Tryz.prog 26 #[.agg #[h2.v]] w (fun e w => ∃ (h100001 : Hdr), e = .returned (.agg #[h100001.v]) ∧ St w0 ros (row 22 S1 h100001.v out :: rs) w) := by
 refine enterQ Tryz.func26 rfl Tryz.ntmps26 rfl fun Q hQ => sR fun _ k1 => YB wn rfl (r_box (vals := [h2.v]) hst e0 rfl) ?_
 intro b3 w hst
 refine YB wn rfl (rAl hst ZT_26) ?_
 intro b4 w hst
 refine wK k1 (sR fun _ k2 => yY (yFb FL_26_0 e0) (yY (lb_ h2.v O_24 e0 hst R1) ?_))
 obtain ⟨r5, gr5, hM⟩ := bs hM
 refine Yc wn rfl (yCall FN_48 (a1 e0)) (sparsekit_TwinLists_ok gr5 q1 hst) ?_
 rintro _ w ⟨h6, rfl, hst⟩
 refine ⟨_, rfl, ?_⟩
 refine yY (ybuild (us := [h6.v]) [(0, h6.v)] SO_26 (bp1 e0) rfl) ?_
 replace hst := hst.pk 2 [1, 0] rfl
 refine YT wn rfl (r_stbn (vals' := [h6.v]) (us := [h6.v]) hst ST_26 e0 e0 rfl rfl (one_of rfl) rfl) ?_
 intro w hst
 refine wK k2 (wp_ret ?_)
 obtain rfl := someI hM
 exact hQ _ _ _ (fin1r Tryz.results26 (rcs2 rfl rfl hst R0 ST_26 rfl) ⟨_, rfl, (hst.pk 3 [1] rfl)⟩)
theorem sparsekit_TwinWeighted_ok {x1 : L2} {x3 : LI} {x5 : L2} {h2 h4 h6 : Hdr} {out : L2 × LI × L2} (hM : sparsekit_TwinWeighted x1 x3 x5 = some out) (q1 : imm S1 h2.v x1 ∈ ros) (q2 : imm I1 h4.v x3 ∈ ros) (q3 : imm S1 h6.v x5 ∈ ros) (hst : St w0 ros rs w) :
  Calls Tryz.prog 20 #[.agg #[h2.v, h4.v, h6.v]] w (fun e w => ∃ (h100001 h100003 h100005 : Hdr), e = .returned (.agg #[h100001.v, h100003.v, h100005.v]) ∧ St w0 ros (row 22 S1 h100001.v out.1 :: row 3 I1 h100003.v out.2.1 :: row 22 S1 h100005.v out.2.2 :: rs) w) := by
 refine enterQ Tryz.func20 rfl Tryz.ntmps20 rfl fun Q hQ => sR fun _ k1 => YB wn rfl (r_box (vals := [h2.v, h4.v, h6.v]) hst e0 rfl) ?_
 intro b7 w hst
 refine YB wn rfl (rAl hst ZT_28) ?_
 intro b8 w hst
 refine wK k1 (sQ fun _ k2 => ?_)
 obtain ⟨r9, gr9, hM⟩ := bs hM
 obtain ⟨r11, gr11, hM⟩ := bs hM
 obtain ⟨r13, gr13, hM⟩ := bs hM
 refine dR [0, 1, 3, 0, 8, 31, 0, 64, 255, 511, 1023] [2, 5, 8, 10] 4 folM ?_
 replace hst := hst.drew
 refine Dn [0, 1, 3, 4, 6, 7] [] [2] (yR rfl (yFb FL_28_0 e0) (yR rfl (lbs_ [h2.v] ST_26 e0 hst R1) (yR rfl (yFb FL_28_1 e0) (yR rfl (lb_ h4.v O_22 e0 hst R1) (yR rfl (yFb FL_28_2 e0) (yR rfl (lb_ h6.v O_24 e0 hst R1) (Rn QSn ?_)))))))
 refine Lc1 rfl ?_
 refine Lk wn (yCall FN_26 (a1 e0)) (sparsekit_TwinGraph_ok gr9 q1 hst) ?_
 rintro _ w ⟨h10, rfl, hst⟩
 refine ⟨_, rfl, ?_⟩
 refine Dn [] [3, 4, 6, 7] [5] (Rn (yS rfl (yFb FL_28_1 e0) (yS rfl (lb_ h4.v O_22 e0 hst R2) (yS rfl (yFb FL_28_2 e0) (yS rfl (lb_ h6.v O_24 e0 hst R2) QSn)))) ?_)
 refine Lc1 rfl ?_
 refine Lk wn (yCall FN_47 (a1 e0)) (sparsekit_TwinInts_ok gr11 q2 hst) ?_
 rintro _ w ⟨h12, rfl, hst⟩
 refine ⟨_, rfl, ?_⟩
 refine Dn [] [6, 7] [8] (Rn (yS rfl (yFb FL_28_2 e0) (yS rfl (lb_ h6.v O_24 e0 hst R3) QSn)) ?_)
 refine Lc1 rfl ?_
 refine Lk wn (yCall FN_48 (a1 e0)) (sparsekit_TwinLists_ok gr13 q3 hst) ?_
 rintro _ w ⟨h14, rfl, hst⟩
 refine ⟨_, rfl, ?_⟩
 refine Dn [9] [] [10] (yR rfl (ybuild (us := [h10.v, h12.v, h14.v]) [(0, .agg #[h10.v]), (1, h12.v), (2, h14.v)] SO_28 (bp3 e0 e0 e0) rfl) (Rn QSn ?_))
 refine Lc1 rfl ?_
 replace hst := hst.pk 4 [3, 0, 0, 0] rfl
 refine LT wn (r_stbn (vals' := [h10.v, h12.v, h14.v]) (us := [h10.v, h12.v, h14.v]) hst ST_28 e0 e0 rfl rfl (one_of rfl) rfl) ?_
 intro w hst
 refine Dz [] [] (Rn QSn (k2 _ _ (wp_ret ?_)))
 obtain rfl := someI hM
 exact hQ _ _ _ (fin1r Tryz.results20 (rcs2 rfl rfl hst R0 ST_28 rfl) ⟨_, _, _, rfl, (hst.pk 5 [3, 2, 1] rfl)⟩)
theorem dissect_weight_ok {x1 : L2} {x3 : LI} {x5 : L2} {x7 x8 : Int} {h2 h4 h6 : Hdr} {out : Int} (hM : dissect_weight x1 x3 x5 x7 x8 = some out) (q1 : imm S1 h2.v x1 ∈ ros) (q2 : imm I1 h4.v x3 ∈ ros) (q3 : imm S1 h6.v x5 ∈ ros) (hst : St w0 ros rs w) :
  Calls Tryz.prog 53 #[.agg #[h2.v, h4.v, h6.v], iV x7, iV x8] w (fun e w => e = .returned (iV out) ∧ St w0 ros rs w) := by
 refine enterQ Tryz.func53 rfl Tryz.ntmps53 rfl fun Q hQ => sR fun _ k1 => YB wn rfl (r_box (vals := [h2.v, h4.v, h6.v]) hst e0 rfl) ?_
 intro b9 w hst
 refine Ya (iV 0) rfl (wK k1 (sR fun _ k2 => yY (yFb FL_28_0 e0) (yY (yFb FL_26_0 e0) (yY (lb_ h2.v O_24 e0 hst R0) (Ym (iV x7) e0 ?_)))))
 obtain ⟨x10, gx10, hM⟩ := bs hM
 refine yY (yIa SL_24 e0 e0 hst (rdI q1) gx10) ?_
 obtain ⟨h11, hst⟩ := iLs hst q1 gx10
 refine yY (yCt O_22 e0 hst F1 rfl) (Ym (iV x8) e0 ?_)
 obtain ⟨r12, gr12, hM⟩ := bs hM
 refine Yc wn rfl (yCall FN_84 (a2 e0 e0)) (slices_BinarySearch_int_ok gr12 F0 hst) ?_
 rintro _ w ⟨rfl, hst⟩
 refine ⟨_, rfl, ?_⟩
 refine Ym (.tuple #[iV r12.1, .bool r12.2]) e0 (yY (x_ (iV r12.1) e0) (yY (x_ (.bool r12.2) e0) (Ya (iV r12.1) e0 (Ya (.bool r12.2) e0 (wK k2 (sR fun _ k3 => yY (yFb FL_28_2 e0) (yY (lb_ h6.v O_24 e0 hst R0) (Ym (iV x7) e0 ?_))))))))
 obtain ⟨x13, gx13, hM⟩ := bs hM
 refine yY (yIa SL_24 e0 e0 hst (rdI (F_2 q3)) gx13) ?_
 obtain ⟨h14, hst⟩ := iLs hst (F_2 q3) gx13
 refine yY (yCt O_22 e0 hst F1 rfl) (Ym (iV r12.1) e0 ?_)
 obtain ⟨x15, gx15, hM⟩ := bs hM
 refine yY (yIa SL_22 e0 e0 hst (rdI F0) gx15) (yY (yI O_3 e0 hst (rdI F0) gx15) (Ya (iV x15) e0 (wK k3 (wp_ret ?_))))
 obtain rfl := someI hM
 exact hQ _ _ _ (fin1r Tryz.results53 ⟨rfl, rfl⟩ ⟨rfl, ((hst.pk 1 [] rfl).facts (allT (allT (allT (allT allI)))))⟩)
theorem dissect_CheckWeighted_ok {x1 : L2} {x3 : LI} {x5 : L2} {h2 h4 h6 : Hdr} {out : Int} (hM : dissect_CheckWeighted x1 x3 x5 = some out) (q1 : imm S1 h2.v x1 ∈ ros) (q2 : imm I1 h4.v x3 ∈ ros) (q3 : imm S1 h6.v x5 ∈ ros) (hst : St w0 ros rs w) :
  Calls Tryz.prog 23 #[.agg #[h2.v, h4.v, h6.v]] w (fun e w => e = .returned (iV out) ∧ St w0 ros rs w) := by
 refine enterQ Tryz.func23 rfl Tryz.ntmps23 rfl fun Q hQ => sR fun _ k1 => YB wn rfl (r_box (vals := [h2.v, h4.v, h6.v]) hst e0 rfl) ?_
 intro b7 w hst
 refine Ya (iV 0) rfl (wK k1 (sR fun _ k2 => yY (yFb FL_28_0 e0) (yY (lbs_ [h2.v] ST_26 e0 hst R0) ?_)))
 obtain ⟨r8, gr8, hM⟩ := bs hM
 refine Yc wn rfl (yCall FN_51 (a1 e0)) (graph_Check_ok gr8 q1 hst) ?_
 rintro _ w ⟨rfl, hst⟩
 refine ⟨_, rfl, ?_⟩
 refine Ya (iV r8) e0 (wK k2 (seqQ fun Q3 k3 z3 => sR fun _ k4 => Ym (iV r8) e0 (yY (yneq e0 rfl) (wK k4 ?_))))
 rcases iteS hM with ⟨c9, hM⟩ | ⟨c9, hM⟩
 ·refine condF e0 (nF (dT c9)) (wp_skip (k3 _ _ (sR fun _ k5 => yY (yFb FL_28_0 e0) (yY (yFb FL_26_0 e0) (yY (lb_ h2.v O_24 e0 hst R0) (yY (yLen SL_24 e0 hst (rdI q1)) (Ya (iV (x1.length : Int)) e0 (wK k5 (seqQ fun Q6 k6 z6 => sQ fun _ k7 => ?_)))))))))
  refine wR (yY (yFb FL_28_1 e0) (yY (lb_ h4.v O_22 e0 hst R0) (yY (yLen SL_22 e0 hst (rdI q2)) (Ym (iV (x1.length : Int)) e0 (yY (yneq e0 e0) (Ym (.bool (!(decide ((x3.length : Int) = (x1.length : Int))))) e0 ?_))))))
  refine joinW 6 (fun f w => f 1 = (pB b7) ∧ f 32 = .bool ((!(decide ((x3.length : Int) = (x1.length : Int)))) || (!(decide ((x5.length : Int) = (x1.length : Int))))) ∧ St w0 ros (box b7 28 [h2.v, h4.v, h6.v] :: rs) w) (fun j1 => ?_) ?_
  ·rcases Bool.eq_false_or_eq_true (!(decide ((x3.length : Int) = (x1.length : Int)))) with c11 | c11
   ·exact gN c11 (gN c11 (gN c11 (gN c11 (gN c11 (yY (pt_ (.bool true) e0 c11 rfl) (j1 _ _ ⟨rfl, (congrArg Value.bool (orT c11)), hst⟩))))))
   ·exact yG c11 (yFb FL_28_2 e0) (yG c11 (lb_ h6.v O_24 e0 hst R0) (yG c11 (yLen SL_24 e0 hst (rdI q3)) (yG c11 (m_ (iV (x1.length : Int)) e0) (yG c11 (yneq e0 e0) (yY (pf_ (.bool (!(decide ((x5.length : Int) = (x1.length : Int))))) e0 c11 e0) (j1 _ _ ⟨rfl, (congrArg Value.bool (orF c11)), hst⟩))))))
  rintro f w ⟨e10_1, e10_32, hst⟩
  refine Ym (.bool ((!(decide ((x3.length : Int) = (x1.length : Int)))) || (!(decide ((x5.length : Int) = (x1.length : Int)))))) (eh e10_32) ?_
  obtain ⟨r13, gr13, hM⟩ := bs hM
  refine joinW 5 (fun f w => f 1 = (pB b7) ∧ f 38 = .bool r13 ∧ St w0 ros (box b7 28 [h2.v, h4.v, h6.v] :: rs) w) (fun j2 => ?_) ?_
  ·rcases iteS gr13 with ⟨c15, gr13⟩ | ⟨c15, gr13⟩
   ·refine gN c15 (gN c15 (gN c15 (gN c15 (yY (pt_ (.bool true) e0 c15 rfl) ?_))))
    obtain rfl := someI gr13
    exact j2 _ _ ⟨e10_1, rfl, hst⟩
   ·refine yG (bfalse c15) (yFb FL_28_1 (eh e10_1)) (yG (bfalse c15) (lb_ h4.v O_22 e0 hst R0) ?_)
    obtain ⟨r16, gr16, gr13⟩ := bs gr13
    refine Yc (wG (bfalse c15)) rfl (yCall FN_52 (a1 e0)) (dissect_weights_ok gr16 q2 hst) ?_
    rintro _ w ⟨rfl, hst⟩
    refine ⟨_, rfl, ?_⟩
    refine yG (bfalse c15) (ynot e0) (yY (pf_ (.bool (!r16)) e0 (bfalse c15) e0) ?_)
    obtain rfl := someI gr13
    exact j2 _ _ ⟨e10_1, rfl, hst⟩
  rintro f w ⟨e14_1, e14_38, hst⟩
  refine wK k7 ?_
  rcases iteS hM with ⟨c17, hM⟩ | ⟨c17, hM⟩
  ·refine condT (eh e14_38) c17 (sR fun _ k8 => Ya (iV 1) rfl (wK k8 (wp_ret (z6 _ _ _ rfl ?_))))
   obtain rfl := someI hM
   exact hQ _ _ _ (fin1r Tryz.results23 ⟨rfl, rfl⟩ ⟨rfl, (hst.pk 1 [] rfl)⟩)
  ·refine condF (eh e14_38) (bfalse c17) (wp_skip (k6 _ _ (seqQ fun Q9 k9 z9 => sR fun _ k10 => yY (yFb FL_28_0 (eh e14_1)) (yY (yFb FL_26_0 e0) (yY (lb_ h2.v O_24 e0 hst R0) (yY (yLen SL_24 e0 hst (rdI q1)) (Ym (iV 0) rfl (wK k10 (blockQ fun Q11 qb11 => ?_)))))))))
   obtain ⟨o5, go5, hM⟩ := bs hM
   have je5_0 : ∀ (f : FV) (w : World), f 1 = (pB b7) → St w0 ros (box b7 28 [h2.v, h4.v, h6.v] :: rs) w → .inl () = o5 → Q11 (.exit 0) (fr 98 f) w := by
    intro f w eje5_0_1 hst ho
    subst ho
    refine qb11 _ _ _ (k9 _ _ (seqQ fun Q26 k26 z26 => sR fun _ k27 => yY (yFb FL_28_0 (eh eje5_0_1)) (yY (yFb FL_26_0 e0) (yY (lb_ h2.v O_24 e0 hst R0) (yY (yLen SL_24 e0 hst (rdI q1)) (Ym (iV 0) rfl (wK k27 (blockQ fun Q28 qb28 => ?_))))))))
    obtain ⟨o8, go8, hM⟩ := bs hM
    have je8_0 : ∀ (f : FV) (w : World), St w0 ros rs w → .inl () = o8 → Q28 (.exit 2) (fr 98 f) w := by
     intro f w hst ho
     subst ho
     refine qb28 _ _ _ (k26 _ _ (sR fun _ k85 => Ya (iV 0) rfl (wK k85 (wp_ret ?_))))
     obtain rfl := someI hM
     exact hQ _ _ _ (fin1r Tryz.results23 ⟨rfl, rfl⟩ ⟨rfl, hst⟩)
    have je8_1 : ∀ (f : FV) (w : World), f 2 = iV 1 → St w0 ros rs w → .inr () = o8 → Q28 .ret (fr 98 f) w := by
     intro f w eje8_1_2 hst ho
     subst ho
     refine qb28 _ _ _ (z26 _ _ _ rfl ?_)
     obtain rfl := someI hM
     exact hQ _ _ _ (fin1r Tryz.results23 ⟨rfl, eje8_1_2⟩ ⟨rfl, hst⟩)
    refine loopQ (fun s a w => ∃ (x76 : Int) (f : FV), x76 = s ∧ a = fr 98 f ∧ f 1 = (pB b7) ∧ f 69 = h2.v ∧ f 70 = iV (x1.length : Int) ∧ f 71 = iV x76 ∧ St w0 ros (box b7 28 [h2.v, h4.v, h6.v] :: rs) w) go8 ⟨_, _, rfl, rfl, eje5_0_1, rfl, rfl, rfl, hst⟩ ?_
    rintro _ _ w r8_ ⟨x76, f, rfl, rfl, e8_1, e8_69, e8_70, e8_71, hst⟩ hM8 ho8 Q100008 n8 zz8
    refine sR fun _ k86 => yY (ylss (eh e8_71) (eh e8_70)) (wK k86 (seqQ fun Q87 k87 z87 => ?_))
    rcases iteS hM8 with ⟨c104, hM8⟩ | ⟨c104, hM8⟩
    ·refine cT e0 c104 (wp_skip (k87 _ _ (seqQ fun Q88 k88 z88 => blockQ fun _ qb89 => sR fun _ k90 => Ym (iV x76) (eh e8_71) ?_)))
     obtain ⟨x105, gx105, hM8⟩ := bs hM8
     refine yY (yIa SL_24 (eh e8_69) (eh e8_71) hst (rdI q1) gx105) ?_
     obtain ⟨h106, hst⟩ := iLs hst q1 gx105
     refine yY (yCt O_22 e0 hst F1 rfl) (Ya (iV x76) e0 (Ya h106.v e0 (wK k90 (sR fun _ k91 => Ym h106.v e0 (yY (yLen SL_22 e0 hst (rdI F0)) (Ym (iV 0) rfl (wK k91 (blockQ fun Q92 qb92 => ?_))))))))
     obtain ⟨o9, go9, hM8⟩ := bs hM8
     have je9_0 : ∀ (f : FV) (w : World), f 1 = (pB b7) → f 69 = h2.v → f 70 = iV (x1.length : Int) → f 71 = iV x76 → St w0 ros (box b7 28 [h2.v, h4.v, h6.v] :: rs) w → .inl () = o9 → Q92 (.exit 4) (fr 98 f) w := by
      intro f w eje9_0_1 eje9_0_69 eje9_0_70 eje9_0_71 hst ho
      subst ho
      refine qb92 _ _ _ (qb89 _ _ _ (k88 _ _ (wR (yY (yadd (eh eje9_0_71) rfl) (Ym (iV (wa .i64 x76 1)) e0 (wN ?_))))))
      obtain rfl := someI hM8
      exact n8 _ _ _ rfl ⟨_, _, rfl, rfl, eje9_0_1, eje9_0_69, eje9_0_70, rfl, hst⟩
     have je9_1 : ∀ (f : FV) (w : World), f 2 = iV 1 → St w0 ros rs w → .inr () = o9 → Q92 .ret (fr 98 f) w := by
      intro f w eje9_1_2 hst ho
      subst ho
      refine qb92 _ _ _ (qb89 _ _ _ (z88 _ _ _ rfl ?_))
      obtain rfl := someI hM8
      exact zz8 _ _ _ _ rfl rfl (je8_1 _ _ eje9_1_2 hst (ho8 _ rfl))
     refine loopQ (fun s a w => ∃ (x114 : Int) (f : FV), x114 = s ∧ a = fr 98 f ∧ f 1 = (pB b7) ∧ f 7 = iV x76 ∧ f 69 = h2.v ∧ f 70 = iV (x1.length : Int) ∧ f 71 = iV x76 ∧ f 76 = h106.v ∧ f 77 = iV (x105.length : Int) ∧ f 78 = iV x114 ∧ St w0 (imm I1 h106.v x105 :: ros) (box b7 28 [h2.v, h4.v, h6.v] :: rs) w) go9 ⟨_, _, rfl, rfl, e8_1, rfl, e8_69, e8_70, e8_71, rfl, rfl, rfl, (hst.facts (allC F0 (allT (allT allI))))⟩ ?_
     rintro _ _ w r9_ ⟨x114, f, rfl, rfl, e9_1, e9_7, e9_69, e9_70, e9_71, e9_76, e9_77, e9_78, hst⟩ hM9 ho9 Q100009 n9 zz9
     refine sR fun _ k107 => yY (ylss (eh e9_78) (eh e9_77)) (wK k107 (seqQ fun Q108 k108 z108 => ?_))
     rcases iteS hM9 with ⟨c123, hM9⟩ | ⟨c123, hM9⟩
     ·refine cT e0 c123 (wp_skip (k108 _ _ (seqQ fun Q109 k109 z109 => blockQ fun _ qb110 => sR fun _ k111 => Ym (iV x114) (eh e9_78) ?_)))
      obtain ⟨x124, gx124, hM9⟩ := bs hM9
      refine yY (yIa SL_22 (eh e9_76) (eh e9_78) hst (rdI F0) gx124) (yY (yI O_3 e0 hst (rdI F0) gx124) (Ya (iV x114) e0 (Ya (iV x124) e0 (wK k111 (sQ fun _ k112 => ?_)))))
      obtain ⟨x125, gx125, hM9⟩ := bs hM9
      obtain ⟨x127, gx127, hM9⟩ := bs hM9
      obtain ⟨r128, gr128, hM9⟩ := bs hM9
      refine dR [0, 1, 0, 7, 15, 0, 63, 127, 0, 0, 0, 1792, 4095] [11] 1 folM ?_
      replace hst := hst.drew
      refine Dn [0, 1, 2, 3, 4, 5, 6, 7, 8, 9, 10] [] [11] (yR rfl (yFb FL_28_2 (eh e9_1)) (yR rfl (lb_ h6.v O_24 e0 hst R0) (yR rfl (m_ (iV x76) (eh e9_7)) (yR rfl (yIa SL_24 e0 e0 hst (rdI (mtF q3)) gx125) ?_))))
      obtain ⟨h126, hst⟩ := iLs hst (mtF q3) gx125
      refine yR rfl (yCt O_22 e0 hst F1 rfl) (yR rfl (m_ (iV x114) e0) (yR rfl (yIa SL_22 e0 e0 hst (rdI F0) gx127) (yR rfl (yI O_3 e0 hst (rdI F0) gx127) (yR rfl (lbs_ [h2.v, h4.v, h6.v] ST_28 (eh e9_1) hst R0) (yR rfl (m_ (iV x124) e0) (yR rfl (m_ (iV x76) (eh e9_7)) (Rn QSn ?_)))))))
      refine Lc1 rfl ?_
      refine Lk wn (yCall FN_53 (a3 e0 e0 e0)) (dissect_weight_ok gr128 (F_3 q1) (F_3 q2) (F_3 q3) hst) ?_
      rintro _ w ⟨rfl, hst⟩
      refine ⟨_, rfl, ?_⟩
      refine Dz [12] [0, 1, 2, 3, 4, 5, 6, 7] (yR rfl (yneq e0 e0) (Rn (yS rfl (yFb FL_28_2 (eh e9_1)) (yS rfl (lb_ h6.v O_24 e0 hst R0) (yS rfl (m_ (iV x76) (eh e9_7)) (yS rfl (yIa SL_24 e0 e0 hst (rdI (F_3 q3)) gx125) (yS rfl (yCt O_22 e0 hst F1 rfl) (yS rfl (m_ (iV x114) e0) (yS rfl (yIa SL_22 e0 e0 hst (rdI F0) gx127) (yS rfl (yI O_3 e0 hst (rdI F0) gx127) QSn)))))))) (k112 _ _ ?_)))
      rcases iteS hM9 with ⟨c129, hM9⟩ | ⟨c129, hM9⟩
      ·refine condF e0 (nF (dT c129)) (wp_skip (qb110 _ _ _ (k109 _ _ (wR (yY (yadd (eh e9_78) rfl) (Ym (iV (wa .i64 x114 1)) e0 (wN ?_)))))))
       obtain rfl := someI hM9
       exact n9 _ _ _ rfl ⟨_, _, rfl, rfl, e9_1, e9_7, e9_69, e9_70, e9_71, e9_76, e9_77, rfl, (hst.facts (allC F2 (allT (allT (allT allI)))))⟩
      ·refine condT e0 (nT (dF c129)) (sR fun _ k113 => Ya (iV 1) rfl (wK k113 (wp_ret (qb110 _ _ _ (z109 _ _ _ rfl ?_)))))
       obtain rfl := someI hM9
       exact zz9 _ _ _ _ rfl rfl (je9_1 _ _ rfl ((hst.pk 1 [] rfl).facts (allT (allT (allT allI)))) (ho9 _ rfl))
     ·refine cF e0 c123 (wp_exit (z108 _ _ _ rfl ?_))
      obtain rfl := someI hM9
      exact zz9 _ _ _ _ rfl rfl (je9_0 _ _ e9_1 e9_69 e9_70 e9_71 (hst.facts (allT allI)) (ho9 _ rfl))
    ·refine cF e0 c104 (wp_exit (z87 _ _ _ rfl ?_))
     obtain rfl := someI hM8
     exact zz8 _ _ _ _ rfl rfl (je8_0 _ _ (hst.pk 1 [] rfl) (ho8 _ rfl))
   have je5_1 : ∀ (f : FV) (w : World), f 2 = iV 1 → St w0 ros rs w → .inr () = o5 → Q11 .ret (fr 98 f) w := by
    intro f w eje5_1_2 hst ho
    subst ho
    refine qb11 _ _ _ (z9 _ _ _ rfl ?_)
    obtain rfl := someI hM
    exact hQ _ _ _ (fin1r Tryz.results23 ⟨rfl, eje5_1_2⟩ ⟨rfl, hst⟩)
   refine loopQ (fun s a w => ∃ (x33 : Int) (f : FV), x33 = s ∧ a = fr 98 f ∧ f 1 = (pB b7) ∧ f 41 = h2.v ∧ f 42 = iV (x1.length : Int) ∧ f 43 = iV x33 ∧ St w0 ros (box b7 28 [h2.v, h4.v, h6.v] :: rs) w) go5 ⟨_, _, rfl, rfl, e14_1, rfl, rfl, rfl, hst⟩ ?_
   rintro _ _ w r5_ ⟨x33, f, rfl, rfl, e5_1, e5_41, e5_42, e5_43, hst⟩ hM5 ho5 Q100005 n5 zz5
   refine sR fun _ k114 => yY (ylss (eh e5_43) (eh e5_42)) (wK k114 (seqQ fun Q115 k115 z115 => ?_))
   rcases iteS hM5 with ⟨c130, hM5⟩ | ⟨c130, hM5⟩
   ·refine cT e0 c130 (wp_skip (k115 _ _ (seqQ fun Q116 k116 z116 => blockQ fun _ qb117 => sR fun _ k118 => Ym (iV x33) (eh e5_43) ?_)))
    obtain ⟨x131, gx131, hM5⟩ := bs hM5
    refine yY (yIa SL_24 (eh e5_41) (eh e5_43) hst (rdI q1) gx131) ?_
    obtain ⟨h132, hst⟩ := iLs hst q1 gx131
    refine yY (yCt O_22 e0 hst F1 rfl) (Ya (iV x33) e0 (Ya h132.v e0 (wK k118 (sR fun _ k119 => yY (yFb FL_28_2 (eh e5_1)) (yY (lb_ h6.v O_24 e0 hst R0) (Ym (iV x33) e0 ?_))))))
    obtain ⟨x133, gx133, hM5⟩ := bs hM5
    refine yY (yIa SL_24 e0 e0 hst (rdI (F_2 q3)) gx133) ?_
    obtain ⟨h134, hst⟩ := iLs hst (F_2 q3) gx133
    refine yY (yCt O_22 e0 hst F1 rfl) (yY (yLen SL_22 e0 hst (rdI F0)) (Ym h132.v e0 (yY (yLen SL_22 e0 hst (rdI F2)) (yY (yneq e0 e0) (Ym (.bool (!(decide ((x133.length : Int) = (x131.length : Int))))) e0 ?_)))))
    obtain ⟨r138, gr138, hM5⟩ := bs hM5
    refine joinW 8 (fun f w => f 1 = (pB b7) ∧ f 41 = h2.v ∧ f 42 = iV (x1.length : Int) ∧ f 43 = iV x33 ∧ f 65 = .bool r138 ∧ St w0 ros (box b7 28 [h2.v, h4.v, h6.v] :: rs) w) (fun j10 => ?_) ?_
    ·rcases iteS gr138 with ⟨c140, gr138⟩ | ⟨c140, gr138⟩
     ·refine yG (nF (dT c140)) (yFb FL_28_2 (eh e5_1)) (yG (nF (dT c140)) (lb_ h6.v O_24 e0 hst R0) (yG (nF (dT c140)) (m_ (iV x33) e0) ?_))
      obtain ⟨x141, gx141, gr138⟩ := bs gr138
      refine yG (nF (dT c140)) (yIa SL_24 e0 e0 hst (rdI (F_4 q3)) gx141) ?_
      obtain ⟨h142, hst⟩ := iLs hst (F_4 q3) gx141
      refine yG (nF (dT c140)) (yCt O_22 e0 hst F1 rfl) ?_
      obtain ⟨r143, gr143, gr138⟩ := bs gr138
      refine Yc (wG (nF (dT c140))) rfl (yCall FN_52 (a1 e0)) (dissect_weights_ok gr143 F0 hst) ?_
      rintro _ w ⟨rfl, hst⟩
      refine ⟨_, rfl, ?_⟩
      refine yG (nF (dT c140)) (ynot e0) (yY (pf_ (.bool (!r143)) e0 (nF (dT c140)) e0) ?_)
      obtain rfl := someI gr138
      exact j10 _ _ ⟨e5_1, e5_41, e5_42, e5_43, rfl, (hst.facts (allT (allT (allT (allT (allT (allT allI)))))))⟩
     ·refine gN (nT (dF c140)) (gN (nT (dF c140)) (gN (nT (dF c140)) (gN (nT (dF c140)) (gN (nT (dF c140)) (gN (nT (dF c140)) (gN (nT (dF c140)) (yY (pt_ (.bool true) e0 (nT (dF c140)) rfl) ?_)))))))
      obtain rfl := someI gr138
      exact j10 _ _ ⟨e5_1, e5_41, e5_42, e5_43, rfl, (hst.facts (allT (allT (allT (allT allI)))))⟩
    rintro f w ⟨e139_1, e139_41, e139_42, e139_43, e139_65, hst⟩
    refine wK k119 ?_
    rcases iteS hM5 with ⟨c144, hM5⟩ | ⟨c144, hM5⟩
    ·refine condT (eh e139_65) c144 (sR fun _ k120 => Ya (iV 1) rfl (wK k120 (wp_ret (qb117 _ _ _ (z116 _ _ _ rfl ?_)))))
     obtain rfl := someI hM5
     exact zz5 _ _ _ _ rfl rfl (je5_1 _ _ rfl (hst.pk 1 [] rfl) (ho5 _ rfl))
    ·refine condF (eh e139_65) (bfalse c144) (wp_skip (qb117 _ _ _ (k116 _ _ (wR (yY (yadd (eh e139_43) rfl) (Ym (iV (wa .i64 x33 1)) e0 (wN ?_)))))))
     obtain rfl := someI hM5
     exact n5 _ _ _ rfl ⟨_, _, rfl, rfl, e139_1, e139_41, e139_42, rfl, hst⟩
   ·refine cF e0 c130 (wp_exit (z115 _ _ _ rfl ?_))
    obtain rfl := someI hM5
    exact zz5 _ _ _ _ rfl rfl (je5_0 _ _ e5_1 hst (ho5 _ rfl))
 ·refine condT e0 (nT (dF c9)) (sR fun _ k121 => Ym (iV r8) e0 (Ya (iV r8) e0 (wK k121 (wp_ret (z3 _ _ _ rfl ?_)))))
  obtain rfl := someI hM
  exact hQ _ _ _ (fin1r Tryz.results23 ⟨rfl, rfl⟩ ⟨rfl, (hst.pk 1 [] rfl)⟩)
theorem dissect_Match_ok {x1 : L2} {x3 : LI} {x5 : L2} {h2 h4 h6 : Hdr} {out : LI × Int} (hM : dissect_Match x1 x3 x5 = some out) (q1 : imm S1 h2.v x1 ∈ ros) (q2 : imm I1 h4.v x3 ∈ ros) (q3 : imm S1 h6.v x5 ∈ ros) (hst : St w0 ros rs w) :
  Calls Tryz.prog 11 #[.agg #[h2.v, h4.v, h6.v]] w (fun e w => ∃ (h100001 : Hdr), e = .returned (.tuple #[h100001.v, iV out.2]) ∧ St w0 ros (row 3 I1 h100001.v out.1 :: rs) w) := by
 refine enterQ Tryz.func11 rfl Tryz.ntmps11 rfl fun Q hQ => sR fun _ k1 => YB wn rfl (r_box (vals := [h2.v, h4.v, h6.v]) hst e0 rfl) ?_
 intro b7 w hst
 refine Ya hnil.v rfl (Ya (iV 0) rfl (wK k1 (sR fun _ k2 => yY (lbs_ [h2.v, h4.v, h6.v] ST_28 e0 hst R0) ?_)))
 obtain ⟨r8, gr8, hM⟩ := bs hM
 refine Yc wn rfl (yCall FN_23 (a1 e0)) (dissect_CheckWeighted_ok gr8 q1 q2 q3 hst) ?_
 rintro _ w ⟨rfl, hst⟩
 refine ⟨_, rfl, ?_⟩
 refine Ya (iV r8) e0 (wK k2 (seqQ fun Q3 k3 z3 => sR fun _ k4 => Ym (iV r8) e0 (yY (yneq e0 rfl) (wK k4 ?_))))
 rcases iteS hM with ⟨c9, hM⟩ | ⟨c9, hM⟩
 ·refine condF e0 (nF (dT c9)) (wp_skip (k3 _ _ (sR fun _ k5 => yY (lbs_ [h2.v, h4.v, h6.v] ST_28 e0 hst R0) ?_)))
  obtain ⟨r10, gr10, hM⟩ := bs hM
  refine Yc wn rfl (yCall FN_40 (a1 e0)) (dissect_match_ok gr10 q1 q2 q3 hst) ?_
  rintro _ w ⟨h11, rfl, hst⟩
  refine ⟨_, rfl, ?_⟩
  refine Ya h11.v e0 (Ya (iV 0) rfl (wK k5 (wp_ret ?_)))
  obtain rfl := someI hM
  exact hQ _ _ _ (fin2r Tryz.results11 ⟨rfl, rfl⟩ ⟨rfl, rfl⟩ ⟨_, rfl, (hst.pk 2 [0] rfl)⟩)
 ·refine condT e0 (nT (dF c9)) (sR fun _ k6 => Ym (iV r8) e0 (Ya hnil.v rfl (Ya (iV r8) e0 (wK k6 (wp_ret (z3 _ _ _ rfl ?_))))))
  obtain rfl := someI hM
  replace hst := hst.rowNh 3 I1
  exact hQ _ _ _ (fin2r Tryz.results11 ⟨rfl, rfl⟩ ⟨rfl, rfl⟩ ⟨_, rfl, (hst.pk 2 [0] rfl)⟩)
theorem sparsekit_Ascending_ok {x1 : LI} {h2 : Hdr} {out : Bool} (hM : sparsekit_Ascending x1 = some out) (q1 : imm I1 h2.v x1 ∈ ros) (hst : St w0 ros rs w) :
  Calls Tryz.prog 66 #[h2.v] w (fun e w => e = .returned (.bool out) ∧ St w0 ros rs w) := by
 refine enterQ Tryz.func66 rfl Tryz.ntmps66 rfl fun Q hQ => sR fun _ k1 => Ya (.bool false) rfl (wK k1 (seqQ fun Q2 k2 z2 => sR fun _ k3 => Ya (iV 1) rfl (wK k3 (blockQ fun Q4 qb4 => ?_))))
 obtain ⟨o1, go1, hM⟩ := bs hM
 have je1_0 : ∀ (f : FV) (w : World), St w0 ros rs w → .inl () = o1 → Q4 (.exit 0) (fr 20 f) w := by
  intro f w hst ho
  subst ho
  refine qb4 _ _ _ (k2 _ _ (sR fun _ k17 => Ya (.bool true) rfl (wK k17 (wp_ret ?_))))
  obtain rfl := someI hM
  exact hQ _ _ _ (fin1r Tryz.results66 ⟨rfl, rfl⟩ ⟨rfl, hst⟩)
 have je1_1 : ∀ (f : FV) (w : World), f 2 = .bool false → St w0 ros rs w → .inr () = o1 → Q4 .ret (fr 20 f) w := by
  intro f w eje1_1_2 hst ho
  subst ho
  refine qb4 _ _ _ (z2 _ _ _ rfl ?_)
  obtain rfl := someI hM
  exact hQ _ _ _ (fin1r Tryz.results66 ⟨rfl, eje1_1_2⟩ ⟨rfl, hst⟩)
 refine loopQ (fun s a w => ∃ (x7 : Int) (f : FV), x7 = s ∧ a = fr 20 f ∧ f 0 = h2.v ∧ f 3 = iV x7 ∧ St w0 ros rs w) go1 ⟨_, _, rfl, rfl, rfl, rfl, hst⟩ ?_
 rintro _ _ w r1_ ⟨x7, f, rfl, rfl, e1_0, e1_3, hst⟩ hM1 ho1 Q100001 n1 zz1
 refine seqQ fun Q18 k18 z18 => sR fun _ k19 => Ym (iV x7) (eh e1_3) (Ym h2.v (eh e1_0) (yY (yLen SL_22 e0 hst (rdI q1)) (yY (ylss e0 e0) (wK k19 ?_))))
 rcases iteS hM1 with ⟨c13, hM1⟩ | ⟨c13, hM1⟩
 ·refine cT e0 c13 (wp_skip (k18 _ _ (seqQ fun Q20 k20 z20 => blockQ fun _ qb21 => sQ fun _ k22 => ?_)))
  obtain ⟨x14, gx14, hM1⟩ := bs hM1
  obtain ⟨x15, gx15, hM1⟩ := bs hM1
  refine dR [0, 0, 3, 7, 0, 0, 32, 112, 240, 511] [] 0 folM ?_
  replace hst := hst.drew
  refine Dz [0, 1, 2, 3, 4, 5, 6, 7, 8, 9] [] (yR rfl (m_ h2.v (eh e1_0)) (yR rfl (m_ (iV x7) (eh e1_3)) (yR rfl (yIa SL_22 e0 e0 hst (rdI q1) gx14) (yR rfl (yI O_3 e0 hst (rdI q1) gx14) (yR rfl (m_ h2.v (eh e1_0)) (yR rfl (m_ (iV x7) (eh e1_3)) (yR rfl (ysub e0 rfl) (yR rfl (yIa SL_22 e0 e0 hst (rdI q1) gx15) (yR rfl (yI O_3 e0 hst (rdI q1) gx15) (yR rfl (yleq e0 e0) (Rn QSn (k22 _ _ ?_))))))))))))
  rcases iteS hM1 with ⟨c16, hM1⟩ | ⟨c16, hM1⟩
  ·refine cT e0 c16 (sR fun _ k23 => Ya (.bool false) rfl (wK k23 (wp_ret (qb21 _ _ _ (z20 _ _ _ rfl ?_)))))
   obtain rfl := someI hM1
   exact zz1 _ _ _ _ rfl rfl (je1_1 _ _ rfl hst (ho1 _ rfl))
  ·refine cF e0 c16 (wp_skip (qb21 _ _ _ (k20 _ _ (wR (Ym (iV x7) (eh e1_3) (yY (yadd e0 rfl) (Ya (iV (wa .i64 x7 1)) e0 (wN ?_))))))))
   obtain rfl := someI hM1
   exact n1 _ _ _ rfl ⟨_, _, rfl, rfl, e1_0, rfl, hst⟩
 ·refine cF e0 c13 (wp_exit (z18 _ _ _ rfl ?_))
  obtain rfl := someI hM1
  exact zz1 _ _ _ _ rfl rfl (je1_0 _ _ hst (ho1 _ rfl))
theorem sparsekit_In_ok {x1 : LI} {x3 : Int} {h2 : Hdr} {out : Bool} (hM : sparsekit_In x1 x3 = some out) (q1 : imm I1 h2.v x1 ∈ ros) (hst : St w0 ros rs w) :
  Calls Tryz.prog 37 #[h2.v, iV x3] w (fun e w => e = .returned (.bool out) ∧ St w0 ros rs w) := by
 refine enterQ Tryz.func37 rfl Tryz.ntmps37 rfl fun Q hQ => sR fun _ k1 => Ya (.bool false) rfl (wK k1 (seqQ fun Q2 k2 z2 => sR fun _ k3 => Ya (iV 0) rfl (wK k3 (blockQ fun Q4 qb4 => ?_))))
 obtain ⟨o1, go1, hM⟩ := bs hM
 have je1_0 : ∀ (f : FV) (w : World), St w0 ros rs w → .inl () = o1 → Q4 (.exit 0) (fr 18 f) w := by
  intro f w hst ho
  subst ho
  refine qb4 _ _ _ (k2 _ _ (sR fun _ k17 => Ya (.bool false) rfl (wK k17 (wp_ret ?_))))
  obtain rfl := someI hM
  exact hQ _ _ _ (fin1r Tryz.results37 ⟨rfl, rfl⟩ ⟨rfl, hst⟩)
 have je1_1 : ∀ (f : FV) (w : World), f 4 = .bool true → St w0 ros rs w → .inr () = o1 → Q4 .ret (fr 18 f) w := by
  intro f w eje1_1_4 hst ho
  subst ho
  refine qb4 _ _ _ (z2 _ _ _ rfl ?_)
  obtain rfl := someI hM
  exact hQ _ _ _ (fin1r Tryz.results37 ⟨rfl, eje1_1_4⟩ ⟨rfl, hst⟩)
 refine loopQ (fun s a w => ∃ (x7 : Int) (f : FV), x7 = s ∧ a = fr 18 f ∧ f 0 = h2.v ∧ f 1 = iV x3 ∧ f 5 = iV x7 ∧ St w0 ros rs w) go1 ⟨_, _, rfl, rfl, rfl, rfl, rfl, hst⟩ ?_
 rintro _ _ w r1_ ⟨x7, f, rfl, rfl, e1_0, e1_1, e1_5, hst⟩ hM1 ho1 Q100001 n1 zz1
 refine seqQ fun Q18 k18 z18 => sR fun _ k19 => Ym (iV x7) (eh e1_5) (Ym h2.v (eh e1_0) (yY (yLen SL_22 e0 hst (rdI q1)) (yY (ylss e0 e0) (wK k19 ?_))))
 rcases iteS hM1 with ⟨c12, hM1⟩ | ⟨c12, hM1⟩
 ·refine cT e0 c12 (wp_skip (k18 _ _ (seqQ fun Q20 k20 z20 => blockQ fun _ qb21 => sR fun _ k22 => Ym h2.v (eh e1_0) (Ym (iV x7) (eh e1_5) ?_))))
  obtain ⟨x13, gx13, hM1⟩ := bs hM1
  refine yY (yIa SL_22 e0 e0 hst (rdI q1) gx13) (yY (yI O_3 e0 hst (rdI q1) gx13) (Ym (iV x3) (eh e1_1) (yY (yeql e0 e0) (wK k22 ?_))))
  rcases iteS hM1 with ⟨c14, hM1⟩ | ⟨c14, hM1⟩
  ·refine cT e0 c14 (sR fun _ k23 => Ya (.bool true) rfl (wK k23 (wp_ret (qb21 _ _ _ (z20 _ _ _ rfl ?_)))))
   obtain rfl := someI hM1
   exact zz1 _ _ _ _ rfl rfl (je1_1 _ _ rfl hst (ho1 _ rfl))
  ·refine cF e0 c14 (wp_skip (qb21 _ _ _ (k20 _ _ (wR (Ym (iV x7) (eh e1_5) (yY (yadd e0 rfl) (Ya (iV (wa .i64 x7 1)) e0 (wN ?_))))))))
   obtain rfl := someI hM1
   exact n1 _ _ _ rfl ⟨_, _, rfl, rfl, e1_0, e1_1, rfl, hst⟩
 ·refine cF e0 c12 (wp_exit (z18 _ _ _ rfl ?_))
  obtain rfl := someI hM1
  exact zz1 _ _ _ _ rfl rfl (je1_0 _ _ hst (ho1 _ rfl))
theorem sparseref12_Check_ok {x1 : L2} {h2 : Hdr} {out : Int} (hM : sparseref12_Check x1 = some out) (q1 : imm S1 h2.v x1 ∈ ros) (hst : St w0 ros rs w) :
  Calls Tryz.prog 54 #[.agg #[h2.v]] w (fun e w => e = .returned (iV out) ∧ St w0 ros rs w) := by
 refine enterQ Tryz.func54 rfl Tryz.ntmps54 rfl fun Q hQ => sR fun _ k1 => YB wn rfl (r_box (vals := [h2.v]) hst e0 rfl) ?_
 intro b3 w hst
 refine Ya (iV 0) rfl (wK k1 (sR fun _ k2 => yY (yFb FL_26_0 e0) (yY (lb_ h2.v O_24 e0 hst R0) (yY (yLen SL_24 e0 hst (rdI q1)) (Ya (iV (x1.length : Int)) e0 (wK k2 (seqQ fun Q3 k3 z3 => sR fun _ k4 => ?_)))))))
 refine Ym (iV (x1.length : Int)) e0 (yY (ygtr e0 rfl) (wK k4 ?_))
 rcases iteS hM with ⟨c4, hM⟩ | ⟨c4, hM⟩
 ·refine cT e0 c4 (sR fun _ k5 => Ya (iV 6) rfl (wK k5 (wp_ret (z3 _ _ _ rfl ?_))))
  obtain rfl := someI hM
  exact hQ _ _ _ (fin1r Tryz.results54 ⟨rfl, rfl⟩ ⟨rfl, (hst.pk 1 [] rfl)⟩)
 ·refine cF e0 c4 (wp_skip (k3 _ _ (seqQ fun Q6 k6 z6 => sR fun _ k7 => Ya (iV 0) rfl (wK k7 (blockQ fun Q8 qb8 => ?_)))))
  obtain ⟨o21, go21, hM⟩ := bs hM
  have je21_0 : ∀ (f : FV) (w : World), St w0 ros rs w → .inl () = o21 → Q8 (.exit 0) (fr 64 f) w := by
   intro f w hst ho
   subst ho
   refine qb8 _ _ _ (k6 _ _ (sR fun _ k69 => Ya (iV 0) rfl (wK k69 (wp_ret ?_))))
   obtain rfl := someI hM
   exact hQ _ _ _ (fin1r Tryz.results54 ⟨rfl, rfl⟩ ⟨rfl, hst⟩)
  have je21_1 : ∀ (f : FV) (w : World), f 2 = iV 1 → St w0 ros rs w → .inr () = o21 → Q8 .ret (fr 64 f) w := by
   intro f w eje21_1_2 hst ho
   subst ho
   refine qb8 _ _ _ (z6 _ _ _ rfl ?_)
   obtain rfl := someI hM
   exact hQ _ _ _ (fin1r Tryz.results54 ⟨rfl, eje21_1_2⟩ ⟨rfl, hst⟩)
  refine loopQ (fun s a w => ∃ (x72 : Int) (f : FV), x72 = s ∧ a = fr 64 f ∧ f 1 = (pB b3) ∧ f 3 = iV (x1.length : Int) ∧ f 4 = iV x72 ∧ St w0 ros (box b3 26 [h2.v] :: rs) w) go21 ⟨_, _, rfl, rfl, rfl, rfl, rfl, hst⟩ ?_
  rintro _ _ w r21_ ⟨x72, f, rfl, rfl, e21_1, e21_3, e21_4, hst⟩ hM21 ho21 Q100021 n21 zz21
  refine seqQ fun Q70 k70 z70 => sR fun _ k71 => Ym (iV x72) (eh e21_4) (Ym (iV (x1.length : Int)) (eh e21_3) (yY (ylss e0 e0) (wK k71 ?_)))
  rcases iteS hM21 with ⟨c141, hM21⟩ | ⟨c141, hM21⟩
  ·refine cT e0 c141 (wp_skip (k70 _ _ (seqQ fun Q72 k72 z72 => blockQ fun _ qb73 => seqQ fun Q74 k74 z74 => sR fun _ k75 => yY (yFb FL_26_0 (eh e21_1)) (yY (lb_ h2.v O_24 e0 hst R0) (Ym (iV x72) (eh e21_4) ?_)))))
   obtain ⟨x142, gx142, hM21⟩ := bs hM21
   refine yY (yIa SL_24 e0 e0 hst (rdI q1) gx142) ?_
   obtain ⟨h143, hst⟩ := iLs hst q1 gx142
   refine yY (yCt O_22 e0 hst F1 rfl) ?_
   obtain ⟨r144, gr144, hM21⟩ := bs hM21
   refine Yc wn rfl (yCall FN_66 (a1 e0)) (sparsekit_Ascending_ok gr144 F0 hst) ?_
   rintro _ w ⟨rfl, hst⟩
   refine ⟨_, rfl, ?_⟩
   refine yY (ynot e0) (wK k75 ?_)
   rcases iteS hM21 with ⟨c145, hM21⟩ | ⟨c145, hM21⟩
   ·refine condF e0 (nF c145) (wp_skip (k74 _ _ (sR fun _ k76 => Ya (iV 0) rfl (wK k76 (blockQ fun Q77 qb77 => ?_)))))
    obtain ⟨o28, go28, hM21⟩ := bs hM21
    have je28_0 : ∀ (f : FV) (w : World), f 1 = (pB b3) → f 3 = iV (x1.length : Int) → f 4 = iV x72 → St w0 ros (box b3 26 [h2.v] :: rs) w → .inl () = o28 → Q77 (.exit 2) (fr 64 f) w := by
     intro f w eje28_0_1 eje28_0_3 eje28_0_4 hst ho
     subst ho
     refine qb77 _ _ _ (qb73 _ _ _ (k72 _ _ (wR (Ym (iV x72) (eh eje28_0_4) (yY (yadd e0 rfl) (Ya (iV (wa .i64 x72 1)) e0 (wN ?_)))))))
     obtain rfl := someI hM21
     exact n21 _ _ _ rfl ⟨_, _, rfl, rfl, eje28_0_1, eje28_0_3, rfl, hst⟩
    have je28_1 : ∀ (f : FV) (w : World), f 2 = iV 1 → St w0 ros rs w → .inr () = o28 → Q77 .ret (fr 64 f) w := by
     intro f w eje28_1_2 hst ho
     subst ho
     refine qb77 _ _ _ (qb73 _ _ _ (z72 _ _ _ rfl ?_))
     obtain rfl := someI hM21
     exact zz21 _ _ _ _ rfl rfl (je21_1 _ _ eje28_1_2 hst (ho21 _ rfl))
    refine loopQ (fun s a w => ∃ (x166 : Int) (f : FV), x166 = s ∧ a = fr 64 f ∧ f 1 = (pB b3) ∧ f 3 = iV (x1.length : Int) ∧ f 4 = iV x72 ∧ f 5 = iV x166 ∧ St w0 ros (box b3 26 [h2.v] :: rs) w) go28 ⟨_, _, rfl, rfl, e21_1, e21_3, e21_4, rfl, (hst.facts (allT (allT allI)))⟩ ?_
    rintro _ _ w r28_ ⟨x166, f, rfl, rfl, e28_1, e28_3, e28_4, e28_5, hst⟩ hM28 ho28 Q100028 n28 zz28
    refine seqQ fun Q92 k92 z92 => sR fun _ k93 => Ym (iV x166) (eh e28_5) (yY (yFb FL_26_0 (eh e28_1)) (yY (lb_ h2.v O_24 e0 hst R0) (Ym (iV x72) (eh e28_4) ?_)))
    obtain ⟨x188, gx188, hM28⟩ := bs hM28
    refine yY (yIa SL_24 e0 e0 hst (rdI q1) gx188) ?_
    obtain ⟨h189, hst⟩ := iLs hst q1 gx188
    refine yY (yCt O_22 e0 hst F1 rfl) (yY (yLen SL_22 e0 hst (rdI F0)) (yY (ylss e0 e0) (wK k93 ?_)))
    rcases iteS hM28 with ⟨c190, hM28⟩ | ⟨c190, hM28⟩
    ·refine cT e0 c190 (wp_skip (k92 _ _ (seqQ fun Q94 k94 z94 => blockQ fun _ qb95 => sR fun _ k96 => yY (yFb FL_26_0 (eh e28_1)) (yY (lb_ h2.v O_24 e0 hst R0) (Ym (iV x72) (eh e28_4) ?_)))))
     obtain ⟨x191, gx191, hM28⟩ := bs hM28
     refine yY (yIa SL_24 e0 e0 hst (rdI (F_2 q1)) gx191) ?_
     obtain ⟨h192, hst⟩ := iLs hst (F_2 q1) gx191
     refine yY (yCt O_22 e0 hst F1 rfl) (Ym (iV x166) (eh e28_5) ?_)
     obtain ⟨x193, gx193, hM28⟩ := bs hM28
     refine yY (yIa SL_22 e0 e0 hst (rdI F0) gx193) (yY (yI O_3 e0 hst (rdI F0) gx193) (Ya (iV x193) e0 (wK k96 (sR fun _ k97 => Ym (iV x193) e0 (yY (ylss e0 rfl) (Ym (.bool (decide (x193 < 0))) e0 ?_))))))
     refine joinW 4 (fun f w => f 1 = (pB b3) ∧ f 3 = iV (x1.length : Int) ∧ f 4 = iV x72 ∧ f 5 = iV x166 ∧ f 6 = iV x193 ∧ f 48 = .bool ((decide (x193 < 0)) || (decide ((x1.length : Int) ≤ x193))) ∧ St w0 ros (box b3 26 [h2.v] :: rs) w) (fun j29 => ?_) ?_
     ·rcases Bool.eq_false_or_eq_true (decide (x193 < 0)) with c195 | c195
      ·exact gN c195 (gN c195 (gN c195 (yY (pt_ (.bool true) e0 c195 rfl) (j29 _ _ ⟨e28_1, e28_3, e28_4, e28_5, rfl, (congrArg Value.bool (orT c195)), (hst.facts (allT (allT (allT (allT allI)))))⟩))))
      ·exact yG c195 (m_ (iV x193) e0) (yG c195 (m_ (iV (x1.length : Int)) (eh e28_3)) (yG c195 (ygeq e0 e0) (yY (pf_ (.bool (decide ((x1.length : Int) ≤ x193))) e0 c195 e0) (j29 _ _ ⟨e28_1, e28_3, e28_4, e28_5, rfl, (congrArg Value.bool (orF c195)), (hst.facts (allT (allT (allT (allT allI)))))⟩))))
     rintro f w ⟨e194_1, e194_3, e194_4, e194_5, e194_6, e194_48, hst⟩
     refine Ym (.bool ((decide (x193 < 0)) || (decide ((x1.length : Int) ≤ x193)))) (eh e194_48) ?_
     refine joinW 4 (fun f w => f 1 = (pB b3) ∧ f 3 = iV (x1.length : Int) ∧ f 4 = iV x72 ∧ f 5 = iV x166 ∧ f 6 = iV x193 ∧ f 53 = .bool (((decide (x193 < 0)) || (decide ((x1.length : Int) ≤ x193))) || (decide (x193 = x72))) ∧ St w0 ros (box b3 26 [h2.v] :: rs) w) (fun j30 => ?_) ?_
     ·rcases Bool.eq_false_or_eq_true ((decide (x193 < 0)) || (decide ((x1.length : Int) ≤ x193))) with c197 | c197
      ·exact gN c197 (gN c197 (gN c197 (yY (pt_ (.bool true) e0 c197 rfl) (j30 _ _ ⟨e194_1, e194_3, e194_4, e194_5, e194_6, (congrArg Value.bool (orT c197)), hst⟩))))
      ·exact yG c197 (m_ (iV x193) (eh e194_6)) (yG c197 (m_ (iV x72) (eh e194_4)) (yG c197 (yeql e0 e0) (yY (pf_ (.bool (decide (x193 = x72))) e0 c197 e0) (j30 _ _ ⟨e194_1, e194_3, e194_4, e194_5, e194_6, (congrArg Value.bool (orF c197)), hst⟩))))
     rintro f w ⟨e196_1, e196_3, e196_4, e196_5, e196_6, e196_53, hst⟩
     refine Ym (.bool (((decide (x193 < 0)) || (decide ((x1.length : Int) ≤ x193))) || (decide (x193 = x72)))) (eh e196_53) ?_
     obtain ⟨r201, gr201, hM28⟩ := bs hM28
     refine joinW 9 (fun f w => f 1 = (pB b3) ∧ f 3 = iV (x1.length : Int) ∧ f 4 = iV x72 ∧ f 5 = iV x166 ∧ f 63 = .bool r201 ∧ St w0 ros (box b3 26 [h2.v] :: rs) w) (fun j31 => ?_) ?_
     ·rcases iteS gr201 with ⟨c203, gr201⟩ | ⟨c203, gr201⟩
      ·refine gN c203 (gN c203 (gN c203 (gN c203 (gN c203 (gN c203 (gN c203 (gN c203 (yY (pt_ (.bool true) e0 c203 rfl) ?_))))))))
       obtain rfl := someI gr201
       exact j31 _ _ ⟨e196_1, e196_3, e196_4, e196_5, rfl, hst⟩
      ·refine yG (bfalse c203) (yFb FL_26_0 (eh e196_1)) (yG (bfalse c203) (lb_ h2.v O_24 e0 hst R0) (yG (bfalse c203) (m_ (iV x193) (eh e196_6)) ?_))
       obtain ⟨x204, gx204, gr201⟩ := bs gr201
       refine yG (bfalse c203) (yIa SL_24 e0 e0 hst (rdI q1) gx204) ?_
       obtain ⟨h205, hst⟩ := iLs hst q1 gx204
       refine yG (bfalse c203) (yCt O_22 e0 hst F1 rfl) (yG (bfalse c203) (m_ (iV x72) (eh e196_4)) ?_)
       obtain ⟨r206, gr206, gr201⟩ := bs gr201
       refine Yc (wG (bfalse c203)) rfl (yCall FN_37 (a2 e0 e0)) (sparsekit_In_ok gr206 F0 hst) ?_
       rintro _ w ⟨rfl, hst⟩
       refine ⟨_, rfl, ?_⟩
       refine yG (bfalse c203) (ynot e0) (yY (pf_ (.bool (!r206)) e0 (bfalse c203) e0) ?_)
       obtain rfl := someI gr201
       exact j31 _ _ ⟨e196_1, e196_3, e196_4, e196_5, rfl, (hst.facts (allT (allT allI)))⟩
     rintro f w ⟨e202_1, e202_3, e202_4, e202_5, e202_63, hst⟩
     refine wK k97 ?_
     rcases iteS hM28 with ⟨c207, hM28⟩ | ⟨c207, hM28⟩
     ·refine condT (eh e202_63) c207 (sR fun _ k98 => Ya (iV 1) rfl (wK k98 (wp_ret (qb95 _ _ _ (z94 _ _ _ rfl ?_)))))
      obtain rfl := someI hM28
      exact zz28 _ _ _ _ rfl rfl (je28_1 _ _ rfl (hst.pk 1 [] rfl) (ho28 _ rfl))
     ·refine condF (eh e202_63) (bfalse c207) (wp_skip (qb95 _ _ _ (k94 _ _ (wR (Ym (iV x166) (eh e202_5) (yY (yadd e0 rfl) (Ya (iV (wa .i64 x166 1)) e0 (wN ?_))))))))
      obtain rfl := someI hM28
      exact n28 _ _ _ rfl ⟨_, _, rfl, rfl, e202_1, e202_3, e202_4, rfl, hst⟩
    ·refine cF e0 c190 (wp_exit (z92 _ _ _ rfl ?_))
     obtain rfl := someI hM28
     exact zz28 _ _ _ _ rfl rfl (je28_0 _ _ e28_1 e28_3 e28_4 (hst.facts (allT (allT allI))) (ho28 _ rfl))
   ·refine condT e0 (nT (bfalse c145)) (sR fun _ k99 => Ya (iV 1) rfl (wK k99 (wp_ret (z74 _ _ _ rfl (qb73 _ _ _ (z72 _ _ _ rfl ?_))))))
    obtain rfl := someI hM21
    exact zz21 _ _ _ _ rfl rfl (je21_1 _ _ rfl ((hst.pk 1 [] rfl).facts (allT (allT allI))) (ho21 _ rfl))
  ·refine cF e0 c141 (wp_exit (z70 _ _ _ rfl ?_))
   obtain rfl := someI hM21
   exact zz21 _ _ _ _ rfl rfl (je21_0 _ _ (hst.pk 1 [] rfl) (ho21 _ rfl))
theorem sparseref18_edge_ok {x1 : L2} {x3 : LI} {x5 : L2} {x7 x8 : Int} {h2 h4 h6 : Hdr} {out : Int} (hM : sparseref18_edge x1 x3 x5 x7 x8 = some out) (q1 : imm S1 h2.v x1 ∈ ros) (q2 : imm I1 h4.v x3 ∈ ros) (q3 : imm S1 h6.v x5 ∈ ros) (hst : St w0 ros rs w) :
  Calls Tryz.prog 55 #[.agg #[h2.v, h4.v, h6.v], iV x7, iV x8] w (fun e w => e = .returned (iV out) ∧ St w0 ros rs w) := by
 refine enterQ Tryz.func55 rfl Tryz.ntmps55 rfl fun Q hQ => sR fun _ k1 => YB wn rfl (r_box (vals := [h2.v, h4.v, h6.v]) hst e0 rfl) ?_
 intro b9 w hst
 refine Ya (iV 0) rfl (wK k1 (seqQ fun Q2 k2 z2 => sR fun _ k3 => Ya (iV 0) rfl (wK k3 (blockQ fun Q4 qb4 => ?_))))
 obtain ⟨o1, go1, hM⟩ := bs hM
 have je1_0 : ∀ (f : FV) (w : World), St w0 ros rs w → .inl () = o1 → Q4 (.exit 0) (fr 38 f) w := by
  intro f w hst ho
  subst ho
  refine qb4 _ _ _ (k2 _ _ (sR fun _ k17 => Ya (iV 0) rfl (wK k17 (wp_ret ?_))))
  obtain rfl := someI hM
  exact hQ _ _ _ (fin1r Tryz.results55 ⟨rfl, rfl⟩ ⟨rfl, hst⟩)
 have je1_1 : ∀ (x32 : Int) (f : FV) (w : World), f 6 = iV x32 → St w0 ros rs w → .inr x32 = o1 → Q4 .ret (fr 38 f) w := by
  intro x32 f w eje1_1_6 hst ho
  subst ho
  refine qb4 _ _ _ (z2 _ _ _ rfl ?_)
  obtain rfl := someI hM
  exact hQ _ _ _ (fin1r Tryz.results55 ⟨rfl, eje1_1_6⟩ ⟨rfl, hst⟩)
 refine loopQ (fun s a w => ∃ (x20 : Int) (f : FV), x20 = s ∧ a = fr 38 f ∧ f 1 = iV x7 ∧ f 2 = iV x8 ∧ f 3 = (pB b9) ∧ f 7 = iV x20 ∧ St w0 ros (box b9 28 [h2.v, h4.v, h6.v] :: rs) w) go1 ⟨_, _, rfl, rfl, rfl, rfl, rfl, rfl, hst⟩ ?_
 rintro _ _ w r1_ ⟨x20, f, rfl, rfl, e1_1, e1_2, e1_3, e1_7, hst⟩ hM1 ho1 Q100001 n1 zz1
 refine seqQ fun Q18 k18 z18 => sR fun _ k19 => Ym (iV x20) (eh e1_7) (yY (yFb FL_28_0 (eh e1_3)) (yY (yFb FL_26_0 e0) (yY (lb_ h2.v O_24 e0 hst R0) (Ym (iV x7) (eh e1_1) ?_))))
 obtain ⟨x33, gx33, hM1⟩ := bs hM1
 refine yY (yIa SL_24 e0 e0 hst (rdI q1) gx33) ?_
 obtain ⟨h34, hst⟩ := iLs hst q1 gx33
 refine yY (yCt O_22 e0 hst F1 rfl) (yY (yLen SL_22 e0 hst (rdI F0)) (yY (ylss e0 e0) (wK k19 ?_)))
 rcases iteS hM1 with ⟨c35, hM1⟩ | ⟨c35, hM1⟩
 ·refine cT e0 c35 (wp_skip (k18 _ _ (seqQ fun Q20 k20 z20 => blockQ fun _ qb21 => sR fun _ k22 => yY (yFb FL_28_0 (eh e1_3)) (yY (yFb FL_26_0 e0) (yY (lb_ h2.v O_24 e0 hst R0) (Ym (iV x7) (eh e1_1) ?_))))))
  obtain ⟨x36, gx36, hM1⟩ := bs hM1
  refine yY (yIa SL_24 e0 e0 hst (rdI (F_2 q1)) gx36) ?_
  obtain ⟨h37, hst⟩ := iLs hst (F_2 q1) gx36
  refine yY (yCt O_22 e0 hst F1 rfl) (Ym (iV x20) (eh e1_7) ?_)
  obtain ⟨x38, gx38, hM1⟩ := bs hM1
  refine yY (yIa SL_22 e0 e0 hst (rdI F0) gx38) (yY (yI O_3 e0 hst (rdI F0) gx38) (Ym (iV x8) (eh e1_2) (yY (yeql e0 e0) (wK k22 ?_))))
  rcases iteS hM1 with ⟨c39, hM1⟩ | ⟨c39, hM1⟩
  ·refine cT e0 c39 (sR fun _ k23 => yY (yFb FL_28_2 (eh e1_3)) (yY (lb_ h6.v O_24 e0 hst R0) (Ym (iV x7) (eh e1_1) ?_)))
   obtain ⟨x40, gx40, hM1⟩ := bs hM1
   refine yY (yIa SL_24 e0 e0 hst (rdI (F_4 q3)) gx40) ?_
   obtain ⟨h41, hst⟩ := iLs hst (F_4 q3) gx40
   refine yY (yCt O_22 e0 hst F1 rfl) (Ym (iV x20) (eh e1_7) ?_)
   obtain ⟨x42, gx42, hM1⟩ := bs hM1
   refine yY (yIa SL_22 e0 e0 hst (rdI F0) gx42) (yY (yI O_3 e0 hst (rdI F0) gx42) (Ya (iV x42) e0 (wK k23 (wp_ret (qb21 _ _ _ (z20 _ _ _ rfl ?_))))))
   obtain rfl := someI hM1
   exact zz1 _ _ _ _ rfl rfl (je1_1 _ _ _ rfl ((hst.pk 1 [] rfl).facts (allT (allT (allT (allT (allT (allT allI))))))) (ho1 _ rfl))
  ·refine cF e0 c39 (wp_skip (qb21 _ _ _ (k20 _ _ (wR (Ym (iV x20) (eh e1_7) (yY (yadd e0 rfl) (Ya (iV (wa .i64 x20 1)) e0 (wN ?_))))))))
   obtain rfl := someI hM1
   exact n1 _ _ _ rfl ⟨_, _, rfl, rfl, e1_1, e1_2, e1_3, rfl, (hst.facts (allT (allT (allT (allT allI)))))⟩
 ·refine cF e0 c35 (wp_exit (z18 _ _ _ rfl ?_))
  obtain rfl := someI hM1
  exact zz1 _ _ _ _ rfl rfl (je1_0 _ _ ((hst.pk 1 [] rfl).facts (allT (allT allI))) (ho1 _ rfl))
theorem sparseref18_CheckWeighted_ok {x1 : L2} {x3 : LI} {x5 : L2} {h2 h4 h6 : Hdr} {out : Int} (hM : sparseref18_CheckWeighted x1 x3 x5 = some out) (q1 : imm S1 h2.v x1 ∈ ros) (q2 : imm I1 h4.v x3 ∈ ros) (q3 : imm S1 h6.v x5 ∈ ros) (hst : St w0 ros rs w) :
  Calls Tryz.prog 24 #[.agg #[h2.v, h4.v, h6.v]] w (fun e w => e = .returned (iV out) ∧ St w0 ros rs w) := by
 refine enterQ Tryz.func24 rfl Tryz.ntmps24 rfl fun Q hQ => sR fun _ k1 => YB wn rfl (r_box (vals := [h2.v, h4.v, h6.v]) hst e0 rfl) ?_
 intro b7 w hst
 refine Ya (iV 0) rfl (wK k1 (seqQ fun Q2 k2 z2 => sR fun _ k3 => yY (yFb FL_28_0 e0) (yY (lbs_ [h2.v] ST_26 e0 hst R0) ?_)))
 obtain ⟨r8, gr8, hM⟩ := bs hM
 refine Yc wn rfl (yCall FN_54 (a1 e0)) (sparseref12_Check_ok gr8 q1 hst) ?_
 rintro _ w ⟨rfl, hst⟩
 refine ⟨_, rfl, ?_⟩
 refine Ya (iV r8) e0 (wK k3 (sR fun _ k4 => Ym (iV r8) e0 (yY (yneq e0 rfl) (wK k4 ?_))))
 rcases iteS hM with ⟨c9, hM⟩ | ⟨c9, hM⟩
 ·refine condF e0 (nF (dT c9)) (wp_skip (k2 _ _ (sR fun _ k5 => yY (yFb FL_28_0 e0) (yY (yFb FL_26_0 e0) (yY (lb_ h2.v O_24 e0 hst R0) (yY (yLen SL_24 e0 hst (rdI q1)) (Ya (iV (x1.length : Int)) e0 (wK k5 (seqQ fun Q6 k6 z6 => sQ fun _ k7 => ?_)))))))))
  refine wR (yY (yFb FL_28_1 e0) (yY (lb_ h4.v O_22 e0 hst R0) (yY (yLen SL_22 e0 hst (rdI q2)) (Ym (iV (x1.length : Int)) e0 (yY (yneq e0 e0) (Ym (.bool (!(decide ((x3.length : Int) = (x1.length : Int))))) e0 ?_))))))
  refine joinW 6 (fun f w => f 1 = (pB b7) ∧ f 4 = iV (x1.length : Int) ∧ f 30 = .bool ((!(decide ((x3.length : Int) = (x1.length : Int)))) || (!(decide ((x5.length : Int) = (x1.length : Int))))) ∧ St w0 ros (box b7 28 [h2.v, h4.v, h6.v] :: rs) w) (fun j1 => ?_) ?_
  ·rcases Bool.eq_false_or_eq_true (!(decide ((x3.length : Int) = (x1.length : Int)))) with c11 | c11
   ·exact gN c11 (gN c11 (gN c11 (gN c11 (gN c11 (yY (pt_ (.bool true) e0 c11 rfl) (j1 _ _ ⟨rfl, rfl, (congrArg Value.bool (orT c11)), hst⟩))))))
   ·exact yG c11 (yFb FL_28_2 e0) (yG c11 (lb_ h6.v O_24 e0 hst R0) (yG c11 (yLen SL_24 e0 hst (rdI q3)) (yG c11 (m_ (iV (x1.length : Int)) e0) (yG c11 (yneq e0 e0) (yY (pf_ (.bool (!(decide ((x5.length : Int) = (x1.length : Int))))) e0 c11 e0) (j1 _ _ ⟨rfl, rfl, (congrArg Value.bool (orF c11)), hst⟩))))))
  rintro f w ⟨e10_1, e10_4, e10_30, hst⟩
  refine wK k7 ?_
  rcases iteS hM with ⟨c12, hM⟩ | ⟨c12, hM⟩
  ·refine condT (eh e10_30) c12 (sR fun _ k8 => Ya (iV 1) rfl (wK k8 (wp_ret (z6 _ _ _ rfl ?_))))
   obtain rfl := someI hM
   exact hQ _ _ _ (fin1r Tryz.results24 ⟨rfl, rfl⟩ ⟨rfl, (hst.pk 1 [] rfl)⟩)
  ·refine condF (eh e10_30) (bfalse c12) (wp_skip (k6 _ _ (seqQ fun Q9 k9 z9 => sR fun _ k10 => Ya (iV 0) rfl (wK k10 (blockQ fun Q11 qb11 => ?_)))))
   obtain ⟨o2, go2, hM⟩ := bs hM
   have je2_0 : ∀ (f : FV) (w : World), f 1 = (pB b7) → f 4 = iV (x1.length : Int) → St w0 ros (box b7 28 [h2.v, h4.v, h6.v] :: rs) w → .inl () = o2 → Q11 (.exit 0) (fr 109 f) w := by
    intro f w eje2_0_1 eje2_0_4 hst ho
    subst ho
    refine qb11 _ _ _ (k9 _ _ (seqQ fun Q24 k24 z24 => sR fun _ k25 => Ya (iV 0) rfl (wK k25 (blockQ fun Q26 qb26 => ?_))))
    obtain ⟨o43, go43, hM⟩ := bs hM
    have je43_0 : ∀ (f : FV) (w : World), St w0 ros rs w → .inl () = o43 → Q26 (.exit 2) (fr 109 f) w := by
     intro f w hst ho
     subst ho
     refine qb26 _ _ _ (k24 _ _ (sR fun _ k87 => Ya (iV 0) rfl (wK k87 (wp_ret ?_))))
     obtain rfl := someI hM
     exact hQ _ _ _ (fin1r Tryz.results24 ⟨rfl, rfl⟩ ⟨rfl, hst⟩)
    have je43_1 : ∀ (f : FV) (w : World), f 2 = iV 1 → St w0 ros rs w → .inr () = o43 → Q26 .ret (fr 109 f) w := by
     intro f w eje43_1_2 hst ho
     subst ho
     refine qb26 _ _ _ (z24 _ _ _ rfl ?_)
     obtain rfl := someI hM
     exact hQ _ _ _ (fin1r Tryz.results24 ⟨rfl, eje43_1_2⟩ ⟨rfl, hst⟩)
    refine loopQ (fun s a w => ∃ (x94 : Int) (f : FV), x94 = s ∧ a = fr 109 f ∧ f 1 = (pB b7) ∧ f 4 = iV (x1.length : Int) ∧ f 6 = iV x94 ∧ St w0 ros (box b7 28 [h2.v, h4.v, h6.v] :: rs) w) go43 ⟨_, _, rfl, rfl, eje2_0_1, eje2_0_4, rfl, hst⟩ ?_
    rintro _ _ w r43_ ⟨x94, f, rfl, rfl, e43_1, e43_4, e43_6, hst⟩ hM43 ho43 Q100043 n43 zz43
    refine seqQ fun Q88 k88 z88 => sR fun _ k89 => Ym (iV x94) (eh e43_6) (Ym (iV (x1.length : Int)) (eh e43_4) (yY (ylss e0 e0) (wK k89 ?_)))
    rcases iteS hM43 with ⟨c163, hM43⟩ | ⟨c163, hM43⟩
    ·refine cT e0 c163 (wp_skip (k88 _ _ (seqQ fun Q90 k90 z90 => blockQ fun _ qb91 => seqQ fun Q92 k92 z92 => sR fun _ k93 => yY (yFb FL_28_1 (eh e43_1)) (yY (lb_ h4.v O_22 e0 hst R0) (Ym (iV x94) (eh e43_6) ?_)))))
     obtain ⟨x164, gx164, hM43⟩ := bs hM43
     refine yY (yIa SL_22 e0 e0 hst (rdI q2) gx164) (yY (yI O_3 e0 hst (rdI q2) gx164) (yY (ylss e0 rfl) (Ym (.bool (decide (x164 < 1))) e0 ?_)))
     obtain ⟨r166, gr166, hM43⟩ := bs hM43
     refine joinW 7 (fun f w => f 1 = (pB b7) ∧ f 4 = iV (x1.length : Int) ∧ f 6 = iV x94 ∧ f 68 = .bool r166 ∧ St w0 ros (box b7 28 [h2.v, h4.v, h6.v] :: rs) w) (fun j44 => ?_) ?_
     ·rcases iteS gr166 with ⟨c168, gr166⟩ | ⟨c168, gr166⟩
      ·refine gN (dT c168) (gN (dT c168) (gN (dT c168) (gN (dT c168) (gN (dT c168) (gN (dT c168) (yY (pt_ (.bool true) e0 (dT c168) rfl) ?_))))))
       obtain rfl := someI gr166
       exact j44 _ _ ⟨e43_1, e43_4, e43_6, rfl, hst⟩
      ·refine yG (dF c168) (yFb FL_28_1 (eh e43_1)) (yG (dF c168) (lb_ h4.v O_22 e0 hst R0) (yG (dF c168) (m_ (iV x94) (eh e43_6)) ?_))
       obtain ⟨x169, gx169, gr166⟩ := bs gr166
       refine yG (dF c168) (yIa SL_22 e0 e0 hst (rdI q2) gx169) (yG (dF c168) (yI O_3 e0 hst (rdI q2) gx169) (yG (dF c168) (ygtr e0 rfl) (yY (pf_ (.bool (decide ((1099511627776 : Int) < x169))) e0 (dF c168) e0) ?_)))
       obtain rfl := someI gr166
       exact j44 _ _ ⟨e43_1, e43_4, e43_6, rfl, hst⟩
     rintro f w ⟨e167_1, e167_4, e167_6, e167_68, hst⟩
     refine wK k93 ?_
     rcases iteS hM43 with ⟨c170, hM43⟩ | ⟨c170, hM43⟩
     ·refine condT (eh e167_68) c170 (sR fun _ k94 => Ya (iV 1) rfl (wK k94 (wp_ret (z92 _ _ _ rfl (qb91 _ _ _ (z90 _ _ _ rfl ?_))))))
      obtain rfl := someI hM43
      exact zz43 _ _ _ _ rfl rfl (je43_1 _ _ rfl (hst.pk 1 [] rfl) (ho43 _ rfl))
     ·refine condF (eh e167_68) (bfalse c170) (wp_skip (k92 _ _ (sR fun _ k95 => Ya (iV 0) rfl (wK k95 (blockQ fun Q96 qb96 => ?_)))))
      obtain ⟨o57, go57, hM43⟩ := bs hM43
      have je57_0 : ∀ (f : FV) (w : World), f 1 = (pB b7) → f 4 = iV (x1.length : Int) → f 6 = iV x94 → St w0 ros (box b7 28 [h2.v, h4.v, h6.v] :: rs) w → .inl () = o57 → Q96 (.exit 4) (fr 109 f) w := by
       intro f w eje57_0_1 eje57_0_4 eje57_0_6 hst ho
       subst ho
       refine qb96 _ _ _ (qb91 _ _ _ (k90 _ _ (wR (Ym (iV x94) (eh eje57_0_6) (yY (yadd e0 rfl) (Ya (iV (wa .i64 x94 1)) e0 (wN ?_)))))))
       obtain rfl := someI hM43
       exact n43 _ _ _ rfl ⟨_, _, rfl, rfl, eje57_0_1, eje57_0_4, rfl, hst⟩
      have je57_1 : ∀ (f : FV) (w : World), f 2 = iV 1 → St w0 ros rs w → .inr () = o57 → Q96 .ret (fr 109 f) w := by
       intro f w eje57_1_2 hst ho
       subst ho
       refine qb96 _ _ _ (qb91 _ _ _ (z90 _ _ _ rfl ?_))
       obtain rfl := someI hM43
       exact zz43 _ _ _ _ rfl rfl (je43_1 _ _ eje57_1_2 hst (ho43 _ rfl))
      refine loopQ (fun s a w => ∃ (x190 : Int) (f : FV), x190 = s ∧ a = fr 109 f ∧ f 1 = (pB b7) ∧ f 4 = iV (x1.length : Int) ∧ f 6 = iV x94 ∧ f 7 = iV x190 ∧ St w0 ros (box b7 28 [h2.v, h4.v, h6.v] :: rs) w) go57 ⟨_, _, rfl, rfl, e167_1, e167_4, e167_6, rfl, hst⟩ ?_
      rintro _ _ w r57_ ⟨x190, f, rfl, rfl, e57_1, e57_4, e57_6, e57_7, hst⟩ hM57 ho57 Q100057 n57 zz57
      refine seqQ fun Q111 k111 z111 => sR fun _ k112 => Ym (iV x190) (eh e57_7) (yY (yFb FL_28_2 (eh e57_1)) (yY (lb_ h6.v O_24 e0 hst R0) (Ym (iV x94) (eh e57_6) ?_)))
      obtain ⟨x211, gx211, hM57⟩ := bs hM57
      refine yY (yIa SL_24 e0 e0 hst (rdI q3) gx211) ?_
      obtain ⟨h212, hst⟩ := iLs hst q3 gx211
      refine yY (yCt O_22 e0 hst F1 rfl) (yY (yLen SL_22 e0 hst (rdI F0)) (yY (ylss e0 e0) (wK k112 ?_)))
      rcases iteS hM57 with ⟨c213, hM57⟩ | ⟨c213, hM57⟩
      ·refine cT e0 c213 (wp_skip (k111 _ _ (seqQ fun Q113 k113 z113 => blockQ fun _ qb114 => sR fun _ k115 => yY (yFb FL_28_2 (eh e57_1)) (yY (lb_ h6.v O_24 e0 hst R0) (Ym (iV x94) (eh e57_6) ?_)))))
       obtain ⟨x214, gx214, hM57⟩ := bs hM57
       refine yY (yIa SL_24 e0 e0 hst (rdI (F_2 q3)) gx214) ?_
       obtain ⟨h215, hst⟩ := iLs hst (F_2 q3) gx214
       refine yY (yCt O_22 e0 hst F1 rfl) (Ym (iV x190) (eh e57_7) ?_)
       obtain ⟨x216, gx216, hM57⟩ := bs hM57
       refine yY (yIa SL_22 e0 e0 hst (rdI F0) gx216) (yY (yI O_3 e0 hst (rdI F0) gx216) (Ya (iV x216) e0 (wK k115 (sQ fun _ k116 => ?_))))
       obtain ⟨r217, gr217, hM57⟩ := bs hM57
       obtain ⟨r218, gr218, hM57⟩ := bs hM57
       refine joinN (n := 109) (fun f w => f 1 = (pB b7) ∧ f 4 = iV (x1.length : Int) ∧ f 6 = iV x94 ∧ f 7 = iV x190 ∧ f 108 = .bool r218 ∧ St w0 ros (box b7 28 [h2.v, h4.v, h6.v] :: rs) w) (fun j58 => ?_) ?_
       ·rcases iteS gr217 with ⟨c222, gr217⟩ | ⟨c222, gr217⟩
        ·have hr59 := someI gr217
         have c223 : r217 = true := hr59.symm
         rw [if_pos c223] at gr218
         have hr60 := someI gr218
         refine dR [0, 1, 3, 7, 15, 31, 63, 127, 127, 127, 639, 1663, 127, 7807, 15999, 127, 65151, 130687, 127, 524159, 1048575, 2097151] [19] 1 folM ?_
         replace hst := hst.drew
         refine Dn [0, 1, 2, 3, 4, 5, 6, 7, 8, 9, 10, 11, 12, 13, 14, 15, 16, 17, 18] [] [19] (yR rfl (m_ (iV x216) e0) (yR rfl (ylss e0 rfl) (yR rfl (m_ (.bool (decide (x216 < 1))) e0) (Rx rfl rfl (wX (dT c222)) (Rx rfl rfl (wX (dT c222)) (yR rfl (pt_ (.bool r217) e0 (dT c222) (eqv hr59 rfl)) (yR rfl (m_ (.bool r217) e0) (Rx rfl rfl (wX c223) (Rx rfl rfl (wX c223) (Rx rfl rfl (wX c223) (Rx rfl rfl (wX c223) (Rx rfl rfl (wX c223) (Rx rfl rfl (wX c223) ?_)))))))))))))
         refine Rx rfl rfl (wX c223) (Rx rfl rfl (wX c223) (Rx rfl rfl (wX c223) (Rx rfl rfl (wX c223) (Rx rfl rfl (wX c223) (Rx rfl rfl (wX c223) (Rn QSn ?_))))))
         refine Lc1 rfl ?_
         exact Lx (wX c223) (Dz [20, 21] [7] (Rx rfl rfl (wX c223) (yR rfl (pt_ (.bool r218) e0 c223 (eqv hr60 rfl)) (Rn (Sx_ rfl rfl (wX c223) rfl QSn) (j58 _ _ ⟨e57_1, e57_4, e57_6, e57_7, rfl, (hst.facts (allT (allT (allT (allT allI)))))⟩)))))
        ·have hr61 := someI gr217
         rcases iteS gr218 with ⟨c224, gr218⟩ | ⟨c224, gr218⟩
         ·have hr62 := someI gr218
          refine dR [0, 1, 3, 7, 15, 31, 63, 127, 127, 127, 639, 1663, 127, 7807, 15999, 127, 65151, 130687, 127, 524159, 1048575, 2097151] [19] 1 folM ?_
          replace hst := hst.drew
          refine Dn [0, 1, 2, 3, 4, 5, 6, 7, 8, 9, 10, 11, 12, 13, 14, 15, 16, 17, 18] [] [19] (yR rfl (m_ (iV x216) e0) (yR rfl (ylss e0 rfl) (yR rfl (m_ (.bool (decide (x216 < 1))) e0) (Ry rfl rfl (wG (dF c222)) (m_ (iV x216) e0) (Ry rfl rfl (wG (dF c222)) (ygtr e0 rfl) (yR rfl (pf_ (.bool r217) e0 (dF c222) (eqv hr61 e0)) (yR rfl (m_ (.bool r217) e0) (Rx rfl rfl (wX c224) (Rx rfl rfl (wX c224) (Rx rfl rfl (wX c224) (Rx rfl rfl (wX c224) (Rx rfl rfl (wX c224) (Rx rfl rfl (wX c224) ?_)))))))))))))
          refine Rx rfl rfl (wX c224) (Rx rfl rfl (wX c224) (Rx rfl rfl (wX c224) (Rx rfl rfl (wX c224) (Rx rfl rfl (wX c224) (Rx rfl rfl (wX c224) (Rn QSn ?_))))))
          refine Lc1 rfl ?_
          exact Lx (wX c224) (Dz [20, 21] [7] (Rx rfl rfl (wX c224) (yR rfl (pt_ (.bool r218) e0 c224 (eqv hr62 rfl)) (Rn (Sx_ rfl rfl (wX c224) rfl QSn) (j58 _ _ ⟨e57_1, e57_4, e57_6, e57_7, rfl, (hst.facts (allT (allT (allT (allT allI)))))⟩)))))
         ·obtain ⟨x225, gx225, gr218⟩ := bs gr218
          obtain ⟨x227, gx227, gr218⟩ := bs gr218
          obtain ⟨r228, gr228, gr218⟩ := bs gr218
          have hr63 := someI gr218
          refine dR [0, 1, 3, 7, 15, 31, 63, 127, 127, 127, 639, 1663, 127, 7807, 15999, 127, 65151, 130687, 127, 524159, 1048575, 2097151] [19] 1 folM ?_
          replace hst := hst.drew
          refine Dn [0, 1, 2, 3, 4, 5, 6, 7, 8, 9, 10, 11, 12, 13, 14, 15, 16, 17, 18] [] [19] (yR rfl (m_ (iV x216) e0) (yR rfl (ylss e0 rfl) (yR rfl (m_ (.bool (decide (x216 < 1))) e0) (Ry rfl rfl (wG (dF c222)) (m_ (iV x216) e0) (Ry rfl rfl (wG (dF c222)) (ygtr e0 rfl) (yR rfl (pf_ (.bool r217) e0 (dF c222) (eqv hr61 e0)) (yR rfl (m_ (.bool r217) e0) (Ry rfl rfl (wG (bfalse c224)) (m_ (iV x216) e0) (Ry rfl rfl (wG (bfalse c224)) (lbs_ [h2.v, h4.v, h6.v] ST_28 (eh e57_1) hst R0) (Ry rfl rfl (wG (bfalse c224)) (yFb FL_28_0 (eh e57_1)) (Ry rfl rfl (wG (bfalse c224)) (yFb FL_26_0 e0) (Ry rfl rfl (wG (bfalse c224)) (lb_ h2.v O_24 e0 hst R0) (Ry rfl rfl (wG (bfalse c224)) (m_ (iV x94) (eh e57_6)) ?_)))))))))))))
          refine Ry rfl rfl (wG (bfalse c224)) (yIa SL_24 e0 e0 hst (rdI (F_4 q1)) gx225) ?_
          obtain ⟨h226, hst⟩ := iLs hst (F_4 q1) gx225
          refine Ry rfl rfl (wG (bfalse c224)) (yCt O_22 e0 hst F1 rfl) (Ry rfl rfl (wG (bfalse c224)) (m_ (iV x190) (eh e57_7)) (Ry rfl rfl (wG (bfalse c224)) (yIa SL_22 e0 e0 hst (rdI F0) gx227) (Ry rfl rfl (wG (bfalse c224)) (yI O_3 e0 hst (rdI F0) gx227) (Ry rfl rfl (wG (bfalse c224)) (m_ (iV x94) (eh e57_6)) (Rn QSn ?_)))))
          refine Lc1 rfl ?_
          refine Lk (wG (bfalse c224)) (yCall FN_55 (a3 e0 e0 e0)) (sparseref18_edge_ok gr228 (F_6 q1) (F_6 q2) (F_6 q3) hst) ?_
          rintro _ w ⟨rfl, hst⟩
          refine ⟨_, rfl, ?_⟩
          exact Dz [20, 21] [7] (Ry rfl rfl (wG (bfalse c224)) (yneq e0 e0) (yR rfl (pf_ (.bool r218) e0 (bfalse c224) (eqv hr63 e0)) (Rn (Sy rfl rfl (wG (bfalse c224)) (m_ (iV x216) e0) rfl QSn) (j58 _ _ ⟨e57_1, e57_4, e57_6, e57_7, rfl, (hst.facts (allT (allT (allT (allT (allT (allT allI)))))))⟩))))
       rintro f w ⟨e219_1, e219_4, e219_6, e219_7, e219_108, hst⟩
       refine k116 _ _ ?_
       rcases iteS hM57 with ⟨c229, hM57⟩ | ⟨c229, hM57⟩
       ·refine condT (eh e219_108) c229 (sR fun _ k117 => Ya (iV 1) rfl (wK k117 (wp_ret (qb114 _ _ _ (z113 _ _ _ rfl ?_)))))
        obtain rfl := someI hM57
        exact zz57 _ _ _ _ rfl rfl (je57_1 _ _ rfl (hst.pk 1 [] rfl) (ho57 _ rfl))
       ·refine condF (eh e219_108) (bfalse c229) (wp_skip (qb114 _ _ _ (k113 _ _ (wR (Ym (iV x190) (eh e219_7) (yY (yadd e0 rfl) (Ya (iV (wa .i64 x190 1)) e0 (wN ?_))))))))
        obtain rfl := someI hM57
        exact n57 _ _ _ rfl ⟨_, _, rfl, rfl, e219_1, e219_4, e219_6, rfl, hst⟩
      ·refine cF e0 c213 (wp_exit (z111 _ _ _ rfl ?_))
       obtain rfl := someI hM57
       exact zz57 _ _ _ _ rfl rfl (je57_0 _ _ e57_1 e57_4 e57_6 (hst.facts (allT (allT allI))) (ho57 _ rfl))
    ·refine cF e0 c163 (wp_exit (z88 _ _ _ rfl ?_))
     obtain rfl := someI hM43
     exact zz43 _ _ _ _ rfl rfl (je43_0 _ _ (hst.pk 1 [] rfl) (ho43 _ rfl))
   have je2_1 : ∀ (f : FV) (w : World), f 2 = iV 1 → St w0 ros rs w → .inr () = o2 → Q11 .ret (fr 109 f) w := by
    intro f w eje2_1_2 hst ho
    subst ho
    refine qb11 _ _ _ (z9 _ _ _ rfl ?_)
    obtain rfl := someI hM
    exact hQ _ _ _ (fin1r Tryz.results24 ⟨rfl, eje2_1_2⟩ ⟨rfl, hst⟩)
   refine loopQ (fun s a w => ∃ (x19 : Int) (f : FV), x19 = s ∧ a = fr 109 f ∧ f 1 = (pB b7) ∧ f 4 = iV (x1.length : Int) ∧ f 5 = iV x19 ∧ St w0 ros (box b7 28 [h2.v, h4.v, h6.v] :: rs) w) go2 ⟨_, _, rfl, rfl, e10_1, e10_4, rfl, hst⟩ ?_
   rintro _ _ w r2_ ⟨x19, f, rfl, rfl, e2_1, e2_4, e2_5, hst⟩ hM2 ho2 Q100002 n2 zz2
   refine seqQ fun Q118 k118 z118 => sR fun _ k119 => Ym (iV x19) (eh e2_5) (Ym (iV (x1.length : Int)) (eh e2_4) (yY (ylss e0 e0) (wK k119 ?_)))
   rcases iteS hM2 with ⟨c230, hM2⟩ | ⟨c230, hM2⟩
   ·refine cT e0 c230 (wp_skip (k118 _ _ (seqQ fun Q120 k120 z120 => blockQ fun _ qb121 => sQ fun _ k122 => ?_)))
    obtain ⟨x231, gx231, hM2⟩ := bs hM2
    obtain ⟨x233, gx233, hM2⟩ := bs hM2
    refine dR [0, 1, 0, 7, 15, 31, 0, 64, 192, 0, 960, 1984, 4032, 8191] [] 0 folM ?_
    replace hst := hst.drew
    refine Dz [0, 1, 2, 3, 4, 5, 6, 7, 8, 9, 10, 11, 12, 13] [] (yR rfl (yFb FL_28_2 (eh e2_1)) (yR rfl (lb_ h6.v O_24 e0 hst R0) (yR rfl (m_ (iV x19) (eh e2_5)) (yR rfl (yIa SL_24 e0 e0 hst (rdI q3) gx231) ?_))))
    obtain ⟨h232, hst⟩ := iLs hst q3 gx231
    refine yR rfl (yCt O_22 e0 hst F1 rfl) (yR rfl (yLen SL_22 e0 hst (rdI F0)) (yR rfl (yFb FL_28_0 (eh e2_1)) (yR rfl (yFb FL_26_0 e0) (yR rfl (lb_ h2.v O_24 e0 hst R0) (yR rfl (m_ (iV x19) (eh e2_5)) (yR rfl (yIa SL_24 e0 e0 hst (rdI (F_2 q1)) gx233) ?_))))))
    obtain ⟨h234, hst⟩ := iLs hst (F_2 q1) gx233
    refine yR rfl (yCt O_22 e0 hst F1 rfl) (yR rfl (yLen SL_22 e0 hst (rdI F0)) (yR rfl (yneq e0 e0) (Rn QSn (k122 _ _ ?_))))
    rcases iteS hM2 with ⟨c235, hM2⟩ | ⟨c235, hM2⟩
    ·refine condF e0 (nF (dT c235)) (wp_skip (qb121 _ _ _ (k120 _ _ (wR (Ym (iV x19) (eh e2_5) (yY (yadd e0 rfl) (Ya (iV (wa .i64 x19 1)) e0 (wN ?_))))))))
     obtain rfl := someI hM2
     exact n2 _ _ _ rfl ⟨_, _, rfl, rfl, e2_1, e2_4, rfl, (hst.facts (allT (allT (allT (allT allI)))))⟩
    ·refine condT e0 (nT (dF c235)) (sR fun _ k123 => Ya (iV 1) rfl (wK k123 (wp_ret (qb121 _ _ _ (z120 _ _ _ rfl ?_)))))
     obtain rfl := someI hM2
     exact zz2 _ _ _ _ rfl rfl (je2_1 _ _ rfl ((hst.pk 1 [] rfl).facts (allT (allT (allT (allT allI))))) (ho2 _ rfl))
   ·refine cF e0 c230 (wp_exit (z118 _ _ _ rfl ?_))
    obtain rfl := someI hM2
    exact zz2 _ _ _ _ rfl rfl (je2_0 _ _ e2_1 e2_4 hst (ho2 _ rfl))
 ·refine condT e0 (nT (dF c9)) (sR fun _ k124 => Ym (iV r8) e0 (Ya (iV r8) e0 (wK k124 (wp_ret (z2 _ _ _ rfl ?_)))))
  obtain rfl := someI hM
  exact hQ _ _ _ (fin1r Tryz.results24 ⟨rfl, rfl⟩ ⟨rfl, (hst.pk 1 [] rfl)⟩)
end Go.Proofs.YthpeajepbffinaaGreat
