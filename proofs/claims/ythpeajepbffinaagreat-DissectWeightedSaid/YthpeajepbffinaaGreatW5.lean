/- Walks: each function computes its model, printed. -/
import Derived.Test.YthpeajepbffinaaGreatW4
namespace Go.Proofs.YthpeajepbffinaaGreat
open Go Sx M
set_option maxRecDepth 100000
set_option maxHeartbeats 40000000
set_option linter.unusedVariables false
attribute [local irreducible] wpList Code.wp Calls DR QR QS LA LS St
variable {w0 : World} {ros : List Fact} {rs : List Res} {w : World}
theorem sparseref18_Match_ok {x1 : L2} {x3 : LI} {x5 : L2} {h2 h4 h6 : Hdr} {out : LI × Int} (hM : sparseref18_Match x1 x3 x5 = some out) (q1 : imm S1 h2.v x1 ∈ ros) (q2 : imm I1 h4.v x3 ∈ ros) (q3 : imm S1 h6.v x5 ∈ ros) (hst : St w0 ros rs w) :
  Calls Tryz.prog 12 #[.agg #[h2.v, h4.v, h6.v]] w (fun e w => ∃ (h100001 : Hdr), e = .returned (.tuple #[h100001.v, iV out.2]) ∧ St w0 ros (row 3 I1 h100001.v out.1 :: rs) w) := by
 refine enterQ Tryz.func12 rfl Tryz.ntmps12 rfl fun Q hQ => sR fun _ k1 => YB wn rfl (r_box (vals := [h2.v, h4.v, h6.v]) hst e0 rfl) ?_
 intro b7 w hst
 refine Ya hnil.v rfl (Ya (iV 0) rfl (wK k1 (seqQ fun Q2 k2 z2 => sR fun _ k3 => yY (lbs_ [h2.v, h4.v, h6.v] ST_28 e0 hst R0) ?_)))
 obtain ⟨r8, gr8, hM⟩ := bs hM
 refine Yc wn rfl (yCall FN_24 (a1 e0)) (sparseref18_CheckWeighted_ok gr8 q1 q2 q3 hst) ?_
 rintro _ w ⟨rfl, hst⟩
 refine ⟨_, rfl, ?_⟩
 refine Ya (iV r8) e0 (wK k3 (sR fun _ k4 => Ym (iV r8) e0 (yY (yneq e0 rfl) (wK k4 ?_))))
 rcases iteS hM with ⟨c9, hM⟩ | ⟨c9, hM⟩
 ·refine condF e0 (nF (dT c9)) (wp_skip (k2 _ _ (sR fun _ k5 => yY (yFb FL_28_1 e0) (yY (lb_ h4.v O_22 e0 hst R0) (yY (yLen SL_22 e0 hst (rdI q2)) (Ya (iV (x3.length : Int)) e0 (wK k5 (sR fun _ k6 => Ya hnil.v rfl ?_))))))))
  refine wK k6 (sQ fun _ k7 => sR fun _ k8 => Ya (iV 0) rfl (wK k8 (blockQ fun Q9 qb9 => ?_)))
  obtain ⟨o1, go1, hM⟩ := bs hM
  have je1_0 : ∀ (x25 : LI) (h24 : Hdr) (f : FV) (w : World), f 1 = (pB b7) → f 5 = iV (x3.length : Int) → f 6 = h24.v → St w0 ros (box b7 28 [h2.v, h4.v, h6.v] :: row 3 I1 h24.v x25 :: rs) w → x25 = o1 → Q9 (.exit 0) (fr 94 f) w := by
   intro x25 h24 f w eje1_0_1 eje1_0_5 eje1_0_6 hst ho
   subst ho
   refine qb9 _ _ _ (k7 _ _ (sQ fun _ k18 => sR fun _ k19 => Ya (iV 0) rfl (wK k19 (blockQ fun Q20 qb20 => ?_))))
   obtain ⟨o46, go46, hM⟩ := bs hM
   have je46_0 : ∀ (x550 : LI) (f : FV) (w : World), f 6 = h24.v → St w0 ros (row 3 I1 h24.v x550 :: rs) w → x550 = o46 → Q20 (.exit 2) (fr 94 f) w := by
    intro x550 f w eje46_0_6 hst ho
    subst ho
    refine qb20 _ _ _ (k18 _ _ (sR fun _ k177 => Ym h24.v (eh eje46_0_6) (Ya h24.v e0 (Ya (iV 0) rfl (wK k177 (wp_ret ?_))))))
    obtain rfl := someI hM
    exact hQ _ _ _ (fin2r Tryz.results12 ⟨rfl, rfl⟩ ⟨rfl, rfl⟩ ⟨_, rfl, hst⟩)
   refine loopQ (fun s a w => ∃ (x286 : LI) (x287 : Int) (f : FV), (x286, x287) = s ∧ a = fr 94 f ∧ f 1 = (pB b7) ∧ f 5 = iV (x3.length : Int) ∧ f 6 = h24.v ∧ f 8 = iV x287 ∧ St w0 ros (box b7 28 [h2.v, h4.v, h6.v] :: row 3 I1 h24.v x286 :: rs) w) go46 ⟨_, _, _, rfl, rfl, eje1_0_1, eje1_0_5, eje1_0_6, rfl, hst⟩ ?_
   rintro _ _ w r46_ ⟨x286, x287, f, rfl, rfl, e46_1, e46_5, e46_6, e46_8, hst⟩ hM46 ho46 Q100046 n46 zz46
   refine seqQ fun Q178 k178 z178 => sR fun _ k179 => Ym (iV x287) (eh e46_8) (Ym (iV (x3.length : Int)) (eh e46_5) (yY (ylss e0 e0) (wK k179 ?_)))
   rcases iteS hM46 with ⟨c551, hM46⟩ | ⟨c551, hM46⟩
   ·refine cT e0 c551 (wp_skip (k178 _ _ (sQ fun Q180 k180 => ?_)))
    have j61 : ∀ (x724 : LI) (f : FV) (w : World), f 1 = (pB b7) → f 5 = iV (x3.length : Int) → f 6 = h24.v → f 8 = iV x287 → St w0 ros (box b7 28 [h2.v, h4.v, h6.v] :: row 3 I1 h24.v x724 :: rs) w → sparseref18_Match_j61 x287 x724 = some r46_ → Q180 .normal (fr 94 f) w := by
     intro x724 f w ej61_1 ej61_5 ej61_6 ej61_8 hst hM
     refine k180 _ _ (wR (Ym (iV x287) (eh ej61_8) (yY (yadd e0 rfl) (Ya (iV (wa .i64 x287 1)) e0 (wN ?_)))))
     obtain rfl := someI hM
     exact n46 _ _ _ rfl ⟨_, _, _, rfl, rfl, ej61_1, ej61_5, ej61_6, rfl, hst⟩
    refine blockQ fun _ qb231 => seqQ fun Q232 k232 z232 => sR fun _ k233 => Ym h24.v (eh e46_6) (Ym (iV x287) (eh e46_8) ?_)
    obtain ⟨x725, gx725, hM46⟩ := bs hM46
    refine yY (yIa SL_22 e0 e0 hst rO1 gx725) (yY (yI O_3 e0 hst rO1 gx725) (yY (ygeq e0 rfl) (wK k233 ?_)))
    rcases iteS hM46 with ⟨c726, hM46⟩ | ⟨c726, hM46⟩
    ·exact cT e0 c726 (wp_exit (z232 _ _ _ rfl (qb231 _ _ _ (j61 _ _ _ e46_1 e46_5 e46_6 e46_8 hst hM46))))
    ·refine cF e0 c726 (wp_skip (k232 _ _ (sR fun _ k234 => Ym (iV x287) (eh e46_8) (Ya (iV x287) e0 (Ya (iV 0) rfl (wK k234 (sQ fun _ k235 => sR fun _ k236 => Ya (iV 0) rfl ?_)))))))
     refine wK k236 (blockQ fun Q237 qb237 => ?_)
     obtain ⟨o66, go66, hM46⟩ := bs hM46
     have je66_0 : ∀ (x783 : Int) (f : FV) (w : World), f 1 = (pB b7) → f 5 = iV (x3.length : Int) → f 6 = h24.v → f 8 = iV x287 → f 9 = iV x783 → St w0 ros (box b7 28 [h2.v, h4.v, h6.v] :: row 3 I1 h24.v x286 :: rs) w → x783 = o66 → Q237 (.exit 4) (fr 94 f) w := by
      intro x783 f w eje66_0_1 eje66_0_5 eje66_0_6 eje66_0_8 eje66_0_9 hst ho
      subst ho
      refine qb237 _ _ _ (k235 _ _ (wR (Ym h24.v (eh eje66_0_6) (Ym (iV x287) (eh eje66_0_8) (Ym h24.v (eh eje66_0_6) (Ym (iV x783) (eh eje66_0_9) (Ym (iV x783) (eh eje66_0_9) (Ym (iV x287) (eh eje66_0_8) ?_))))))))
      obtain ⟨x784, gx784, hM46⟩ := bs hM46
      refine yY (yIs SL_22 e0 e0 hst rO1 gx784) ?_
      replace hst := hst.pk 2 [1, 0] rfl
      refine YT wn rfl (r_sti (cs := [iV x783]) hst O_3 rfl e0 e0 rfl mkI gx784) ?_
      intro w hst
      obtain ⟨x785, gx785, hM46⟩ := bs hM46
      refine yY (yIs SL_22 e0 e0 hst rO0 gx785) (YT wn rfl (r_sti (cs := [iV x287]) hst O_3 rfl e0 e0 rfl mkI gx785) ?_)
      intro w hst
      exact wN (qb231 _ _ _ (j61 _ _ _ eje66_0_1 eje66_0_5 eje66_0_6 eje66_0_8 (hst.pk 2 [1, 0] rfl) hM46))
     refine loopQ (fun s a w => ∃ (x752 x753 x754 : Int) (f : FV), (x752, x753, x754) = s ∧ a = fr 94 f ∧ f 1 = (pB b7) ∧ f 5 = iV (x3.length : Int) ∧ f 6 = h24.v ∧ f 8 = iV x287 ∧ f 9 = iV x752 ∧ f 10 = iV x753 ∧ f 11 = iV x754 ∧ St w0 ros (box b7 28 [h2.v, h4.v, h6.v] :: row 3 I1 h24.v x286 :: rs) w) go66 ⟨_, _, _, _, rfl, rfl, e46_1, e46_5, e46_6, e46_8, rfl, rfl, rfl, hst⟩ ?_
     rintro _ _ w r66_ ⟨x752, x753, x754, f, rfl, rfl, e66_1, e66_5, e66_6, e66_8, e66_9, e66_10, e66_11, hst⟩ hM66 ho66 Q100066 n66 zz66
     refine seqQ fun Q250 k250 z250 => sR fun _ k251 => Ym (iV x754) (eh e66_11) (yY (yFb FL_28_2 (eh e66_1)) (yY (lb_ h6.v O_24 e0 hst R0) (Ym (iV x287) (eh e66_8) ?_)))
     obtain ⟨x786, gx786, hM66⟩ := bs hM66
     refine yY (yIa SL_24 e0 e0 hst (rdI q3) gx786) ?_
     obtain ⟨h787, hst⟩ := iLs hst q3 gx786
     refine yY (yCt O_22 e0 hst F1 rfl) (yY (yLen SL_22 e0 hst (rdI F0)) (yY (ylss e0 e0) (wK k251 ?_)))
     rcases iteS hM66 with ⟨c788, hM66⟩ | ⟨c788, hM66⟩
     ·refine cT e0 c788 (wp_skip (k250 _ _ (sQ fun _ k252 => blockQ fun Q253 qb253 => sR fun _ k254 => yY (yFb FL_28_0 (eh e66_1)) (yY (yFb FL_26_0 e0) (yY (lb_ h2.v O_24 e0 hst R0) (Ym (iV x287) (eh e66_8) ?_))))))
      obtain ⟨x789, gx789, hM66⟩ := bs hM66
      refine yY (yIa SL_24 e0 e0 hst (rdI (F_2 q1)) gx789) ?_
      obtain ⟨h790, hst⟩ := iLs hst (F_2 q1) gx789
      refine yY (yCt O_22 e0 hst F1 rfl) (Ym (iV x754) (eh e66_11) ?_)
      obtain ⟨x791, gx791, hM66⟩ := bs hM66
      refine yY (yIa SL_22 e0 e0 hst (rdI F0) gx791) (yY (yI O_3 e0 hst (rdI F0) gx791) (Ya (iV x791) e0 (wK k254 (sR fun _ k255 => Ym h24.v (eh e66_6) (Ym (iV x791) e0 ?_)))))
      obtain ⟨x792, gx792, hM66⟩ := bs hM66
      refine yY (yIa SL_22 e0 e0 hst rO1 gx792) (yY (yI O_3 e0 hst rO1 gx792) (yY (ylss e0 rfl) (Ym (.bool (decide (x792 < 0))) e0 ?_)))
      obtain ⟨r796, gr796, hM66⟩ := bs hM66
      refine joinW 11 (fun f w => f 1 = (pB b7) ∧ f 5 = iV (x3.length : Int) ∧ f 6 = h24.v ∧ f 8 = iV x287 ∧ f 9 = iV x752 ∧ f 10 = iV x753 ∧ f 11 = iV x754 ∧ f 12 = iV x791 ∧ f 75 = .bool r796 ∧ St w0 ros (box b7 28 [h2.v, h4.v, h6.v] :: row 3 I1 h24.v x286 :: rs) w) (fun j67 => ?_) ?_
      ·rcases iteS gr796 with ⟨c798, gr796⟩ | ⟨c798, gr796⟩
       ·refine yG (dT c798) (yFb FL_28_2 (eh e66_1)) (yG (dT c798) (lb_ h6.v O_24 e0 hst R0) (yG (dT c798) (m_ (iV x287) (eh e66_8)) ?_))
        obtain ⟨x799, gx799, gr796⟩ := bs gr796
        refine yG (dT c798) (yIa SL_24 e0 e0 hst (rdI (F_4 q3)) gx799) ?_
        obtain ⟨h800, hst⟩ := iLs hst (F_4 q3) gx799
        refine yG (dT c798) (yCt O_22 e0 hst F1 rfl) (yG (dT c798) (m_ (iV x754) (eh e66_11)) ?_)
        obtain ⟨x801, gx801, gr796⟩ := bs gr796
        refine yG (dT c798) (yIa SL_22 e0 e0 hst (rdI F0) gx801) (yG (dT c798) (yI O_3 e0 hst (rdI F0) gx801) (yG (dT c798) (m_ (iV x753) (eh e66_10)) (yG (dT c798) (ygtr e0 e0) (yY (pt_ (.bool (decide (x753 < x801))) e0 (dT c798) e0) ?_))))
        obtain rfl := someI gr796
        exact j67 _ _ ⟨e66_1, e66_5, e66_6, e66_8, e66_9, e66_10, e66_11, rfl, rfl, (hst.facts (allT (allT (allT (allT (allT (allT allI)))))))⟩
       ·refine gN (dF c798) (gN (dF c798) (gN (dF c798) (gN (dF c798) (gN (dF c798) (gN (dF c798) (gN (dF c798) (gN (dF c798) (gN (dF c798) (gN (dF c798) (yY (pf_ (.bool false) e0 (dF c798) rfl) ?_))))))))))
        obtain rfl := someI gr796
        exact j67 _ _ ⟨e66_1, e66_5, e66_6, e66_8, e66_9, e66_10, e66_11, rfl, rfl, (hst.facts (allT (allT (allT (allT allI)))))⟩
      rintro f w ⟨e797_1, e797_5, e797_6, e797_8, e797_9, e797_10, e797_11, e797_12, e797_75, hst⟩
      refine wK k255 ?_
      have j68 : ∀ (x805 x806 : Int) (f : FV) (w : World), f 1 = (pB b7) → f 5 = iV (x3.length : Int) → f 6 = h24.v → f 8 = iV x287 → f 9 = iV x805 → f 10 = iV x806 → f 11 = iV x754 → St w0 ros (box b7 28 [h2.v, h4.v, h6.v] :: row 3 I1 h24.v x286 :: rs) w → sparseref18_Match_j68 x754 x805 x806 = some r66_ → Q253 .normal (fr 94 f) w := by
       intro x805 x806 f w ej68_1 ej68_5 ej68_6 ej68_8 ej68_9 ej68_10 ej68_11 hst hM
       refine qb253 _ _ _ (k252 _ _ (wR (Ym (iV x754) (eh ej68_11) (yY (yadd e0 rfl) (Ya (iV (wa .i64 x754 1)) e0 (wN ?_))))))
       obtain rfl := someI hM
       exact n66 _ _ _ rfl ⟨_, _, _, _, rfl, rfl, ej68_1, ej68_5, ej68_6, ej68_8, ej68_9, ej68_10, rfl, hst⟩
      rcases iteS hM66 with ⟨c807, hM66⟩ | ⟨c807, hM66⟩
      ·refine condT (eh e797_75) c807 ?_
       obtain ⟨x808, gx808, hM66⟩ := bs hM66
       obtain ⟨x810, gx810, hM66⟩ := bs hM66
       refine dR [0, 0, 2, 0, 14, 30, 0, 126, 254, 1, 1023] [9, 10] 2 folM ?_
       replace hst := hst.drew
       refine Dn [0, 1, 2, 3, 4, 5, 6, 7, 8] [] [9] (yR rfl (m_ (iV x791) (eh e797_12)) (yR rfl (yFb FL_28_2 (eh e797_1)) (yR rfl (lb_ h6.v O_24 e0 hst R0) (yR rfl (m_ (iV x287) (eh e797_8)) (yR rfl (yIa SL_24 e0 e0 hst (rdI q3) gx808) ?_)))))
       obtain ⟨h809, hst⟩ := iLs hst q3 gx808
       refine yR rfl (yCt O_22 e0 hst F1 rfl) (yR rfl (m_ (iV x754) (eh e797_11)) (yR rfl (yIa SL_22 e0 e0 hst (rdI F0) gx810) (yR rfl (yI O_3 e0 hst (rdI F0) gx810) (Rn QSn ?_))))
       refine Lc1 rfl ?_
       refine Ly wn (a_ (iV x791) e0) (Dn [] [1, 2, 3, 4, 5, 6, 7, 8] [10] (Rn (yS rfl (yFb FL_28_2 (eh e797_1)) (yS rfl (lb_ h6.v O_24 e0 hst R0) (yS rfl (m_ (iV x287) (eh e797_8)) (yS rfl (yIa SL_24 e0 e0 hst (rdI (F_2 q3)) gx808) (yS rfl (yCt O_22 e0 hst F1 rfl) (yS rfl (m_ (iV x754) (eh e797_11)) (yS rfl (yIa SL_22 e0 e0 hst (rdI F0) gx810) (yS rfl (yI O_3 e0 hst (rdI F0) gx810) QSn)))))))) ?_))
       refine Lc1 rfl ?_
       exact Ly wn (a_ (iV x810) e0) (Dz [] [] (Rn QSn (j68 _ _ _ _ e797_1 e797_5 e797_6 e797_8 rfl rfl e797_11 (hst.facts (allT (allT allI))) hM66)))
      ·exact condF (eh e797_75) (bfalse c807) (wp_skip (j68 _ _ _ _ e797_1 e797_5 e797_6 e797_8 e797_9 e797_10 e797_11 hst hM66))
     ·refine cF e0 c788 (wp_exit (z250 _ _ _ rfl ?_))
      obtain rfl := someI hM66
      exact zz66 _ _ _ _ rfl rfl (je66_0 _ _ _ e66_1 e66_5 e66_6 e66_8 e66_9 (hst.facts (allT (allT allI))) (ho66 _ rfl))
   ·refine cF e0 c551 (wp_exit (z178 _ _ _ rfl ?_))
    obtain rfl := someI hM46
    exact zz46 _ _ _ _ rfl rfl (je46_0 _ _ _ e46_6 (hst.pk 2 [1] rfl) (ho46 _ rfl))
  replace hst := hst.rowNh 3 I1
  refine loopQ (fun s a w => ∃ (x15 : LI) (x16 : Int) (f : FV) (h14 : Hdr), (x15, x16) = s ∧ a = fr 94 f ∧ f 1 = (pB b7) ∧ f 5 = iV (x3.length : Int) ∧ f 6 = h14.v ∧ f 7 = iV x16 ∧ St w0 ros (box b7 28 [h2.v, h4.v, h6.v] :: row 3 I1 h14.v x15 :: rs) w) go1 ⟨_, _, _, _, rfl, rfl, rfl, rfl, rfl, rfl, (hst.pk 2 [1, 0] rfl)⟩ ?_
  rintro _ _ w r1_ ⟨x15, x16, f, h14, rfl, rfl, e1_1, e1_5, e1_6, e1_7, hst⟩ hM1 ho1 Q100001 n1 zz1
  refine seqQ fun Q256 k256 z256 => sR fun _ k257 => Ym (iV x16) (eh e1_7) (Ym (iV (x3.length : Int)) (eh e1_5) (yY (ylss e0 e0) (wK k257 ?_)))
  rcases iteS hM1 with ⟨c811, hM1⟩ | ⟨c811, hM1⟩
  ·refine cT e0 c811 (wp_skip (k256 _ _ (sQ fun _ k258 => blockQ fun _ qb259 => wR (Ym h14.v (eh e1_6) (YH wn rfl (rLt (n := 1) (l := [(-1)]) hst SL_22 [iV (-1)] (bp1 rfl) rfl rfl (mks1 (cs := [iV (-1)]) rfl mkI mks0)) ?_)))))
   intro h812 w hst
   obtain ⟨x814, gx814, hM1⟩ := bs hM1
   replace hst := hst.pk 3 [2, 0, 0] rfl
   refine YH wn rfl (rAp hst SL_22 e0 e0 rO1 gx814) ?_
   intro h813 w hst
   refine Ya h813.v e0 (wN (qb259 _ _ _ (k258 _ _ (wR (Ym (iV x16) (eh e1_7) (yY (yadd e0 rfl) (Ya (iV (wa .i64 x16 1)) e0 (wN ?_))))))))
   obtain rfl := someI hM1
   exact n1 _ _ _ rfl ⟨_, _, _, _, rfl, rfl, e1_1, e1_5, rfl, rfl, (hst.pk 3 [2, 0] rfl)⟩
  ·refine cF e0 c811 (wp_exit (z256 _ _ _ rfl ?_))
   obtain rfl := someI hM1
   exact zz1 _ _ _ _ rfl rfl (je1_0 _ _ _ _ e1_1 e1_5 e1_6 hst (ho1 _ rfl))
 ·refine condT e0 (nT (dF c9)) (sR fun _ k260 => Ym (iV r8) e0 (Ya hnil.v rfl (Ya (iV r8) e0 (wK k260 (wp_ret (z2 _ _ _ rfl ?_))))))
  obtain rfl := someI hM
  replace hst := hst.rowNh 3 I1
  exact hQ _ _ _ (fin2r Tryz.results12 ⟨rfl, rfl⟩ ⟨rfl, rfl⟩ ⟨_, rfl, (hst.pk 2 [0] rfl)⟩)
theorem dissect_mates_ok {x1 : LI} {h2 : Hdr} {out : Bool} (hM : dissect_mates x1 = some out) (q1 : imm I1 h2.v x1 ∈ ros) (hst : St w0 ros rs w) :
  Calls Tryz.prog 41 #[h2.v] w (fun e w => e = .returned (.bool out) ∧ St w0 ros rs w) := by
 refine enterQ Tryz.func41 rfl Tryz.ntmps41 rfl fun Q hQ => sR fun _ k1 => Ya (.bool false) rfl (wK k1 (seqQ fun Q2 k2 z2 => sR fun _ k3 => Ym h2.v e0 (yY (yLen SL_22 e0 hst (rdI q1)) (Ym (iV 0) rfl (wK k3 ?_)))))
 refine blockQ fun Q4 qb4 => ?_
 obtain ⟨o5, go5, hM⟩ := bs hM
 have je5_0 : ∀ (f : FV) (w : World), St w0 ros rs w → .inl () = o5 → Q4 (.exit 0) (fr 29 f) w := by
  intro f w hst ho
  subst ho
  refine qb4 _ _ _ (k2 _ _ (sR fun _ k19 => Ya (.bool true) rfl (wK k19 (wp_ret ?_))))
  obtain rfl := someI hM
  exact hQ _ _ _ (fin1r Tryz.results41 ⟨rfl, rfl⟩ ⟨rfl, hst⟩)
 have je5_1 : ∀ (f : FV) (w : World), f 2 = .bool false → St w0 ros rs w → .inr () = o5 → Q4 .ret (fr 29 f) w := by
  intro f w eje5_1_2 hst ho
  subst ho
  refine qb4 _ _ _ (z2 _ _ _ rfl ?_)
  obtain rfl := someI hM
  exact hQ _ _ _ (fin1r Tryz.results41 ⟨rfl, eje5_1_2⟩ ⟨rfl, hst⟩)
 refine loopQ (fun s a w => ∃ (x13 : Int) (f : FV), x13 = s ∧ a = fr 29 f ∧ f 0 = h2.v ∧ f 5 = h2.v ∧ f 6 = iV (x1.length : Int) ∧ f 7 = iV x13 ∧ St w0 ros rs w) go5 ⟨_, _, rfl, rfl, rfl, rfl, rfl, rfl, hst⟩ ?_
 rintro _ _ w r5_ ⟨x13, f, rfl, rfl, e5_0, e5_5, e5_6, e5_7, hst⟩ hM5 ho5 Q100005 n5 zz5
 refine sR fun _ k20 => yY (ylss (eh e5_7) (eh e5_6)) (wK k20 (seqQ fun Q21 k21 z21 => ?_))
 rcases iteS hM5 with ⟨c25, hM5⟩ | ⟨c25, hM5⟩
 ·refine cT e0 c25 (wp_skip (k21 _ _ (seqQ fun Q22 k22 z22 => blockQ fun _ qb23 => sR fun _ k24 => Ym (iV x13) (eh e5_7) ?_)))
  obtain ⟨x26, gx26, hM5⟩ := bs hM5
  refine yY (yIa SL_22 (eh e5_5) (eh e5_7) hst (rdI q1) gx26) (yY (yI O_3 e0 hst (rdI q1) gx26) (Ya (iV x13) e0 (Ya (iV x26) e0 (wK k24 (sR fun _ k25 => Ym (iV x26) e0 (yY (ylss e0 rfl) (Ym (.bool (decide (x26 < 0))) e0 ?_)))))))
  refine joinW 5 (fun f w => f 0 = h2.v ∧ f 3 = iV x13 ∧ f 4 = iV x26 ∧ f 5 = h2.v ∧ f 6 = iV (x1.length : Int) ∧ f 7 = iV x13 ∧ f 19 = .bool ((decide (x26 < 0)) || (decide ((x1.length : Int) ≤ x26))) ∧ St w0 ros rs w) (fun j6 => ?_) ?_
  ·rcases Bool.eq_false_or_eq_true (decide (x26 < 0)) with c28 | c28
   ·exact gN c28 (gN c28 (gN c28 (gN c28 (yY (pt_ (.bool true) e0 c28 rfl) (j6 _ _ ⟨e5_0, rfl, rfl, e5_5, e5_6, e5_7, (congrArg Value.bool (orT c28)), hst⟩)))))
   ·exact yG c28 (m_ (iV x26) e0) (yG c28 (m_ h2.v (eh e5_0)) (yG c28 (yLen SL_22 e0 hst (rdI q1)) (yG c28 (ygeq e0 e0) (yY (pf_ (.bool (decide ((x1.length : Int) ≤ x26))) e0 c28 e0) (j6 _ _ ⟨e5_0, rfl, rfl, e5_5, e5_6, e5_7, (congrArg Value.bool (orF c28)), hst⟩)))))
  rintro f w ⟨e27_0, e27_3, e27_4, e27_5, e27_6, e27_7, e27_19, hst⟩
  refine Ym (.bool ((decide (x26 < 0)) || (decide ((x1.length : Int) ≤ x26)))) (eh e27_19) ?_
  obtain ⟨r30, gr30, hM5⟩ := bs hM5
  refine joinW 7 (fun f w => f 0 = h2.v ∧ f 5 = h2.v ∧ f 6 = iV (x1.length : Int) ∧ f 7 = iV x13 ∧ f 27 = .bool r30 ∧ St w0 ros rs w) (fun j7 => ?_) ?_
  ·rcases iteS gr30 with ⟨c32, gr30⟩ | ⟨c32, gr30⟩
   ·refine gN c32 (gN c32 (gN c32 (gN c32 (gN c32 (gN c32 (yY (pt_ (.bool true) e0 c32 rfl) ?_))))))
    obtain rfl := someI gr30
    exact j7 _ _ ⟨e27_0, e27_5, e27_6, e27_7, rfl, hst⟩
   ·refine yG (bfalse c32) (m_ h2.v (eh e27_0)) (yG (bfalse c32) (m_ (iV x26) (eh e27_4)) ?_)
    obtain ⟨x33, gx33, gr30⟩ := bs gr30
    refine yG (bfalse c32) (yIa SL_22 e0 e0 hst (rdI q1) gx33) (yG (bfalse c32) (yI O_3 e0 hst (rdI q1) gx33) (yG (bfalse c32) (m_ (iV x13) (eh e27_3)) (yG (bfalse c32) (yneq e0 e0) (yY (pf_ (.bool (!(decide (x33 = x13)))) e0 (bfalse c32) e0) ?_))))
    obtain rfl := someI gr30
    exact j7 _ _ ⟨e27_0, e27_5, e27_6, e27_7, rfl, hst⟩
  rintro f w ⟨e31_0, e31_5, e31_6, e31_7, e31_27, hst⟩
  refine wK k25 ?_
  rcases iteS hM5 with ⟨c34, hM5⟩ | ⟨c34, hM5⟩
  ·refine condT (eh e31_27) c34 (sR fun _ k26 => Ya (.bool false) rfl (wK k26 (wp_ret (qb23 _ _ _ (z22 _ _ _ rfl ?_)))))
   obtain rfl := someI hM5
   exact zz5 _ _ _ _ rfl rfl (je5_1 _ _ rfl hst (ho5 _ rfl))
  ·refine condF (eh e31_27) (bfalse c34) (wp_skip (qb23 _ _ _ (k22 _ _ (wR (yY (yadd (eh e31_7) rfl) (Ym (iV (wa .i64 x13 1)) e0 (wN ?_)))))))
   obtain rfl := someI hM5
   exact n5 _ _ _ rfl ⟨_, _, rfl, rfl, e31_0, e31_5, e31_6, rfl, hst⟩
 ·refine cF e0 c25 (wp_exit (z21 _ _ _ rfl ?_))
  obtain rfl := someI hM5
  exact zz5 _ _ _ _ rfl rfl (je5_0 _ _ hst (ho5 _ rfl))
theorem dissect_Coarsen_ok {x1 : L2} {x3 : LI} {x5 : L2} {x7 : LI} {h2 h4 h6 h8 : Hdr} {out : L2 × LI × L2 × LI × Int} (hM : dissect_Coarsen x1 x3 x5 x7 = some out) (q1 : imm S1 h2.v x1 ∈ ros) (q2 : imm I1 h4.v x3 ∈ ros) (q3 : imm S1 h6.v x5 ∈ ros) (q4 : imm I1 h8.v x7 ∈ ros) (hst : St w0 ros rs w) :
  Calls Tryz.prog 14 #[.agg #[h2.v, h4.v, h6.v], h8.v] w (fun e w => ∃ (h100001 : Hdr) (y100002 : List Hdr) (h100004 h100006 : Hdr) (y100007 : List Hdr) (h100009 : Hdr), e = .returned (.tuple #[.agg #[h100001.v, h100004.v, h100006.v], h100009.v, iV out.2.2.2.2]) ∧ St w0 (imm I1 h100004.v out.2.1 :: ros) (row 22 rH h100001.v y100002 :: fam 3 I1 y100002 out.1 :: row 22 rH h100006.v y100007 :: fam 3 I1 y100007 out.2.2.1 :: row 3 I1 h100009.v out.2.2.2.1 :: rs) w) := by
 refine enterQ Tryz.func14 rfl Tryz.ntmps14 rfl fun Q hQ => sR fun _ k1 => YB wn rfl (r_box (vals := [h2.v, h4.v, h6.v]) hst e0 rfl) ?_
 intro b9 w hst
 refine YB wn rfl (rAl hst ZT_28) ?_
 intro b10 w hst
 refine Ya hnil.v rfl (Ya (iV 0) rfl (wK k1 (sR fun _ k2 => yY (lbs_ [h2.v, h4.v, h6.v] ST_28 e0 hst R1) ?_)))
 obtain ⟨r11, gr11, hM⟩ := bs hM
 refine Yc wn rfl (yCall FN_23 (a1 e0)) (dissect_CheckWeighted_ok gr11 q1 q2 q3 hst) ?_
 rintro _ w ⟨rfl, hst⟩
 refine ⟨_, rfl, ?_⟩
 refine Ya (iV r11) e0 (wK k2 (seqQ fun Q3 k3 z3 => blockQ fun _ qb4 => sR fun _ k5 => Ym (iV r11) e0 (yY (yneq e0 rfl) (Ya (.bool (!(decide (r11 = 0)))) e0 (wK k5 ?_)))))
 rcases iteS hM with ⟨c12, hM⟩ | ⟨c12, hM⟩
 ·refine condF e0 (nF (dT c12)) (sR fun _ k6 => Ym h8.v e0 (yY (yLen SL_22 e0 hst (rdI q4)) (yY (yFb FL_28_1 e0) (yY (lb_ h4.v O_22 e0 hst R1) (yY (yLen SL_22 e0 hst (rdI q2)) (yY (yneq e0 e0) (Ya (.bool (!(decide ((x7.length : Int) = (x3.length : Int))))) e0 (wK k6 ?_))))))))
  rcases iteS hM with ⟨c13, hM⟩ | ⟨c13, hM⟩
  ·refine condF e0 (nF (dT c13)) (sR fun _ k7 => Ym h8.v e0 ?_)
   obtain ⟨r14, gr14, hM⟩ := bs hM
   refine Yc wn rfl (yCall FN_41 (a1 e0)) (dissect_mates_ok gr14 q4 hst) ?_
   rintro _ w ⟨rfl, hst⟩
   refine ⟨_, rfl, ?_⟩
   refine yY (ynot e0) (Ya (.bool (!r14)) e0 (wK k7 ?_))
   rcases iteS hM with ⟨c15, hM⟩ | ⟨c15, hM⟩
   ·refine condF e0 (nF c15) (wp_skip (qb4 _ _ _ (k3 _ _ (sR fun _ k8 => yY (lbs_ [h2.v, h4.v, h6.v] ST_28 e0 hst R1) (Ym h8.v e0 ?_)))))
    obtain ⟨r16, gr16, hM⟩ := bs hM
    refine Yc wn rfl (yCall FN_42 (a2 e0 e0)) (dissect_coarsen_ok gr16 q1 q2 q3 q4 hst) ?_
    rintro _ w ⟨h17, y18, h19, h20, y21, h22, rfl, hst⟩
    refine ⟨_, rfl, ?_⟩
    refine Ym (.tuple #[.agg #[h17.v, h19.v, h20.v], h22.v, .bool r16.2.2.2.2]) e0 (yY (x_ (.agg #[h17.v, h19.v, h20.v]) e0) (yY (x_ h22.v e0) (yY (x_ (.bool r16.2.2.2.2) e0) ?_)))
    replace hst := hst.pk 6 [5, 0, 0, 0, 0, 0] rfl
    refine YT wn rfl (r_stbn (vals' := [h17.v, h19.v, h20.v]) (us := [h17.v, h19.v, h20.v]) hst ST_28 e0 e0 rfl rfl (one_of rfl) rfl) ?_
    intro w hst
    refine Ya h22.v e0 (Ya (.bool r16.2.2.2.2) e0 (wK k8 (seqQ fun Q9 k9 z9 => sR fun _ k10 => Ym (.bool r16.2.2.2.2) e0 (yY (ynot e0) (wK k10 ?_)))))
    rcases iteS hM with ⟨c23, hM⟩ | ⟨c23, hM⟩
    ·refine condF e0 (nF c23) (wp_skip (k9 _ _ (sR fun _ k11 => yY (lbs_ [h17.v, h19.v, h20.v] ST_28 e0 hst R0) (Ym h22.v e0 (YT wn rfl (r_stbn (vals' := [h17.v, h19.v, h20.v]) (us := [h17.v, h19.v, h20.v]) hst ST_28 e0 e0 rfl rfl (one_of rfl) rfl) ?_)))))
     intro w hst
     refine Ya h22.v e0 (Ya (iV 0) rfl (wK k11 (wp_ret ?_)))
     obtain rfl := someI hM
     exact hQ _ _ _ (fin3r Tryz.results14 (rcs2 rfl rfl hst R0 ST_28 rfl) ⟨rfl, rfl⟩ ⟨rfl, rfl⟩ ⟨_, _, _, _, _, _, rfl, (hst.pk 7 [1, 1, 1, 1, 1] rfl)⟩)
    ·refine condT e0 (nT (bfalse c23)) (sR fun _ k12 => yY (ybuild (us := [hnil.v, hnil.v, hnil.v]) [] SO_28 bp0 rfl) (YT wn rfl (r_stbn (vals' := [hnil.v, hnil.v, hnil.v]) (us := [hnil.v, hnil.v, hnil.v]) hst ST_28 e0 e0 rfl rfl (one_of rfl) rfl) ?_))
     intro w hst
     refine Ya hnil.v rfl (Ya (iV 3) rfl (wK k12 (wp_ret (z9 _ _ _ rfl ?_))))
     obtain rfl := someI hM
     replace hst := ((hst.rowNh 22 rH).fNew 3 I1).pk 2 [1, 0] rfl
     replace hst := hst.immNh I1
     replace hst := ((hst.rowNh 22 rH).fNew 3 I1).pk 2 [1, 0] rfl
     replace hst := hst.rowNh 3 I1
     exact hQ _ _ _ (fin3r Tryz.results14 (rcs2 rfl rfl hst R5 ST_28 rfl) ⟨rfl, rfl⟩ ⟨rfl, rfl⟩ ⟨_, _, _, _, _, _, rfl, ((hst.pk 12 [3, 3, 1, 1, 0] rfl).facts (allC F0 (allT (allT allI))))⟩)
   ·refine condT e0 (nT (bfalse c15)) (sR fun _ k13 => yY (ybuild (us := [hnil.v, hnil.v, hnil.v]) [] SO_28 bp0 rfl) (YT wn rfl (r_stbn (vals' := [hnil.v, hnil.v, hnil.v]) (us := [hnil.v, hnil.v, hnil.v]) hst ST_28 e0 e0 rfl rfl (one_of rfl) rfl) ?_))
    intro w hst
    refine Ya hnil.v rfl (Ya (iV 130) rfl (wK k13 (wp_ret (qb4 _ _ _ (z3 _ _ _ rfl ?_)))))
    obtain rfl := someI hM
    replace hst := ((hst.rowNh 22 rH).fNew 3 I1).pk 2 [1, 0] rfl
    replace hst := hst.immNh I1
    replace hst := ((hst.rowNh 22 rH).fNew 3 I1).pk 2 [1, 0] rfl
    replace hst := hst.rowNh 3 I1
    exact hQ _ _ _ (fin3r Tryz.results14 (rcs2 rfl rfl hst R5 ST_28 rfl) ⟨rfl, rfl⟩ ⟨rfl, rfl⟩ ⟨_, _, _, _, _, _, rfl, (hst.pk 7 [3, 3, 1, 1, 0] rfl)⟩)
  ·refine condT e0 (nT (dF c13)) (sR fun _ k14 => yY (ybuild (us := [hnil.v, hnil.v, hnil.v]) [] SO_28 bp0 rfl) (YT wn rfl (r_stbn (vals' := [hnil.v, hnil.v, hnil.v]) (us := [hnil.v, hnil.v, hnil.v]) hst ST_28 e0 e0 rfl rfl (one_of rfl) rfl) ?_))
   intro w hst
   refine Ya hnil.v rfl (Ya (iV 2) rfl (wK k14 (wp_ret (qb4 _ _ _ (z3 _ _ _ rfl ?_)))))
   obtain rfl := someI hM
   replace hst := ((hst.rowNh 22 rH).fNew 3 I1).pk 2 [1, 0] rfl
   replace hst := hst.immNh I1
   replace hst := ((hst.rowNh 22 rH).fNew 3 I1).pk 2 [1, 0] rfl
   replace hst := hst.rowNh 3 I1
   exact hQ _ _ _ (fin3r Tryz.results14 (rcs2 rfl rfl hst R5 ST_28 rfl) ⟨rfl, rfl⟩ ⟨rfl, rfl⟩ ⟨_, _, _, _, _, _, rfl, (hst.pk 7 [3, 3, 1, 1, 0] rfl)⟩)
 ·refine condT e0 (nT (dF c12)) (sR fun _ k15 => yY (ybuild (us := [hnil.v, hnil.v, hnil.v]) [] SO_28 bp0 rfl) (Ym (iV r11) e0 (YT wn rfl (r_stbn (vals' := [hnil.v, hnil.v, hnil.v]) (us := [hnil.v, hnil.v, hnil.v]) hst ST_28 e0 e0 rfl rfl (one_of rfl) rfl) ?_)))
  intro w hst
  refine Ya hnil.v rfl (Ya (iV r11) e0 (wK k15 (wp_ret (qb4 _ _ _ (z3 _ _ _ rfl ?_)))))
  obtain rfl := someI hM
  replace hst := ((hst.rowNh 22 rH).fNew 3 I1).pk 2 [1, 0] rfl
  replace hst := hst.immNh I1
  replace hst := ((hst.rowNh 22 rH).fNew 3 I1).pk 2 [1, 0] rfl
  replace hst := hst.rowNh 3 I1
  exact hQ _ _ _ (fin3r Tryz.results14 (rcs2 rfl rfl hst R5 ST_28 rfl) ⟨rfl, rfl⟩ ⟨rfl, rfl⟩ ⟨_, _, _, _, _, _, rfl, (hst.pk 7 [3, 3, 1, 1, 0] rfl)⟩)
theorem sparseref18_Coarsen_ok {x1 : L2} {x3 : LI} {x5 : L2} {x7 : LI} {h2 h4 h6 h8 : Hdr} {out : L2 × LI × L2 × LI × Int} (hM : sparseref18_Coarsen x1 x3 x5 x7 = some out) (q1 : imm S1 h2.v x1 ∈ ros) (q2 : imm I1 h4.v x3 ∈ ros) (q3 : imm S1 h6.v x5 ∈ ros) (q4 : imm I1 h8.v x7 ∈ ros) (hst : St w0 ros rs w) :
  Calls Tryz.prog 15 #[.agg #[h2.v, h4.v, h6.v], h8.v] w (fun e w => ∃ (h100001 : Hdr) (y100002 : List Hdr) (h100004 h100006 : Hdr) (y100007 : List Hdr) (h100009 : Hdr), e = .returned (.tuple #[.agg #[h100001.v, h100004.v, h100006.v], h100009.v, iV out.2.2.2.2]) ∧ St w0 ros (row 22 rH h100001.v y100002 :: fam 3 I1 y100002 out.1 :: row 3 I1 h100004.v out.2.1 :: row 22 rH h100006.v y100007 :: fam 3 I1 y100007 out.2.2.1 :: row 3 I1 h100009.v out.2.2.2.1 :: rs) w) := by
 refine enterQ Tryz.func15 rfl Tryz.ntmps15 rfl fun Q hQ => sR fun _ k1 => YB wn rfl (r_box (vals := [h2.v, h4.v, h6.v]) hst e0 rfl) ?_
 intro b9 w hst
 refine YB wn rfl (rAl hst ZT_28) ?_
 intro b10 w hst
 refine Ya hnil.v rfl (Ya (iV 0) rfl (wK k1 (seqQ fun Q2 k2 z2 => sR fun _ k3 => yY (lbs_ [h2.v, h4.v, h6.v] ST_28 e0 hst R1) ?_)))
 obtain ⟨r11, gr11, hM⟩ := bs hM
 refine Yc wn rfl (yCall FN_24 (a1 e0)) (sparseref18_CheckWeighted_ok gr11 q1 q2 q3 hst) ?_
 rintro _ w ⟨rfl, hst⟩
 refine ⟨_, rfl, ?_⟩
 refine Ya (iV r11) e0 (wK k3 (sR fun _ k4 => Ym (iV r11) e0 (yY (yneq e0 rfl) (wK k4 ?_))))
 rcases iteS hM with ⟨c12, hM⟩ | ⟨c12, hM⟩
 ·refine condF e0 (nF (dT c12)) (wp_skip (k2 _ _ (sR fun _ k5 => yY (yFb FL_28_1 e0) (yY (lb_ h4.v O_22 e0 hst R1) (yY (yLen SL_22 e0 hst (rdI q2)) (Ya (iV (x3.length : Int)) e0 (wK k5 (seqQ fun Q6 k6 z6 => sR fun _ k7 => ?_))))))))
  refine Ym h8.v e0 (yY (yLen SL_22 e0 hst (rdI q4)) (Ym (iV (x3.length : Int)) e0 (yY (yneq e0 e0) (wK k7 ?_))))
  rcases iteS hM with ⟨c13, hM⟩ | ⟨c13, hM⟩
  ·refine condF e0 (nF (dT c13)) (wp_skip (k6 _ _ (seqQ fun Q8 k8 z8 => sR fun _ k9 => Ya (iV 0) rfl (wK k9 (blockQ fun Q10 qb10 => ?_)))))
   obtain ⟨o5, go5, hM⟩ := bs hM
   have je5_0 : ∀ (f : FV) (w : World), f 1 = h8.v → f 2 = (pB b9) → f 4 = (pB b10) → f 8 = iV (x3.length : Int) → St w0 ros (box b9 28 [h2.v, h4.v, h6.v] :: box b10 28 [hnil.v, hnil.v, hnil.v] :: rs) w → .inl () = o5 → Q10 (.exit 0) (fr 266 f) w := by
    intro f w eje5_0_1 eje5_0_2 eje5_0_4 eje5_0_8 hst ho
    subst ho
    refine qb10 _ _ _ (k8 _ _ (sR fun _ k23 => Ym (iV (x3.length : Int)) (eh eje5_0_8) ?_))
    obtain ⟨x48, gx48, hM⟩ := bs hM
    refine YH wn rfl (rMk hst SL_22 e0 gx48) ?_
    intro h46 w hst
    refine Ya h46.v e0 (wK k23 (sR fun _ k24 => yY (ybuild (us := [hnil.v, hnil.v, hnil.v]) [] SO_28 bp0 rfl) (YB wn rfl (rAl hst ZT_28) ?_)))
    intro b49 w hst
    refine YT wn rfl (r_stbn (vals' := [hnil.v, hnil.v, hnil.v]) (us := [hnil.v, hnil.v, hnil.v]) hst ST_28 e0 e0 rfl rfl (one_of rfl) rfl) ?_
    intro w hst
    refine wK k24 (sQ fun _ k25 => sR fun _ k26 => Ya (iV 0) rfl (wK k26 (blockQ fun Q27 qb27 => ?_)))
    obtain ⟨o8, go8, hM⟩ := bs hM
    have je8_0 : ∀ (x156 x158 : LI) (h157 : Hdr) (f : FV) (w : World), f 2 = (pB b9) → f 4 = (pB b10) → f 8 = iV (x3.length : Int) → f 10 = h46.v → f 11 = (pB b49) → St w0 ros (box b9 28 [h2.v, h4.v, h6.v] :: box b10 28 [hnil.v, hnil.v, hnil.v] :: row 3 I1 h46.v x156 :: row 3 I1 h157.v x158 :: box b49 28 [hnil.v, h157.v, hnil.v] :: rs) w → (x156, x158) = o8 → Q27 (.exit 2) (fr 266 f) w := by
     intro x156 x158 h157 f w eje8_0_2 eje8_0_4 eje8_0_8 eje8_0_10 eje8_0_11 hst ho
     subst ho
     refine qb27 _ _ _ (k25 _ _ (sR fun _ k70 => yY (yFb FL_28_1 (eh eje8_0_11)) (yY (lb_ h157.v O_22 e0 hst R4) (yY (yLen SL_22 e0 hst rO3) (Ya (iV (x158.length : Int)) e0 (wK k70 (sR fun _ k71 => Ym (iV (x158.length : Int)) e0 ?_)))))))
     obtain ⟨x161, gx161, hM⟩ := bs hM
     obtain ⟨m160, em160, gm160⟩ := mkL_rep gx161 hnil
     refine YH wn rfl (rMk hst SLH_24 e0 gm160) ?_
     intro h159 w hst
     replace hst := (hst.fReps 3 I1 m160).pk 2 [1, 0] rfl
     rw [← em160] at hst
     refine Ya h159.v e0 (wK k71 (sQ fun _ k72 => sR fun _ k73 => Ya (iV 0) rfl (wK k73 (blockQ fun Q74 qb74 => ?_))))
     obtain ⟨o9, go9, hM⟩ := bs hM
     have je9_0 : ∀ (x181 : L2) (y180 : List Hdr) (f : FV) (w : World), f 2 = (pB b9) → f 4 = (pB b10) → f 8 = iV (x3.length : Int) → f 10 = h46.v → f 11 = (pB b49) → f 13 = iV (x158.length : Int) → f 14 = h159.v → St w0 ros (box b9 28 [h2.v, h4.v, h6.v] :: box b10 28 [hnil.v, hnil.v, hnil.v] :: row 3 I1 h46.v x156 :: row 3 I1 h157.v x158 :: box b49 28 [hnil.v, h157.v, hnil.v] :: row 22 rH h159.v y180 :: fam 3 I1 y180 x181 :: rs) w → x181 = o9 → Q74 (.exit 4) (fr 266 f) w := by
      intro x181 y180 f w eje9_0_2 eje9_0_4 eje9_0_8 eje9_0_10 eje9_0_11 eje9_0_13 eje9_0_14 hst ho
      subst ho
      refine qb74 _ _ _ (k72 _ _ (sQ fun _ k83 => sR fun _ k84 => Ya (iV 0) rfl (wK k84 (blockQ fun Q85 qb85 => ?_))))
      obtain ⟨o12, go12, hM⟩ := bs hM
      have je12_0 : ∀ (x306 : L2) (f : FV) (w : World), f 4 = (pB b10) → f 10 = h46.v → f 11 = (pB b49) → f 13 = iV (x158.length : Int) → f 14 = h159.v → St w0 ros (box b10 28 [hnil.v, hnil.v, hnil.v] :: row 3 I1 h46.v x156 :: row 3 I1 h157.v x158 :: box b49 28 [hnil.v, h157.v, hnil.v] :: row 22 rH h159.v y180 :: fam 3 I1 y180 x306 :: rs) w → x306 = o12 → Q85 (.exit 6) (fr 266 f) w := by
       intro x306 f w eje12_0_4 eje12_0_10 eje12_0_11 eje12_0_13 eje12_0_14 hst ho
       subst ho
       refine qb85 _ _ _ (k83 _ _ (seqQ fun Q128 k128 z128 => sR fun _ k129 => Ya (iV 0) rfl (wK k129 (blockQ fun Q130 qb130 => ?_))))
       obtain ⟨o39, go39, hM⟩ := bs hM
       have je39_0 : ∀ (x821 x824 : L2) (h819 : Hdr) (y820 : List Hdr) (h822 : Hdr) (y823 : List Hdr) (f : FV) (w : World), f 4 = (pB b10) → f 10 = h46.v → f 11 = (pB b49) → St w0 ros (box b10 28 [hnil.v, hnil.v, hnil.v] :: row 3 I1 h46.v x156 :: row 22 rH h819.v y820 :: fam 3 I1 y820 x821 :: row 3 I1 h157.v x158 :: row 22 rH h822.v y823 :: fam 3 I1 y823 x824 :: box b49 28 [h819.v, h157.v, h822.v] :: rs) w → .inl (x821, x824) = o39 → Q130 (.exit 10) (fr 266 f) w := by
        intro x821 x824 h819 y820 h822 y823 f w eje39_0_4 eje39_0_10 eje39_0_11 hst ho
        subst ho
        refine qb130 _ _ _ (k128 _ _ (sR fun _ k299 => yY (lbs_ [h819.v, h157.v, h822.v] ST_28 (eh eje39_0_11) hst R7) (Ym h46.v (eh eje39_0_10) (YT wn rfl (r_stbn (vals' := [h819.v, h157.v, h822.v]) (us := [h819.v, h157.v, h822.v]) hst ST_28 (eh eje39_0_4) e0 rfl rfl (one_of rfl) rfl) ?_))))
        intro w hst
        refine Ya h46.v e0 (Ya (iV 0) rfl (wK k299 (wp_ret ?_)))
        obtain rfl := someI hM
        exact hQ _ _ _ (fin3r Tryz.results15 (rcs2 rfl eje39_0_4 hst R0 ST_28 rfl) ⟨rfl, rfl⟩ ⟨rfl, rfl⟩ ⟨_, _, _, _, _, _, rfl, (hst.pk 8 [2, 2, 2, 2, 2, 1] rfl)⟩)
       have je39_1 : ∀ (f : FV) (w : World), f 4 = (pB b10) → f 5 = hnil.v → f 6 = iV 3 → St w0 ros (box b10 28 [hnil.v, hnil.v, hnil.v] :: rs) w → .inr () = o39 → Q130 .ret (fr 266 f) w := by
        intro f w eje39_1_4 eje39_1_5 eje39_1_6 hst ho
        subst ho
        refine qb130 _ _ _ (z128 _ _ _ rfl ?_)
        obtain rfl := someI hM
        replace hst := ((hst.rowNh 22 rH).fNew 3 I1).pk 2 [1, 0] rfl
        replace hst := hst.rowNh 3 I1
        replace hst := ((hst.rowNh 22 rH).fNew 3 I1).pk 2 [1, 0] rfl
        replace hst := hst.rowNh 3 I1
        exact hQ _ _ _ (fin3r Tryz.results15 (rcs2 rfl eje39_1_4 hst R6 ST_28 rfl) ⟨rfl, eje39_1_5⟩ ⟨rfl, eje39_1_6⟩ ⟨_, _, _, _, _, _, rfl, (hst.pk 7 [4, 4, 3, 1, 1, 0] rfl)⟩)
       replace hst := ((hst.rowNh 22 rH).fNew 3 I1).pk 2 [1, 0] rfl
       replace hst := ((hst.rowNh 22 rH).fNew 3 I1).pk 2 [1, 0] rfl
       refine loopQ (fun s a w => ∃ (x558 x561 : L2) (x562 : Int) (f : FV) (h556 : Hdr) (y557 : List Hdr) (h559 : Hdr) (y560 : List Hdr), (x558, x561, x562) = s ∧ a = fr 266 f ∧ f 4 = (pB b10) ∧ f 10 = h46.v ∧ f 11 = (pB b49) ∧ f 13 = iV (x158.length : Int) ∧ f 14 = h159.v ∧ f 20 = iV x562 ∧ St w0 ros (box b10 28 [hnil.v, hnil.v, hnil.v] :: row 3 I1 h46.v x156 :: row 22 rH h556.v y557 :: fam 3 I1 y557 x558 :: row 3 I1 h157.v x158 :: row 22 rH h559.v y560 :: fam 3 I1 y560 x561 :: box b49 28 [h556.v, h157.v, h559.v] :: row 22 rH h159.v y180 :: fam 3 I1 y180 x306 :: rs) w) go39 ⟨_, _, _, _, _, _, _, _, rfl, rfl, eje12_0_4, eje12_0_10, eje12_0_11, eje12_0_13, eje12_0_14, rfl, (hst.pk 10 [4, 4, 2, 2, 2, 0, 0, 0, 0, 0] rfl)⟩ ?_
       rintro _ _ w r39_ ⟨x558, x561, x562, f, h556, y557, h559, y560, rfl, rfl, e39_4, e39_10, e39_11, e39_13, e39_14, e39_20, hst⟩ hM39 ho39 Q100039 n39 zz39
       refine seqQ fun Q300 k300 z300 => sR fun _ k301 => Ym (iV x562) (eh e39_20) (Ym (iV (x158.length : Int)) (eh e39_13) (yY (ylss e0 e0) (wK k301 ?_)))
       rcases iteS hM39 with ⟨c825, hM39⟩ | ⟨c825, hM39⟩
       ·refine cT e0 c825 (wp_skip (k300 _ _ (seqQ fun Q302 k302 z302 => blockQ fun _ qb303 => seqQ fun Q304 k304 z304 => sR fun _ k305 => yY (yFb FL_28_1 (eh e39_11)) (yY (lb_ h157.v O_22 e0 hst R7) (Ym (iV x562) (eh e39_20) ?_)))))
        obtain ⟨x826, gx826, hM39⟩ := bs hM39
        refine yY (yIa SL_22 e0 e0 hst rO4 gx826) (yY (yI O_3 e0 hst rO4 gx826) (yY (ygtr e0 rfl) (wK k305 ?_)))
        rcases iteS hM39 with ⟨c827, hM39⟩ | ⟨c827, hM39⟩
        ·refine cT e0 c827 (sR fun _ k306 => yY (ybuild (us := [hnil.v, hnil.v, hnil.v]) [] SO_28 bp0 rfl) (YT wn rfl (r_stbn (vals' := [hnil.v, hnil.v, hnil.v]) (us := [hnil.v, hnil.v, hnil.v]) hst ST_28 (eh e39_4) e0 rfl rfl (one_of rfl) rfl) ?_))
         intro w hst
         refine Ya hnil.v rfl (Ya (iV 3) rfl (wK k306 (wp_ret (z304 _ _ _ rfl (qb303 _ _ _ (z302 _ _ _ rfl ?_))))))
         obtain rfl := someI hM39
         exact zz39 _ _ _ _ rfl rfl (je39_1 _ _ e39_4 rfl rfl (hst.pk 10 [0] rfl) (ho39 _ rfl))
        ·refine cF e0 c827 (wp_skip (k304 _ _ (sR fun _ k307 => Ya hnil.v rfl (Ya hnil.v rfl (wK k307 (seqQ fun Q308 k308 z308 => sR fun _ k309 => Ya (iV 0) rfl (wN ?_)))))))
         refine k309 _ _ (blockQ fun Q310 qb310 => ?_)
         obtain ⟨o48, go48, hM39⟩ := bs hM39
         have je48_0 : ∀ (x987 x989 : LI) (h986 h988 : Hdr) (f : FV) (w : World), f 4 = (pB b10) → f 10 = h46.v → f 11 = (pB b49) → f 13 = iV (x158.length : Int) → f 14 = h159.v → f 20 = iV x562 → f 21 = h986.v → f 22 = h988.v → St w0 ros (box b10 28 [hnil.v, hnil.v, hnil.v] :: row 3 I1 h46.v x156 :: row 22 rH h556.v y557 :: fam 3 I1 y557 x558 :: row 3 I1 h157.v x158 :: row 22 rH h559.v y560 :: fam 3 I1 y560 x561 :: box b49 28 [h556.v, h157.v, h559.v] :: row 22 rH h159.v y180 :: fam 3 I1 y180 x306 :: row 3 I1 h986.v x987 :: row 3 I1 h988.v x989 :: rs) w → .inl (x987, x989) = o48 → Q310 (.exit 12) (fr 266 f) w := by
          intro x987 x989 h986 h988 f w eje48_0_4 eje48_0_10 eje48_0_11 eje48_0_13 eje48_0_14 eje48_0_20 eje48_0_21 eje48_0_22 hst ho
          subst ho
          refine qb310 _ _ _ (k308 _ _ (sR fun _ k359 => yY (yFb FL_28_0 (eh eje48_0_11)) (yY (yFb FL_26_0 e0) (yY (lb_ h556.v O_24 e0 hst R7) (Ym h986.v (eh eje48_0_21) (YH wn rfl (rLt (n := 1) (l := [h986]) hst SLH_24 [h986.v] (bp1 e0) rfl rfl (mks1 rfl (mkF rfl) mks0)) ?_))))))
          intro h990 w hst
          obtain ⟨x993, gx993, hM39⟩ := bs hM39
          replace hst := hst.pk 4 [3, 0, 0, 0] rfl
          obtain ⟨y994, ey994, gy994⟩ := app_rep gx993 (hst.famL R4) (show [h986].length = [x987].length from rfl)
          refine YH wn rfl (rAp hst SLH_24 e0 e0 rO1 gy994) ?_
          intro h992 w hst
          replace hst := hst.pk 12 [11, 4, 0, 0, 0, 0, 0, 0, 0, 0, 0, 0] rfl
          replace hst := hst.fPush
          rw [← ey994, ← (app_some gx993).1] at hst
          refine yY (yFb FL_28_0 (eh eje48_0_11)) (yY (yFb FL_26_0 e0) ?_)
          replace hst := hst.pk 9 [8, 0, 0, 0, 0, 0, 0, 0, 0] rfl
          refine YT wn rfl (r_stb1 (vals' := [h992.v, h157.v, h559.v]) hst O_24 e0 e0 rfl rfl rfl rfl) ?_
          intro w hst
          refine wK k359 (wR (yY (yFb FL_28_2 (eh eje48_0_11)) (yY (lb_ h559.v O_24 e0 hst R0) (Ym h988.v (eh eje48_0_22) (YH wn rfl (rLt (n := 1) (l := [h988]) hst SLH_24 [h988.v] (bp1 e0) rfl rfl (mks1 rfl (mkF rfl) mks0)) ?_)))))
          intro h995 w hst
          obtain ⟨x998, gx998, hM39⟩ := bs hM39
          replace hst := hst.pk 9 [8, 0, 0, 0, 0, 0, 0, 0, 0] rfl
          obtain ⟨y999, ey999, gy999⟩ := app_rep gx998 (hst.famL R9) (show [h988].length = [x989].length from rfl)
          refine YH wn rfl (rAp hst SLH_24 e0 e0 rO1 gy999) ?_
          intro h997 w hst
          replace hst := hst.pk 13 [12, 9, 0, 0, 0, 0, 0, 0, 0, 0, 0, 0, 0] rfl
          replace hst := hst.fPush
          rw [← ey999, ← (app_some gx998).1] at hst
          refine yY (yFb FL_28_2 (eh eje48_0_11)) ?_
          replace hst := hst.pk 4 [3, 0, 0, 0] rfl
          refine YT wn rfl (r_stb1 (vals' := [h992.v, h157.v, h997.v]) hst O_24 e0 e0 rfl rfl rfl rfl) ?_
          intro w hst
          refine wN (qb303 _ _ _ (k302 _ _ (wR (Ym (iV x562) (eh eje48_0_20) (yY (yadd e0 rfl) (Ya (iV (wa .i64 x562 1)) e0 (wN ?_)))))))
          obtain rfl := someI hM39
          exact n39 _ _ _ rfl ⟨_, _, _, _, _, _, _, _, rfl, rfl, eje48_0_4, eje48_0_10, eje48_0_11, eje48_0_13, eje48_0_14, rfl, (hst.pk 12 [7, 7, 5, 4, 5, 2, 1, 0, 2, 2] rfl)⟩
         have je48_1 : ∀ (f : FV) (w : World), f 4 = (pB b10) → f 5 = hnil.v → f 6 = iV 3 → St w0 ros (box b10 28 [hnil.v, hnil.v, hnil.v] :: rs) w → .inr () = o48 → Q310 .ret (fr 266 f) w := by
          intro f w eje48_1_4 eje48_1_5 eje48_1_6 hst ho
          subst ho
          refine qb310 _ _ _ (z308 _ _ _ rfl (qb303 _ _ _ (z302 _ _ _ rfl ?_)))
          obtain rfl := someI hM39
          exact zz39 _ _ _ _ rfl rfl (je39_1 _ _ eje48_1_4 eje48_1_5 eje48_1_6 hst (ho39 _ rfl))
         replace hst := hst.rowNh 3 I1
         replace hst := hst.rowNh 3 I1
         refine loopQ (fun s a w => ∃ (x903 x905 : LI) (x906 : Int) (f : FV) (h902 h904 : Hdr), (x903, x905, x906) = s ∧ a = fr 266 f ∧ f 4 = (pB b10) ∧ f 10 = h46.v ∧ f 11 = (pB b49) ∧ f 13 = iV (x158.length : Int) ∧ f 14 = h159.v ∧ f 20 = iV x562 ∧ f 21 = h902.v ∧ f 22 = h904.v ∧ f 23 = iV x906 ∧ St w0 ros (box b10 28 [hnil.v, hnil.v, hnil.v] :: row 3 I1 h46.v x156 :: row 22 rH h556.v y557 :: fam 3 I1 y557 x558 :: row 3 I1 h157.v x158 :: row 22 rH h559.v y560 :: fam 3 I1 y560 x561 :: box b49 28 [h556.v, h157.v, h559.v] :: row 22 rH h159.v y180 :: fam 3 I1 y180 x306 :: row 3 I1 h902.v x903 :: row 3 I1 h904.v x905 :: rs) w) go48 ⟨_, _, _, _, _, _, rfl, rfl, e39_4, e39_10, e39_11, e39_13, e39_14, e39_20, rfl, rfl, rfl, (hst.pk 12 [2, 2, 2, 2, 2, 2, 2, 2, 2, 2, 1, 0] rfl)⟩ ?_
         rintro _ _ w r48_ ⟨x903, x905, x906, f, h902, h904, rfl, rfl, e48_4, e48_10, e48_11, e48_13, e48_14, e48_20, e48_21, e48_22, e48_23, hst⟩ hM48 ho48 Q100048 n48 zz48
         refine seqQ fun Q360 k360 z360 => sR fun _ k361 => Ym (iV x906) (eh e48_23) (Ym (iV (x158.length : Int)) (eh e48_13) (yY (ylss e0 e0) (wK k361 ?_)))
         rcases iteS hM48 with ⟨c1000, hM48⟩ | ⟨c1000, hM48⟩
         ·refine cT e0 c1000 (wp_skip (k360 _ _ (seqQ fun Q362 k362 z362 => ?_)))
          have j51 : ∀ (x1048 x1050 : LI) (h1047 h1049 : Hdr) (f : FV) (w : World), f 4 = (pB b10) → f 10 = h46.v → f 11 = (pB b49) → f 13 = iV (x158.length : Int) → f 14 = h159.v → f 20 = iV x562 → f 21 = h1047.v → f 22 = h1049.v → f 23 = iV x906 → St w0 ros (box b10 28 [hnil.v, hnil.v, hnil.v] :: row 3 I1 h46.v x156 :: row 22 rH h556.v y557 :: fam 3 I1 y557 x558 :: row 3 I1 h157.v x158 :: row 22 rH h559.v y560 :: fam 3 I1 y560 x561 :: box b49 28 [h556.v, h157.v, h559.v] :: row 22 rH h159.v y180 :: fam 3 I1 y180 x306 :: row 3 I1 h1047.v x1048 :: row 3 I1 h1049.v x1050 :: rs) w → sparseref18_Coarsen_j51 x906 x1048 x1050 = some r48_ → Q362 .normal (fr 266 f) w := by
           intro x1048 x1050 h1047 h1049 f w ej51_4 ej51_10 ej51_11 ej51_13 ej51_14 ej51_20 ej51_21 ej51_22 ej51_23 hst hM
           refine k362 _ _ (wR (Ym (iV x906) (eh ej51_23) (yY (yadd e0 rfl) (Ya (iV (wa .i64 x906 1)) e0 (wN ?_)))))
           obtain rfl := someI hM
           exact n48 _ _ _ rfl ⟨_, _, _, _, _, _, rfl, rfl, ej51_4, ej51_10, ej51_11, ej51_13, ej51_14, ej51_20, ej51_21, ej51_22, rfl, hst⟩
          refine blockQ fun _ qb377 => seqQ fun Q378 k378 z378 => sR fun _ k379 => Ym (iV x562) (eh e48_20) (Ym (iV x906) (eh e48_23) (yY (yeql e0 e0) (Ym (.bool (decide (x562 = x906))) e0 ?_)))
          obtain ⟨r1054, gr1054, hM48⟩ := bs hM48
          refine joinW 9 (fun f w => f 4 = (pB b10) ∧ f 10 = h46.v ∧ f 11 = (pB b49) ∧ f 13 = iV (x158.length : Int) ∧ f 14 = h159.v ∧ f 20 = iV x562 ∧ f 21 = h902.v ∧ f 22 = h904.v ∧ f 23 = iV x906 ∧ f 226 = .bool r1054 ∧ St w0 ros (box b10 28 [hnil.v, hnil.v, hnil.v] :: row 3 I1 h46.v x156 :: row 22 rH h556.v y557 :: fam 3 I1 y557 x558 :: row 3 I1 h157.v x158 :: row 22 rH h559.v y560 :: fam 3 I1 y560 x561 :: box b49 28 [h556.v, h157.v, h559.v] :: row 22 rH h159.v y180 :: fam 3 I1 y180 x306 :: row 3 I1 h902.v x903 :: row 3 I1 h904.v x905 :: rs) w) (fun j52 => ?_) ?_
          ·rcases iteS gr1054 with ⟨c1056, gr1054⟩ | ⟨c1056, gr1054⟩
           ·refine gN (dT c1056) (gN (dT c1056) (gN (dT c1056) (gN (dT c1056) (gN (dT c1056) (gN (dT c1056) (gN (dT c1056) (gN (dT c1056) (yY (pt_ (.bool true) e0 (dT c1056) rfl) ?_))))))))
            obtain rfl := someI gr1054
            exact j52 _ _ ⟨e48_4, e48_10, e48_11, e48_13, e48_14, e48_20, e48_21, e48_22, e48_23, rfl, hst⟩
           ·refine yG (dF c1056) (m_ h159.v (eh e48_14)) (yG (dF c1056) (m_ (iV x562) (eh e48_20)) ?_)
            obtain ⟨x1057, gx1057, gr1054⟩ := bs gr1054
            obtain ⟨h1058, gh1058⟩ := hst.famI R9 gx1057
            refine yG (dF c1056) (yIa SLH_24 e0 e0 hst rO8 gh1058) (yG (dF c1056) (yF1 O_22 e0 hst rO8 gh1058 rfl) (yG (dF c1056) (m_ (iV x906) (eh e48_23)) ?_))
            obtain ⟨x1059, gx1059, gr1054⟩ := bs gr1054
            refine yG (dF c1056) (yIa SL_22 e0 e0 hst (rdF R9 gh1058 gx1057) gx1059) (yG (dF c1056) (yI O_3 e0 hst (rdF R9 gh1058 gx1057) gx1059) (yG (dF c1056) (yeql e0 rfl) (yY (pf_ (.bool (decide (x1059 = 0))) e0 (dF c1056) e0) ?_)))
            obtain rfl := someI gr1054
            exact j52 _ _ ⟨e48_4, e48_10, e48_11, e48_13, e48_14, e48_20, e48_21, e48_22, e48_23, rfl, hst⟩
          rintro f w ⟨e1055_4, e1055_10, e1055_11, e1055_13, e1055_14, e1055_20, e1055_21, e1055_22, e1055_23, e1055_226, hst⟩
          refine wK k379 ?_
          rcases iteS hM48 with ⟨c1060, hM48⟩ | ⟨c1060, hM48⟩
          ·exact condT (eh e1055_226) c1060 (wp_exit (z378 _ _ _ rfl (qb377 _ _ _ (j51 _ _ _ _ _ _ e1055_4 e1055_10 e1055_11 e1055_13 e1055_14 e1055_20 e1055_21 e1055_22 e1055_23 hst hM48))))
          ·refine condF (eh e1055_226) (bfalse c1060) (wp_skip (k378 _ _ (seqQ fun Q380 k380 z380 => sR fun _ k381 => Ym h159.v (eh e1055_14) (Ym (iV x562) (eh e1055_20) ?_))))
           obtain ⟨x1061, gx1061, hM48⟩ := bs hM48
           obtain ⟨h1062, gh1062⟩ := hst.famI R9 gx1061
           refine yY (yIa SLH_24 e0 e0 hst rO8 gh1062) (yY (yF1 O_22 e0 hst rO8 gh1062 rfl) (Ym (iV x906) (eh e1055_23) ?_))
           obtain ⟨x1063, gx1063, hM48⟩ := bs hM48
           refine yY (yIa SL_22 e0 e0 hst (rdF R9 gh1062 gx1061) gx1063) (yY (yI O_3 e0 hst (rdF R9 gh1062 gx1061) gx1063) (yY (ygtr e0 rfl) (wK k381 ?_)))
           rcases iteS hM48 with ⟨c1064, hM48⟩ | ⟨c1064, hM48⟩
           ·refine cT e0 c1064 (sR fun _ k382 => yY (ybuild (us := [hnil.v, hnil.v, hnil.v]) [] SO_28 bp0 rfl) (YT wn rfl (r_stbn (vals' := [hnil.v, hnil.v, hnil.v]) (us := [hnil.v, hnil.v, hnil.v]) hst ST_28 (eh e1055_4) e0 rfl rfl (one_of rfl) rfl) ?_))
            intro w hst
            refine Ya hnil.v rfl (Ya (iV 3) rfl (wK k382 (wp_ret (z380 _ _ _ rfl (qb377 _ _ _ (z362 _ _ _ rfl ?_))))))
            obtain rfl := someI hM48
            exact zz48 _ _ _ _ rfl rfl (je48_1 _ _ e1055_4 rfl rfl (hst.pk 12 [0] rfl) (ho48 _ rfl))
           ·refine cF e0 c1064 (wp_skip (k380 _ _ (sR fun _ k383 => Ym h902.v (eh e1055_21) (Ym (iV x906) (eh e1055_23) (YH wn rfl (rLt (n := 1) (l := [x906]) hst SL_22 [iV x906] (bp1 e0) rfl rfl (mks1 (cs := [iV x906]) rfl mkI mks0)) ?_)))))
            intro h1065 w hst
            obtain ⟨x1067, gx1067, hM48⟩ := bs hM48
            replace hst := hst.pk 12 [11, 0, 0, 0, 0, 0, 0, 0, 0, 0, 0, 0] rfl
            refine YH wn rfl (rAp hst SL_22 e0 e0 rO1 gx1067) ?_
            intro h1066 w hst
            refine Ya h1066.v e0 (wK k383 (wR (Ym h904.v (eh e1055_22) (Ym h159.v (eh e1055_14) (Ym (iV x562) (eh e1055_20) ?_)))))
            obtain ⟨x1068, gx1068, hM48⟩ := bs hM48
            obtain ⟨h1069, gh1069⟩ := hst.famI R11 gx1068
            refine yY (yIa SLH_24 e0 e0 hst rO10 gh1069) (yY (yF1 O_22 e0 hst rO10 gh1069 rfl) (Ym (iV x906) (eh e1055_23) ?_))
            obtain ⟨x1070, gx1070, hM48⟩ := bs hM48
            refine yY (yIa SL_22 e0 e0 hst (rdF R11 gh1069 gx1068) gx1070) (yY (yI O_3 e0 hst (rdF R11 gh1069 gx1068) gx1070) (YH wn rfl (rLt (n := 1) (l := [x1070]) hst SL_22 [iV x1070] (bp1 e0) rfl rfl (mks1 (cs := [iV x1070]) rfl mkI mks0)) ?_))
            intro h1071 w hst
            obtain ⟨x1073, gx1073, hM48⟩ := bs hM48
            replace hst := hst.pk 14 [13, 0, 0, 0, 0, 0, 0, 0, 0, 0, 0, 0, 0, 0] rfl
            refine YH wn rfl (rAp hst SL_22 e0 e0 rO1 gx1073) ?_
            intro h1072 w hst
            exact Ya h1072.v e0 (wN (qb377 _ _ _ (j51 _ _ _ _ _ _ e1055_4 e1055_10 e1055_11 e1055_13 e1055_14 e1055_20 rfl rfl e1055_23 (hst.pk 14 [4, 4, 4, 4, 4, 4, 4, 4, 4, 4, 2, 0] rfl) hM48)))
         ·refine cF e0 c1000 (wp_exit (z360 _ _ _ rfl ?_))
          obtain rfl := someI hM48
          exact zz48 _ _ _ _ rfl rfl (je48_0 _ _ _ _ _ _ e48_4 e48_10 e48_11 e48_13 e48_14 e48_20 e48_21 e48_22 hst (ho48 _ rfl))
       ·refine cF e0 c825 (wp_exit (z300 _ _ _ rfl ?_))
        obtain rfl := someI hM39
        exact zz39 _ _ _ _ rfl rfl (je39_0 _ _ _ _ _ _ _ _ e39_4 e39_10 e39_11 (hst.pk 10 [0, 0, 0, 0, 0, 0, 0, 0] rfl) (ho39 _ rfl))
      refine loopQ (fun s a w => ∃ (x242 : L2) (x243 : Int) (f : FV), (x242, x243) = s ∧ a = fr 266 f ∧ f 2 = (pB b9) ∧ f 4 = (pB b10) ∧ f 8 = iV (x3.length : Int) ∧ f 10 = h46.v ∧ f 11 = (pB b49) ∧ f 13 = iV (x158.length : Int) ∧ f 14 = h159.v ∧ f 16 = iV x243 ∧ St w0 ros (box b9 28 [h2.v, h4.v, h6.v] :: box b10 28 [hnil.v, hnil.v, hnil.v] :: row 3 I1 h46.v x156 :: row 3 I1 h157.v x158 :: box b49 28 [hnil.v, h157.v, hnil.v] :: row 22 rH h159.v y180 :: fam 3 I1 y180 x242 :: rs) w) go12 ⟨_, _, _, rfl, rfl, eje9_0_2, eje9_0_4, eje9_0_8, eje9_0_10, eje9_0_11, eje9_0_13, eje9_0_14, rfl, hst⟩ ?_
      rintro _ _ w r12_ ⟨x242, x243, f, rfl, rfl, e12_2, e12_4, e12_8, e12_10, e12_11, e12_13, e12_14, e12_16, hst⟩ hM12 ho12 Q100012 n12 zz12
      refine seqQ fun Q384 k384 z384 => sR fun _ k385 => Ym (iV x243) (eh e12_16) (Ym (iV (x3.length : Int)) (eh e12_8) (yY (ylss e0 e0) (wK k385 ?_)))
      rcases iteS hM12 with ⟨c1074, hM12⟩ | ⟨c1074, hM12⟩
      ·refine cT e0 c1074 (wp_skip (k384 _ _ (sQ fun _ k386 => blockQ fun _ qb387 => sR fun _ k388 => Ya (iV 0) rfl (wK k388 (blockQ fun Q389 qb389 => ?_)))))
       obtain ⟨o53, go53, hM12⟩ := bs hM12
       have je53_0 : ∀ (x1115 : L2) (f : FV) (w : World), f 2 = (pB b9) → f 4 = (pB b10) → f 8 = iV (x3.length : Int) → f 10 = h46.v → f 11 = (pB b49) → f 13 = iV (x158.length : Int) → f 14 = h159.v → f 16 = iV x243 → St w0 ros (box b9 28 [h2.v, h4.v, h6.v] :: box b10 28 [hnil.v, hnil.v, hnil.v] :: row 3 I1 h46.v x156 :: row 3 I1 h157.v x158 :: box b49 28 [hnil.v, h157.v, hnil.v] :: row 22 rH h159.v y180 :: fam 3 I1 y180 x1115 :: rs) w → x1115 = o53 → Q389 (.exit 8) (fr 266 f) w := by
        intro x1115 f w eje53_0_2 eje53_0_4 eje53_0_8 eje53_0_10 eje53_0_11 eje53_0_13 eje53_0_14 eje53_0_16 hst ho
        subst ho
        refine qb389 _ _ _ (qb387 _ _ _ (k386 _ _ (wR (Ym (iV x243) (eh eje53_0_16) (yY (yadd e0 rfl) (Ya (iV (wa .i64 x243 1)) e0 (wN ?_)))))))
        obtain rfl := someI hM12
        exact n12 _ _ _ rfl ⟨_, _, _, rfl, rfl, eje53_0_2, eje53_0_4, eje53_0_8, eje53_0_10, eje53_0_11, eje53_0_13, eje53_0_14, rfl, hst⟩
       refine loopQ (fun s a w => ∃ (x1093 : L2) (x1094 : Int) (f : FV), (x1093, x1094) = s ∧ a = fr 266 f ∧ f 2 = (pB b9) ∧ f 4 = (pB b10) ∧ f 8 = iV (x3.length : Int) ∧ f 10 = h46.v ∧ f 11 = (pB b49) ∧ f 13 = iV (x158.length : Int) ∧ f 14 = h159.v ∧ f 16 = iV x243 ∧ f 17 = iV x1094 ∧ St w0 ros (box b9 28 [h2.v, h4.v, h6.v] :: box b10 28 [hnil.v, hnil.v, hnil.v] :: row 3 I1 h46.v x156 :: row 3 I1 h157.v x158 :: box b49 28 [hnil.v, h157.v, hnil.v] :: row 22 rH h159.v y180 :: fam 3 I1 y180 x1093 :: rs) w) go53 ⟨_, _, _, rfl, rfl, e12_2, e12_4, e12_8, e12_10, e12_11, e12_13, e12_14, e12_16, rfl, hst⟩ ?_
       rintro _ _ w r53_ ⟨x1093, x1094, f, rfl, rfl, e53_2, e53_4, e53_8, e53_10, e53_11, e53_13, e53_14, e53_16, e53_17, hst⟩ hM53 ho53 Q100053 n53 zz53
       refine seqQ fun Q400 k400 z400 => sR fun _ k401 => Ym (iV x1094) (eh e53_17) (yY (yFb FL_28_2 (eh e53_2)) (yY (lb_ h6.v O_24 e0 hst R0) (Ym (iV x243) (eh e53_16) ?_)))
       obtain ⟨x1116, gx1116, hM53⟩ := bs hM53
       refine yY (yIa SL_24 e0 e0 hst (rdI q3) gx1116) ?_
       obtain ⟨h1117, hst⟩ := iLs hst q3 gx1116
       refine yY (yCt O_22 e0 hst F1 rfl) (yY (yLen SL_22 e0 hst (rdI F0)) (yY (ylss e0 e0) (wK k401 ?_)))
       rcases iteS hM53 with ⟨c1118, hM53⟩ | ⟨c1118, hM53⟩
       ·refine cT e0 c1118 (wp_skip (k400 _ _ (sQ fun _ k402 => blockQ fun _ qb403 => sQ fun _ k404 => ?_)))
        obtain ⟨x1119, gx1119, hM53⟩ := bs hM53
        obtain ⟨x1120, gx1120, hM53⟩ := bs hM53
        obtain ⟨x1122, gx1122, hM53⟩ := bs hM53
        obtain ⟨x1123, gx1123, hM53⟩ := bs hM53
        refine dR [0, 0, 3, 7, 0, 0, 32, 96, 0, 480, 992, 0, 4064, 8160, 16368, 32752, 15, 131071] [16, 17] 2 folM ?_
        replace hst := hst.drew
        refine Dn [0, 1, 2, 3, 4, 5, 6, 7, 8, 9, 10, 11, 12, 13, 14, 15] [] [16] (yR rfl (m_ h46.v (eh e53_10)) (yR rfl (m_ (iV x243) (eh e53_16)) (yR rfl (yIa SL_22 e0 e0 hst rO2 gx1119) (yR rfl (yI O_3 e0 hst rO2 gx1119) (yR rfl (m_ h46.v (eh e53_10)) (yR rfl (yFb FL_28_0 (eh e53_2)) (yR rfl (yFb FL_26_0 e0) (yR rfl (lb_ h2.v O_24 e0 hst R0) (yR rfl (m_ (iV x243) (eh e53_16)) (yR rfl (yIa SL_24 e0 e0 hst (rdI (F_2 q1)) gx1120) ?_))))))))))
        obtain ⟨h1121, hst⟩ := iLs hst (F_2 q1) gx1120
        refine yR rfl (yCt O_22 e0 hst F1 rfl) (yR rfl (m_ (iV x1094) (eh e53_17)) (yR rfl (yIa SL_22 e0 e0 hst (rdI F0) gx1122) (yR rfl (yI O_3 e0 hst (rdI F0) gx1122) (yR rfl (yIa SL_22 e0 e0 hst rO2 gx1123) (yR rfl (yI O_3 e0 hst rO2 gx1123) (Rn QSn ?_))))))
        refine Lc1 rfl ?_
        refine Ly wn (a_ (iV x1119) e0) (Dn [] [4, 5, 6, 7, 8, 9, 10, 11, 12, 13, 14, 15] [17] (Rn (yS rfl (m_ h46.v (eh e53_10)) (yS rfl (yFb FL_28_0 (eh e53_2)) (yS rfl (yFb FL_26_0 e0) (yS rfl (lb_ h2.v O_24 e0 hst R0) (yS rfl (m_ (iV x243) (eh e53_16)) (yS rfl (yIa SL_24 e0 e0 hst (rdI (F_4 q1)) gx1120) (yS rfl (yCt O_22 e0 hst F1 rfl) (yS rfl (m_ (iV x1094) (eh e53_17)) (yS rfl (yIa SL_22 e0 e0 hst (rdI F0) gx1122) (yS rfl (yI O_3 e0 hst (rdI F0) gx1122) (yS rfl (yIa SL_22 e0 e0 hst rO2 gx1123) (yS rfl (yI O_3 e0 hst rO2 gx1123) QSn)))))))))))) ?_))
        refine Lc1 rfl ?_
        refine Ly wn (a_ (iV x1123) e0) (Dz [] [] (Rn QSn (k404 _ _ ?_)))
        obtain ⟨x1124, gx1124, hM53⟩ := bs hM53
        obtain ⟨x1126, gx1126, hM53⟩ := bs hM53
        obtain ⟨x1128, gx1128, hM53⟩ := bs hM53
        obtain ⟨x1129, gx1129, hM53⟩ := bs hM53
        obtain ⟨x1131, gx1131, hM53⟩ := bs hM53
        obtain ⟨x1132, gx1132, hM53⟩ := bs hM53
        obtain ⟨x1133, gx1133, hM53⟩ := bs hM53
        refine dR [0, 0, 3, 7, 0, 0, 0, 96, 224, 0, 992, 2016, 0, 4096, 0, 28672, 61440, 0, 258048, 520192, 1048544, 2097151, 4194303] [22] 1 folM ?_
        replace hst := hst.drew
        refine Dn [0, 1, 2, 3, 4, 5, 6, 7, 8, 9, 10, 11, 12, 13, 14, 15, 16, 17, 18, 19, 20, 21] [] [22] (yR rfl (m_ h159.v (eh e53_14)) (yR rfl (m_ (iV x1119) e0) ?_))
        obtain ⟨h1125, gh1125⟩ := hst.famI R6 gx1124
        refine yR rfl (yIa SLH_24 e0 e0 hst rO5 gh1125) (yR rfl (yF1 O_22 e0 hst rO5 gh1125 rfl) (yR rfl (m_ (iV x1123) e0) (yR rfl (m_ h159.v (eh e53_14)) (yR rfl (m_ (iV x1119) e0) ?_))))
        obtain ⟨h1127, gh1127⟩ := hst.famI R6 gx1126
        refine yR rfl (yIa SLH_24 e0 e0 hst rO5 gh1127) (yR rfl (yF1 O_22 e0 hst rO5 gh1127 rfl) (yR rfl (m_ (iV x1123) e0) (yR rfl (yIa SL_22 e0 e0 hst (rdF R6 gh1127 gx1126) gx1128) (yR rfl (yI O_3 e0 hst (rdF R6 gh1127 gx1126) gx1128) (yR rfl (yFb FL_28_2 (eh e53_2)) (yR rfl (lb_ h6.v O_24 e0 hst R0) (yR rfl (m_ (iV x243) (eh e53_16)) (yR rfl (yIa SL_24 e0 e0 hst (rdI (F_4 q3)) gx1129) ?_))))))))
        obtain ⟨h1130, hst⟩ := iLs hst (F_4 q3) gx1129
        refine yR rfl (yCt O_22 e0 hst F1 rfl) (yR rfl (m_ (iV x1094) (eh e53_17)) (yR rfl (yIa SL_22 e0 e0 hst (rdI F0) gx1131) (yR rfl (yI O_3 e0 hst (rdI F0) gx1131) (yR rfl (yadd e0 e0) (yR rfl (yIs SL_22 e0 e0 hst (rdF R6 gh1125 gx1124) gx1132) (Rn QSn ?_))))))
        refine Lc1 rfl ?_
        replace hst := hst.pk 7 [6, 0, 0, 0, 0, 0, 0] rfl
        refine LT wn (r_sti (cs := [iV (wa .i64 x1128 x1131)]) (hst.foc gh1125 gx1124) O_3 rfl e0 e0 rfl mkI gx1132) ?_
        intro w hst
        replace hst := hst.unfoc' gh1125 gx1133
        refine Dz [] [] (Rn QSn (qb403 _ _ _ (k402 _ _ (wR (Ym (iV x1094) (eh e53_17) (yY (yadd e0 rfl) (Ya (iV (wa .i64 x1094 1)) e0 (wN ?_))))))))
        obtain rfl := someI hM53
        exact n53 _ _ _ rfl ⟨_, _, _, rfl, rfl, e53_2, e53_4, e53_8, e53_10, e53_11, e53_13, e53_14, e53_16, rfl, ((hst.pk 7 [1, 1, 1, 1, 1, 1, 0] rfl).facts (allT (allT (allT (allT (allT (allT allI)))))))⟩
       ·refine cF e0 c1118 (wp_exit (z400 _ _ _ rfl ?_))
        obtain rfl := someI hM53
        exact zz53 _ _ _ _ rfl rfl (je53_0 _ _ _ e53_2 e53_4 e53_8 e53_10 e53_11 e53_13 e53_14 e53_16 (hst.facts (allT (allT allI))) (ho53 _ rfl))
      ·refine cF e0 c1074 (wp_exit (z384 _ _ _ rfl ?_))
       obtain rfl := someI hM12
       exact zz12 _ _ _ _ rfl rfl (je12_0 _ _ _ e12_4 e12_10 e12_11 e12_13 e12_14 (hst.pk 7 [1, 1, 1, 1, 1, 1] rfl) (ho12 _ rfl))
     refine loopQ (fun s a w => ∃ (x169 : L2) (x170 : Int) (f : FV) (y168 : List Hdr), (x169, x170) = s ∧ a = fr 266 f ∧ f 2 = (pB b9) ∧ f 4 = (pB b10) ∧ f 8 = iV (x3.length : Int) ∧ f 10 = h46.v ∧ f 11 = (pB b49) ∧ f 13 = iV (x158.length : Int) ∧ f 14 = h159.v ∧ f 15 = iV x170 ∧ St w0 ros (box b9 28 [h2.v, h4.v, h6.v] :: box b10 28 [hnil.v, hnil.v, hnil.v] :: row 3 I1 h46.v x156 :: row 3 I1 h157.v x158 :: box b49 28 [hnil.v, h157.v, hnil.v] :: row 22 rH h159.v y168 :: fam 3 I1 y168 x169 :: rs) w) go9 ⟨_, _, _, _, rfl, rfl, eje8_0_2, eje8_0_4, eje8_0_8, eje8_0_10, eje8_0_11, rfl, rfl, rfl, (hst.pk 7 [2, 2, 2, 2, 2, 0, 0] rfl)⟩ ?_
     rintro _ _ w r9_ ⟨x169, x170, f, y168, rfl, rfl, e9_2, e9_4, e9_8, e9_10, e9_11, e9_13, e9_14, e9_15, hst⟩ hM9 ho9 Q100009 n9 zz9
     refine seqQ fun Q405 k405 z405 => sR fun _ k406 => Ym (iV x170) (eh e9_15) (Ym (iV (x158.length : Int)) (eh e9_13) (yY (ylss e0 e0) (wK k406 ?_)))
     rcases iteS hM9 with ⟨c1134, hM9⟩ | ⟨c1134, hM9⟩
     ·refine cT e0 c1134 (wp_skip (k405 _ _ (sQ fun _ k407 => blockQ fun _ qb408 => wR (Ym h159.v (eh e9_14) (Ym (iV x170) (eh e9_15) (Ym (iV (x158.length : Int)) (eh e9_13) ?_))))))
      obtain ⟨x1137, gx1137, hM9⟩ := bs hM9
      refine YH wn rfl (rMk hst SL_22 e0 gx1137) ?_
      intro h1135 w hst
      obtain ⟨x1138, gx1138, hM9⟩ := bs hM9
      obtain ⟨y1139, gy1139⟩ := setI_len (u := h1135) gx1138 (hst.famL (mtR (mtR (mtR (mtR (mtR (mtR (mtR mhR))))))))
      refine yY (yIs SLH_24 e0 e0 hst rO6 gy1139) ?_
      replace hst := hst.pk 7 [6, 0, 0, 0, 0, 0, 0] rfl
      refine YT wn rfl (r_sti (cs := [h1135.v]) hst O_22 rfl e0 e0 rfl (mkF rfl) gy1139) ?_
      intro w hst
      replace hst := hst.pk 8 [1, 6, 0, 0, 0, 0, 0, 0] rfl
      replace hst := hst.fput gy1139 gx1138
      refine wN (qb408 _ _ _ (k407 _ _ (wR (Ym (iV x170) (eh e9_15) (yY (yadd e0 rfl) (Ya (iV (wa .i64 x170 1)) e0 (wN ?_)))))))
      obtain rfl := someI hM9
      exact n9 _ _ _ rfl ⟨_, _, _, _, rfl, rfl, e9_2, e9_4, e9_8, e9_10, e9_11, e9_13, e9_14, rfl, (hst.pk 7 [2, 2, 2, 2, 2, 1, 0] rfl)⟩
     ·refine cF e0 c1134 (wp_exit (z405 _ _ _ rfl ?_))
      obtain rfl := someI hM9
      exact zz9 _ _ _ _ rfl rfl (je9_0 _ _ _ _ e9_2 e9_4 e9_8 e9_10 e9_11 e9_13 e9_14 hst (ho9 _ rfl))
    replace hst := hst.rowNh 3 I1
    refine loopQ (fun s a w => ∃ (x99 x101 : LI) (x102 : Int) (f : FV) (h100 : Hdr), (x99, x101, x102) = s ∧ a = fr 266 f ∧ f 1 = h8.v ∧ f 2 = (pB b9) ∧ f 4 = (pB b10) ∧ f 8 = iV (x3.length : Int) ∧ f 10 = h46.v ∧ f 11 = (pB b49) ∧ f 12 = iV x102 ∧ St w0 ros (box b9 28 [h2.v, h4.v, h6.v] :: box b10 28 [hnil.v, hnil.v, hnil.v] :: row 3 I1 h46.v x99 :: row 3 I1 h100.v x101 :: box b49 28 [hnil.v, h100.v, hnil.v] :: rs) w) go8 ⟨_, _, _, _, _, rfl, rfl, eje5_0_1, eje5_0_2, eje5_0_4, eje5_0_8, rfl, rfl, rfl, (hst.pk 5 [3, 3, 2, 0, 0] rfl)⟩ ?_
    rintro _ _ w r8_ ⟨x99, x101, x102, f, h100, rfl, rfl, e8_1, e8_2, e8_4, e8_8, e8_10, e8_11, e8_12, hst⟩ hM8 ho8 Q100008 n8 zz8
    refine seqQ fun Q409 k409 z409 => sR fun _ k410 => Ym (iV x102) (eh e8_12) (Ym (iV (x3.length : Int)) (eh e8_8) (yY (ylss e0 e0) (wK k410 ?_)))
    rcases iteS hM8 with ⟨c1140, hM8⟩ | ⟨c1140, hM8⟩
    ·refine cT e0 c1140 (wp_skip (k409 _ _ (sQ fun Q411 k411 => ?_)))
     have j54 : ∀ (x1171 x1173 : LI) (h1172 : Hdr) (f : FV) (w : World), f 1 = h8.v → f 2 = (pB b9) → f 4 = (pB b10) → f 8 = iV (x3.length : Int) → f 10 = h46.v → f 11 = (pB b49) → f 12 = iV x102 → St w0 ros (box b9 28 [h2.v, h4.v, h6.v] :: box b10 28 [hnil.v, hnil.v, hnil.v] :: row 3 I1 h46.v x1171 :: row 3 I1 h1172.v x1173 :: box b49 28 [hnil.v, h1172.v, hnil.v] :: rs) w → sparseref18_Coarsen_j54 x102 x1171 x1173 = some r8_ → Q411 .normal (fr 266 f) w := by
      intro x1171 x1173 h1172 f w ej54_1 ej54_2 ej54_4 ej54_8 ej54_10 ej54_11 ej54_12 hst hM
      refine k411 _ _ (wR (Ym (iV x102) (eh ej54_12) (yY (yadd e0 rfl) (Ya (iV (wa .i64 x102 1)) e0 (wN ?_)))))
      obtain rfl := someI hM
      exact n8 _ _ _ rfl ⟨_, _, _, _, _, rfl, rfl, ej54_1, ej54_2, ej54_4, ej54_8, ej54_10, ej54_11, rfl, hst⟩
     refine blockQ fun _ qb424 => seqQ fun Q425 k425 z425 => sR fun _ k426 => Ym h8.v (eh e8_1) (Ym (iV x102) (eh e8_12) ?_)
     obtain ⟨x1174, gx1174, hM8⟩ := bs hM8
     refine yY (yIa SL_22 e0 e0 hst (rdI q4) gx1174) (yY (yI O_3 e0 hst (rdI q4) gx1174) (Ym (iV x102) (eh e8_12) (yY (ylss e0 e0) (wK k426 ?_))))
     rcases iteS hM8 with ⟨c1175, hM8⟩ | ⟨c1175, hM8⟩
     ·refine cT e0 c1175 (sR fun _ k427 => Ym h46.v (eh e8_10) (Ym (iV x102) (eh e8_12) (Ym h46.v (eh e8_10) (Ym h8.v (eh e8_1) (Ym (iV x102) (eh e8_12) ?_)))))
      obtain ⟨x1176, gx1176, hM8⟩ := bs hM8
      refine yY (yIa SL_22 e0 e0 hst (rdI q4) gx1176) (yY (yI O_3 e0 hst (rdI q4) gx1176) ?_)
      obtain ⟨x1177, gx1177, hM8⟩ := bs hM8
      refine yY (yIa SL_22 e0 e0 hst rO2 gx1177) (yY (yI O_3 e0 hst rO2 gx1177) ?_)
      obtain ⟨x1178, gx1178, hM8⟩ := bs hM8
      refine yY (yIs SL_22 e0 e0 hst rO2 gx1178) ?_
      replace hst := hst.pk 3 [2, 0, 0] rfl
      refine YT wn rfl (r_sti (cs := [iV x1177]) hst O_3 rfl e0 e0 rfl mkI gx1178) ?_
      intro w hst
      refine wK k427 (sQ fun _ k428 => ?_)
      obtain ⟨x1179, gx1179, hM8⟩ := bs hM8
      obtain ⟨x1180, gx1180, hM8⟩ := bs hM8
      obtain ⟨x1181, gx1181, hM8⟩ := bs hM8
      obtain ⟨x1182, gx1182, hM8⟩ := bs hM8
      obtain ⟨x1183, gx1183, hM8⟩ := bs hM8
      refine dR [0, 1, 0, 0, 12, 28, 0, 64, 0, 0, 768, 1792, 4032, 8128, 0, 16384, 0, 114688, 245760, 524224, 1048575, 2097151] [21] 1 folM ?_
      replace hst := hst.drew
      refine Dn [0, 1, 2, 3, 4, 5, 6, 7, 8, 9, 10, 11, 12, 13, 14, 15, 16, 17, 18, 19, 20] [] [21] (yR rfl (yFb FL_28_1 (eh e8_11)) (yR rfl (lb_ h100.v O_22 e0 hst R4) (yR rfl (m_ h46.v (eh e8_10)) (yR rfl (m_ (iV x102) (eh e8_12)) (yR rfl (yIa SL_22 e0 e0 hst rO0 gx1179) (yR rfl (yI O_3 e0 hst rO0 gx1179) (yR rfl (yFb FL_28_1 (eh e8_11)) (yR rfl (lb_ h100.v O_22 e0 hst R4) (yR rfl (m_ h46.v (eh e8_10)) (yR rfl (m_ (iV x102) (eh e8_12)) (yR rfl (yIa SL_22 e0 e0 hst rO0 gx1180) (yR rfl (yI O_3 e0 hst rO0 gx1180) (yR rfl (yIa SL_22 e0 e0 hst rO3 gx1181) ?_)))))))))))))
      refine yR rfl (yI O_3 e0 hst rO3 gx1181) (yR rfl (yFb FL_28_1 (eh e8_2)) (yR rfl (lb_ h4.v O_22 e0 hst R1) (yR rfl (m_ (iV x102) (eh e8_12)) (yR rfl (yIa SL_22 e0 e0 hst (rdI q2) gx1182) (yR rfl (yI O_3 e0 hst (rdI q2) gx1182) (yR rfl (yadd e0 e0) (yR rfl (yIs SL_22 e0 e0 hst rO3 gx1183) (Rn QSn ?_))))))))
      refine Lc1 rfl ?_
      replace hst := hst.pk 4 [3, 0, 0, 0] rfl
      refine LT wn (r_sti (cs := [iV (wa .i64 x1181 x1182)]) hst O_3 rfl e0 e0 rfl mkI gx1183) ?_
      intro w hst
      exact Dz [] [] (Rn QSn (k428 _ _ (wp_exit (z425 _ _ _ rfl (qb424 _ _ _ (j54 _ _ _ _ _ e8_1 e8_2 e8_4 e8_8 e8_10 e8_11 e8_12 (hst.pk 5 [2, 2, 1, 0, 0] rfl) hM8))))))
     ·refine cF e0 c1175 (wp_skip (k425 _ _ (sR fun _ k429 => Ym h46.v (eh e8_10) (Ym (iV x102) (eh e8_12) (yY (yFb FL_28_1 (eh e8_11)) (yY (lb_ h100.v O_22 e0 hst R4) (yY (yLen SL_22 e0 hst rO3) ?_)))))))
      obtain ⟨x1184, gx1184, hM8⟩ := bs hM8
      refine yY (yIs SL_22 e0 e0 hst rO2 gx1184) ?_
      replace hst := hst.pk 3 [2, 0, 0] rfl
      refine YT wn rfl (r_sti (cs := [iV (x101.length : Int)]) hst O_3 rfl e0 e0 rfl mkI gx1184) ?_
      intro w hst
      refine wK k429 ?_
      obtain ⟨x1185, gx1185, hM8⟩ := bs hM8
      obtain ⟨x1188, gx1188, hM8⟩ := bs hM8
      refine dR [0, 1, 0, 4, 0, 28, 60, 124, 255, 511, 1023] [7, 8, 10] 3 folM ?_
      replace hst := hst.drew
      refine Dn [0, 1, 2, 3, 4, 5, 6] [] [7] (yR rfl (yFb FL_28_1 (eh e8_11)) (yR rfl (lb_ h100.v O_22 e0 hst R4) (yR rfl (yFb FL_28_1 (eh e8_2)) (yR rfl (lb_ h4.v O_22 e0 hst R1) (yR rfl (m_ (iV x102) (eh e8_12)) (yR rfl (yIa SL_22 e0 e0 hst (rdI q2) gx1185) (yR rfl (yI O_3 e0 hst (rdI q2) gx1185) (Rn QSn ?_))))))))
      refine Lc1 rfl ?_
      refine LH wn (rLt (n := 1) (l := [x1185]) hst SL_22 [iV x1185] (bp1 e0) rfl rfl (mks1 (cs := [iV x1185]) rfl mkI mks0)) ?_
      intro h1186 w hst
      refine Dn [] [0, 1] [8] (Rn (yS rfl (yFb FL_28_1 (eh e8_11)) (yS rfl (lb_ h100.v O_22 e0 hst R5) QSn)) ?_)
      refine Lc1 rfl ?_
      replace hst := hst.pk 5 [4, 0, 0, 0, 0] rfl
      refine LH wn (rAp hst SL_22 e0 e0 rO1 gx1188) ?_
      intro h1187 w hst
      refine Dn [9] [] [10] (yR rfl (yFb FL_28_1 (eh e8_11)) (Rn QSn ?_))
      refine Lc1 rfl ?_
      replace hst := hst.pk 6 [5, 0, 0, 0, 0, 0] rfl
      refine LT wn (r_stb1 (vals' := [hnil.v, h1187.v, hnil.v]) hst O_22 e0 e0 rfl rfl rfl rfl) ?_
      intro w hst
      exact Dz [] [] (Rn QSn (qb424 _ _ _ (j54 _ _ _ _ _ e8_1 e8_2 e8_4 e8_8 e8_10 e8_11 e8_12 (hst.pk 6 [4, 4, 3, 1, 0] rfl) hM8)))
    ·refine cF e0 c1140 (wp_exit (z409 _ _ _ rfl ?_))
     obtain rfl := someI hM8
     exact zz8 _ _ _ _ rfl rfl (je8_0 _ _ _ _ _ e8_2 e8_4 e8_8 e8_10 e8_11 hst (ho8 _ rfl))
   have je5_1 : ∀ (f : FV) (w : World), f 4 = (pB b10) → f 5 = hnil.v → f 6 = iV 130 → St w0 ros (box b10 28 [hnil.v, hnil.v, hnil.v] :: rs) w → .inr () = o5 → Q10 .ret (fr 266 f) w := by
    intro f w eje5_1_4 eje5_1_5 eje5_1_6 hst ho
    subst ho
    refine qb10 _ _ _ (z8 _ _ _ rfl ?_)
    obtain rfl := someI hM
    replace hst := ((hst.rowNh 22 rH).fNew 3 I1).pk 2 [1, 0] rfl
    replace hst := hst.rowNh 3 I1
    replace hst := ((hst.rowNh 22 rH).fNew 3 I1).pk 2 [1, 0] rfl
    replace hst := hst.rowNh 3 I1
    exact hQ _ _ _ (fin3r Tryz.results15 (rcs2 rfl eje5_1_4 hst R6 ST_28 rfl) ⟨rfl, eje5_1_5⟩ ⟨rfl, eje5_1_6⟩ ⟨_, _, _, _, _, _, rfl, (hst.pk 7 [4, 4, 3, 1, 1, 0] rfl)⟩)
   refine loopQ (fun s a w => ∃ (x29 : Int) (f : FV), x29 = s ∧ a = fr 266 f ∧ f 1 = h8.v ∧ f 2 = (pB b9) ∧ f 4 = (pB b10) ∧ f 8 = iV (x3.length : Int) ∧ f 9 = iV x29 ∧ St w0 ros (box b9 28 [h2.v, h4.v, h6.v] :: box b10 28 [hnil.v, hnil.v, hnil.v] :: rs) w) go5 ⟨_, _, rfl, rfl, rfl, rfl, rfl, rfl, rfl, (hst.pk 2 [1, 0] rfl)⟩ ?_
   rintro _ _ w r5_ ⟨x29, f, rfl, rfl, e5_1, e5_2, e5_4, e5_8, e5_9, hst⟩ hM5 ho5 Q100005 n5 zz5
   refine seqQ fun Q430 k430 z430 => sR fun _ k431 => Ym (iV x29) (eh e5_9) (Ym (iV (x3.length : Int)) (eh e5_8) (yY (ylss e0 e0) (wK k431 ?_)))
   rcases iteS hM5 with ⟨c1189, hM5⟩ | ⟨c1189, hM5⟩
   ·refine cT e0 c1189 (wp_skip (k430 _ _ (seqQ fun Q432 k432 z432 => blockQ fun _ qb433 => sR fun _ k434 => Ym h8.v (eh e5_1) (Ym (iV x29) (eh e5_9) ?_))))
    obtain ⟨x1190, gx1190, hM5⟩ := bs hM5
    refine yY (yIa SL_22 e0 e0 hst (rdI q4) gx1190) (yY (yI O_3 e0 hst (rdI q4) gx1190) (yY (ylss e0 rfl) (Ym (.bool (decide (x1190 < 0))) e0 ?_)))
    obtain ⟨r1192, gr1192, hM5⟩ := bs hM5
    refine joinW 7 (fun f w => f 1 = h8.v ∧ f 2 = (pB b9) ∧ f 4 = (pB b10) ∧ f 8 = iV (x3.length : Int) ∧ f 9 = iV x29 ∧ f 55 = .bool r1192 ∧ St w0 ros (box b9 28 [h2.v, h4.v, h6.v] :: box b10 28 [hnil.v, hnil.v, hnil.v] :: rs) w) (fun j55 => ?_) ?_
    ·rcases iteS gr1192 with ⟨c1194, gr1192⟩ | ⟨c1194, gr1192⟩
     ·refine gN (dT c1194) (gN (dT c1194) (gN (dT c1194) (gN (dT c1194) (gN (dT c1194) (gN (dT c1194) (yY (pt_ (.bool true) e0 (dT c1194) rfl) ?_))))))
      obtain rfl := someI gr1192
      exact j55 _ _ ⟨e5_1, e5_2, e5_4, e5_8, e5_9, rfl, hst⟩
     ·refine yG (dF c1194) (m_ h8.v (eh e5_1)) (yG (dF c1194) (m_ (iV x29) (eh e5_9)) ?_)
      obtain ⟨x1195, gx1195, gr1192⟩ := bs gr1192
      refine yG (dF c1194) (yIa SL_22 e0 e0 hst (rdI q4) gx1195) (yG (dF c1194) (yI O_3 e0 hst (rdI q4) gx1195) (yG (dF c1194) (m_ (iV (x3.length : Int)) (eh e5_8)) (yG (dF c1194) (ygeq e0 e0) (yY (pf_ (.bool (decide ((x3.length : Int) ≤ x1195))) e0 (dF c1194) e0) ?_))))
      obtain rfl := someI gr1192
      exact j55 _ _ ⟨e5_1, e5_2, e5_4, e5_8, e5_9, rfl, hst⟩
    rintro f w ⟨e1193_1, e1193_2, e1193_4, e1193_8, e1193_9, e1193_55, hst⟩
    refine Ym (.bool r1192) (eh e1193_55) ?_
    obtain ⟨r1198, gr1198, hM5⟩ := bs hM5
    refine joinW 10 (fun f w => f 1 = h8.v ∧ f 2 = (pB b9) ∧ f 4 = (pB b10) ∧ f 8 = iV (x3.length : Int) ∧ f 9 = iV x29 ∧ f 66 = .bool r1198 ∧ St w0 ros (box b9 28 [h2.v, h4.v, h6.v] :: box b10 28 [hnil.v, hnil.v, hnil.v] :: rs) w) (fun j56 => ?_) ?_
    ·rcases iteS gr1198 with ⟨c1200, gr1198⟩ | ⟨c1200, gr1198⟩
     ·refine gN c1200 (gN c1200 (gN c1200 (gN c1200 (gN c1200 (gN c1200 (gN c1200 (gN c1200 (gN c1200 (yY (pt_ (.bool true) e0 c1200 rfl) ?_)))))))))
      obtain rfl := someI gr1198
      exact j56 _ _ ⟨e1193_1, e1193_2, e1193_4, e1193_8, e1193_9, rfl, hst⟩
     ·refine yG (bfalse c1200) (m_ h8.v (eh e1193_1)) (yG (bfalse c1200) (m_ h8.v (eh e1193_1)) (yG (bfalse c1200) (m_ (iV x29) (eh e1193_9)) ?_))
      obtain ⟨x1201, gx1201, gr1198⟩ := bs gr1198
      refine yG (bfalse c1200) (yIa SL_22 e0 e0 hst (rdI q4) gx1201) (yG (bfalse c1200) (yI O_3 e0 hst (rdI q4) gx1201) ?_)
      obtain ⟨x1202, gx1202, gr1198⟩ := bs gr1198
      refine yG (bfalse c1200) (yIa SL_22 e0 e0 hst (rdI q4) gx1202) (yG (bfalse c1200) (yI O_3 e0 hst (rdI q4) gx1202) (yG (bfalse c1200) (m_ (iV x29) (eh e1193_9)) (yG (bfalse c1200) (yneq e0 e0) (yY (pf_ (.bool (!(decide (x1202 = x29)))) e0 (bfalse c1200) e0) ?_))))
      obtain rfl := someI gr1198
      exact j56 _ _ ⟨e1193_1, e1193_2, e1193_4, e1193_8, e1193_9, rfl, hst⟩
    rintro f w ⟨e1199_1, e1199_2, e1199_4, e1199_8, e1199_9, e1199_66, hst⟩
    refine wK k434 ?_
    rcases iteS hM5 with ⟨c1203, hM5⟩ | ⟨c1203, hM5⟩
    ·refine condT (eh e1199_66) c1203 (sR fun _ k435 => yY (ybuild (us := [hnil.v, hnil.v, hnil.v]) [] SO_28 bp0 rfl) ?_)
     replace hst := hst.pk 2 [1, 0] rfl
     refine YT wn rfl (r_stbn (vals' := [hnil.v, hnil.v, hnil.v]) (us := [hnil.v, hnil.v, hnil.v]) hst ST_28 (eh e1199_4) e0 rfl rfl (one_of rfl) rfl) ?_
     intro w hst
     refine Ya hnil.v rfl (Ya (iV 130) rfl (wK k435 (wp_ret (qb433 _ _ _ (z432 _ _ _ rfl ?_)))))
     obtain rfl := someI hM5
     exact zz5 _ _ _ _ rfl rfl (je5_1 _ _ e1199_4 rfl rfl (hst.pk 2 [0] rfl) (ho5 _ rfl))
    ·refine condF (eh e1199_66) (bfalse c1203) (wp_skip (qb433 _ _ _ (k432 _ _ (wR (Ym (iV x29) (eh e1199_9) (yY (yadd e0 rfl) (Ya (iV (wa .i64 x29 1)) e0 (wN ?_))))))))
     obtain rfl := someI hM5
     exact n5 _ _ _ rfl ⟨_, _, rfl, rfl, e1199_1, e1199_2, e1199_4, e1199_8, rfl, hst⟩
   ·refine cF e0 c1189 (wp_exit (z430 _ _ _ rfl ?_))
    obtain rfl := someI hM5
    exact zz5 _ _ _ _ rfl rfl (je5_0 _ _ e5_1 e5_2 e5_4 e5_8 hst (ho5 _ rfl))
  ·refine condT e0 (nT (dF c13)) (sR fun _ k436 => yY (ybuild (us := [hnil.v, hnil.v, hnil.v]) [] SO_28 bp0 rfl) (YT wn rfl (r_stbn (vals' := [hnil.v, hnil.v, hnil.v]) (us := [hnil.v, hnil.v, hnil.v]) hst ST_28 e0 e0 rfl rfl (one_of rfl) rfl) ?_))
   intro w hst
   refine Ya hnil.v rfl (Ya (iV 2) rfl (wK k436 (wp_ret (z6 _ _ _ rfl ?_))))
   obtain rfl := someI hM
   replace hst := ((hst.rowNh 22 rH).fNew 3 I1).pk 2 [1, 0] rfl
   replace hst := hst.rowNh 3 I1
   replace hst := ((hst.rowNh 22 rH).fNew 3 I1).pk 2 [1, 0] rfl
   replace hst := hst.rowNh 3 I1
   exact hQ _ _ _ (fin3r Tryz.results15 (rcs2 rfl rfl hst R6 ST_28 rfl) ⟨rfl, rfl⟩ ⟨rfl, rfl⟩ ⟨_, _, _, _, _, _, rfl, (hst.pk 8 [4, 4, 3, 1, 1, 0] rfl)⟩)
 ·refine condT e0 (nT (dF c12)) (sR fun _ k437 => yY (ybuild (us := [hnil.v, hnil.v, hnil.v]) [] SO_28 bp0 rfl) (Ym (iV r11) e0 (YT wn rfl (r_stbn (vals' := [hnil.v, hnil.v, hnil.v]) (us := [hnil.v, hnil.v, hnil.v]) hst ST_28 e0 e0 rfl rfl (one_of rfl) rfl) ?_)))
  intro w hst
  refine Ya hnil.v rfl (Ya (iV r11) e0 (wK k437 (wp_ret (z2 _ _ _ rfl ?_))))
  obtain rfl := someI hM
  replace hst := ((hst.rowNh 22 rH).fNew 3 I1).pk 2 [1, 0] rfl
  replace hst := hst.rowNh 3 I1
  replace hst := ((hst.rowNh 22 rH).fNew 3 I1).pk 2 [1, 0] rfl
  replace hst := hst.rowNh 3 I1
  exact hQ _ _ _ (fin3r Tryz.results15 (rcs2 rfl rfl hst R6 ST_28 rfl) ⟨rfl, rfl⟩ ⟨rfl, rfl⟩ ⟨_, _, _, _, _, _, rfl, (hst.pk 8 [4, 4, 3, 1, 1, 0] rfl)⟩)
theorem dissect_Bisect_ok {x1 : L2} {x3 : LI} {x5 : L2} {h2 h4 h6 : Hdr} {out : LI × Int} (hM : dissect_Bisect x1 x3 x5 = some out) (q1 : imm S1 h2.v x1 ∈ ros) (q2 : imm I1 h4.v x3 ∈ ros) (q3 : imm S1 h6.v x5 ∈ ros) (hst : St w0 ros rs w) :
  Calls Tryz.prog 16 #[.agg #[h2.v, h4.v, h6.v]] w (fun e w => ∃ (h100001 : Hdr), e = .returned (.tuple #[h100001.v, iV out.2]) ∧ St w0 ros (row 3 I1 h100001.v out.1 :: rs) w) := by
 refine enterQ Tryz.func16 rfl Tryz.ntmps16 rfl fun Q hQ => sR fun _ k1 => YB wn rfl (r_box (vals := [h2.v, h4.v, h6.v]) hst e0 rfl) ?_
 intro b7 w hst
 refine Ya hnil.v rfl (Ya (iV 0) rfl (wK k1 (sR fun _ k2 => yY (lbs_ [h2.v, h4.v, h6.v] ST_28 e0 hst R0) ?_)))
 obtain ⟨r8, gr8, hM⟩ := bs hM
 refine Yc wn rfl (yCall FN_23 (a1 e0)) (dissect_CheckWeighted_ok gr8 q1 q2 q3 hst) ?_
 rintro _ w ⟨rfl, hst⟩
 refine ⟨_, rfl, ?_⟩
 refine Ya (iV r8) e0 (wK k2 (seqQ fun Q3 k3 z3 => sR fun _ k4 => Ym (iV r8) e0 (yY (yneq e0 rfl) (wK k4 ?_))))
 rcases iteS hM with ⟨c9, hM⟩ | ⟨c9, hM⟩
 ·refine condF e0 (nF (dT c9)) (wp_skip (k3 _ _ (sR fun _ k5 => yY (lbs_ [h2.v, h4.v, h6.v] ST_28 e0 hst R0) ?_)))
  obtain ⟨r10, gr10, hM⟩ := bs hM
  refine Yc wn rfl (yCall FN_43 (a1 e0)) (dissect_bisect_ok gr10 q1 q2 q3 hst) ?_
  rintro _ w ⟨h11, rfl, hst⟩
  refine ⟨_, rfl, ?_⟩
  refine Ym (.tuple #[h11.v, .bool r10.2]) e0 (yY (x_ h11.v e0) (yY (x_ (.bool r10.2) e0) (Ya h11.v e0 (Ya (.bool r10.2) e0 (wK k5 (seqQ fun Q6 k6 z6 => sR fun _ k7 => Ym (.bool r10.2) e0 (yY (ynot e0) (wK k7 ?_))))))))
  rcases iteS hM with ⟨c12, hM⟩ | ⟨c12, hM⟩
  ·refine condF e0 (nF c12) (wp_skip (k6 _ _ (sR fun _ k8 => Ym h11.v e0 (Ya h11.v e0 (Ya (iV 0) rfl (wK k8 (wp_ret ?_)))))))
   obtain rfl := someI hM
   exact hQ _ _ _ (fin2r Tryz.results16 ⟨rfl, rfl⟩ ⟨rfl, rfl⟩ ⟨_, rfl, (hst.pk 2 [0] rfl)⟩)
  ·refine condT e0 (nT (bfalse c12)) (sR fun _ k9 => Ya hnil.v rfl (Ya (iV 3) rfl (wK k9 (wp_ret (z6 _ _ _ rfl ?_)))))
   obtain rfl := someI hM
   replace hst := hst.rowNh 3 I1
   exact hQ _ _ _ (fin2r Tryz.results16 ⟨rfl, rfl⟩ ⟨rfl, rfl⟩ ⟨_, rfl, (hst.pk 3 [0] rfl)⟩)
 ·refine condT e0 (nT (dF c9)) (sR fun _ k10 => Ym (iV r8) e0 (Ya hnil.v rfl (Ya (iV r8) e0 (wK k10 (wp_ret (z3 _ _ _ rfl ?_))))))
  obtain rfl := someI hM
  replace hst := hst.rowNh 3 I1
  exact hQ _ _ _ (fin2r Tryz.results16 ⟨rfl, rfl⟩ ⟨rfl, rfl⟩ ⟨_, rfl, (hst.pk 2 [0] rfl)⟩)
theorem sparseref18_Total_ok {x1 : L2} {x3 : LI} {x5 : L2} {h2 h4 h6 : Hdr} {out : Int} (hM : sparseref18_Total x1 x3 x5 = some out) (q1 : imm S1 h2.v x1 ∈ ros) (q2 : imm I1 h4.v x3 ∈ ros) (q3 : imm S1 h6.v x5 ∈ ros) (hst : St w0 ros rs w) :
  Calls Tryz.prog 75 #[.agg #[h2.v, h4.v, h6.v]] w (fun e w => e = .returned (iV out) ∧ St w0 ros rs w) := by
 refine enterQ Tryz.func75 rfl Tryz.ntmps75 rfl fun Q hQ => sR fun _ k1 => YB wn rfl (r_box (vals := [h2.v, h4.v, h6.v]) hst e0 rfl) ?_
 intro b7 w hst
 refine Ya (iV 0) rfl (wK k1 (sR fun _ k2 => Ya (iV 0) rfl (wK k2 (sQ fun _ k3 => sR fun _ k4 => Ya (iV 0) rfl (wK k4 ?_)))))
 refine blockQ fun Q5 qb5 => ?_
 obtain ⟨o1, go1, hM⟩ := bs hM
 have je1_0 : ∀ (x16 : Int) (f : FV) (w : World), f 3 = iV x16 → St w0 ros rs w → x16 = o1 → Q5 (.exit 0) (fr 20 f) w := by
  intro x16 f w eje1_0_3 hst ho
  subst ho
  refine qb5 _ _ _ (k3 _ _ (sR fun _ k14 => Ym (iV x16) (eh eje1_0_3) (Ya (iV x16) e0 (wK k14 (wp_ret ?_)))))
  obtain rfl := someI hM
  exact hQ _ _ _ (fin1r Tryz.results75 ⟨rfl, rfl⟩ ⟨rfl, hst⟩)
 refine loopQ (fun s a w => ∃ (x10 x11 : Int) (f : FV), (x10, x11) = s ∧ a = fr 20 f ∧ f 1 = (pB b7) ∧ f 3 = iV x10 ∧ f 4 = iV x11 ∧ St w0 ros (box b7 28 [h2.v, h4.v, h6.v] :: rs) w) go1 ⟨_, _, _, rfl, rfl, rfl, rfl, rfl, hst⟩ ?_
 rintro _ _ w r1_ ⟨x10, x11, f, rfl, rfl, e1_1, e1_3, e1_4, hst⟩ hM1 ho1 Q100001 n1 zz1
 refine seqQ fun Q15 k15 z15 => sR fun _ k16 => Ym (iV x11) (eh e1_4) (yY (yFb FL_28_1 (eh e1_1)) (yY (lb_ h4.v O_22 e0 hst R0) (yY (yLen SL_22 e0 hst (rdI q2)) (yY (ylss e0 e0) (wK k16 ?_)))))
 rcases iteS hM1 with ⟨c17, hM1⟩ | ⟨c17, hM1⟩
 ·refine cT e0 c17 (wp_skip (k15 _ _ (sQ fun _ k17 => blockQ fun _ qb18 => wR (Ym (iV x10) (eh e1_3) (yY (yFb FL_28_1 (eh e1_1)) (yY (lb_ h4.v O_22 e0 hst R0) (Ym (iV x11) (eh e1_4) ?_)))))))
  obtain ⟨x18, gx18, hM1⟩ := bs hM1
  refine yY (yIa SL_22 e0 e0 hst (rdI q2) gx18) (yY (yI O_3 e0 hst (rdI q2) gx18) (yY (yadd e0 e0) (Ya (iV (wa .i64 x10 x18)) e0 (wN (qb18 _ _ _ (k17 _ _ (wR (Ym (iV x11) (eh e1_4) (yY (yadd e0 rfl) (Ya (iV (wa .i64 x11 1)) e0 (wN ?_)))))))))))
  obtain rfl := someI hM1
  exact n1 _ _ _ rfl ⟨_, _, _, rfl, rfl, e1_1, rfl, rfl, hst⟩
 ·refine cF e0 c17 (wp_exit (z15 _ _ _ rfl ?_))
  obtain rfl := someI hM1
  exact zz1 _ _ _ _ rfl rfl (je1_0 _ _ _ e1_3 (hst.pk 1 [] rfl) (ho1 _ rfl))
theorem sparseref12_Levels_ok {x1 : L2} {x3 : Int} {h2 : Hdr} {out : L2} (hM : sparseref12_Levels x1 x3 = some out) (q1 : imm S1 h2.v x1 ∈ ros) (hst : St w0 ros rs w) :
  Calls Tryz.prog 78 #[.agg #[h2.v], iV x3] w (fun e w => ∃ (h100001 : Hdr), e = .returned (h100001.v) ∧ St w0 ros (row 22 S1 h100001.v out :: rs) w) := by
 refine enterQ Tryz.func78 rfl Tryz.ntmps78 rfl fun Q hQ => sR fun _ k1 => YB wn rfl (r_box (vals := [h2.v]) hst e0 rfl) ?_
 intro b4 w hst
 refine Ya hnil.v rfl (wK k1 (sR fun _ k2 => yY (yFb FL_26_0 e0) (yY (lb_ h2.v O_24 e0 hst R0) (yY (yLen SL_24 e0 hst (rdI q1)) (Ya (iV (x1.length : Int)) e0 (wK k2 (seqQ fun Q3 k3 z3 => sR fun _ k4 => ?_)))))))
 refine yY (lbs_ [h2.v] ST_26 e0 hst R0) ?_
 obtain ⟨r5, gr5, hM⟩ := bs hM
 refine Yc wn rfl (yCall FN_54 (a1 e0)) (sparseref12_Check_ok gr5 q1 hst) ?_
 rintro _ w ⟨rfl, hst⟩
 refine ⟨_, rfl, ?_⟩
 refine yY (yneq e0 rfl) (Ym (.bool (!(decide (r5 = 0)))) e0 ?_)
 refine joinW 3 (fun f w => f 1 = iV x3 ∧ f 2 = (pB b4) ∧ f 5 = iV (x1.length : Int) ∧ f 24 = .bool ((!(decide (r5 = 0))) || (decide (x3 < 0))) ∧ St w0 ros (box b4 26 [h2.v] :: rs) w) (fun j1 => ?_) ?_
 ·rcases Bool.eq_false_or_eq_true (!(decide (r5 = 0))) with c7 | c7
  ·exact gN c7 (gN c7 (yY (pt_ (.bool true) e0 c7 rfl) (j1 _ _ ⟨rfl, rfl, rfl, (congrArg Value.bool (orT c7)), hst⟩)))
  ·exact yG c7 (m_ (iV x3) e0) (yG c7 (ylss e0 rfl) (yY (pf_ (.bool (decide (x3 < 0))) e0 c7 e0) (j1 _ _ ⟨rfl, rfl, rfl, (congrArg Value.bool (orF c7)), hst⟩)))
 rintro f w ⟨e6_1, e6_2, e6_5, e6_24, hst⟩
 refine Ym (.bool ((!(decide (r5 = 0))) || (decide (x3 < 0)))) (eh e6_24) ?_
 refine joinW 4 (fun f w => f 1 = iV x3 ∧ f 2 = (pB b4) ∧ f 5 = iV (x1.length : Int) ∧ f 29 = .bool (((!(decide (r5 = 0))) || (decide (x3 < 0))) || (decide ((x1.length : Int) ≤ x3))) ∧ St w0 ros (box b4 26 [h2.v] :: rs) w) (fun j2 => ?_) ?_
 ·rcases Bool.eq_false_or_eq_true ((!(decide (r5 = 0))) || (decide (x3 < 0))) with c9 | c9
  ·exact gN c9 (gN c9 (gN c9 (yY (pt_ (.bool true) e0 c9 rfl) (j2 _ _ ⟨e6_1, e6_2, e6_5, (congrArg Value.bool (orT c9)), hst⟩))))
  ·exact yG c9 (m_ (iV x3) (eh e6_1)) (yG c9 (m_ (iV (x1.length : Int)) (eh e6_5)) (yG c9 (ygeq e0 e0) (yY (pf_ (.bool (decide ((x1.length : Int) ≤ x3))) e0 c9 e0) (j2 _ _ ⟨e6_1, e6_2, e6_5, (congrArg Value.bool (orF c9)), hst⟩))))
 rintro f w ⟨e8_1, e8_2, e8_5, e8_29, hst⟩
 refine wK k4 ?_
 rcases iteS hM with ⟨c10, hM⟩ | ⟨c10, hM⟩
 ·refine condT (eh e8_29) c10 (sR fun _ k5 => Ya hnil.v rfl (wK k5 (wp_ret (z3 _ _ _ rfl ?_))))
  obtain rfl := someI hM
  replace hst := hst.rowNh 22 S1
  exact hQ _ _ _ (fin1r Tryz.results78 ⟨rfl, rfl⟩ ⟨_, rfl, (hst.pk 2 [0] rfl)⟩)
 ·refine condF (eh e8_29) (bfalse c10) (wp_skip (k3 _ _ (sR fun _ k6 => Ym (iV (x1.length : Int)) (eh e8_5) ?_)))
  obtain ⟨x13, gx13, hM⟩ := bs hM
  refine YH wn rfl (rMk hst SL_93 e0 gx13) ?_
  intro h11 w hst
  refine Ya h11.v e0 (wK k6 (sR fun _ k7 => Ym h11.v e0 (Ym (iV x3) (eh e8_1) ?_)))
  obtain ⟨x14, gx14, hM⟩ := bs hM
  refine yY (yIs SL_93 e0 e0 hst rO0 gx14) (YT wn rfl (r_sti (cs := [.bool true]) hst O_4 rfl e0 rfl rfl mkB gx14) ?_)
  intro w hst
  refine wK k7 (sR fun _ k8 => Ym (iV x3) (eh e8_1) (YH wn rfl (rLt (n := 1) (l := [x3]) hst SL_22 [iV x3] (bp1 e0) rfl rfl (mks1 (cs := [iV x3]) rfl mkI mks0)) ?_))
  intro h15 w hst
  refine Ya h15.v e0 (wK k8 (sR fun _ k9 => Ya hnil.v rfl (wK k9 (sQ fun _ k10 => blockQ fun Q11 qb11 => ?_))))
  obtain ⟨o73, go73, hM⟩ := bs hM
  have je73_0 : ∀ (x409 : L2) (h408 : Hdr) (f : FV) (w : World), f 8 = h408.v → St w0 ros (row 22 S1 h408.v x409 :: rs) w → x409 = o73 → Q11 (.exit 0) (fr 107 f) w := by
   intro x409 h408 f w eje73_0_8 hst ho
   subst ho
   refine qb11 _ _ _ (k10 _ _ (sR fun _ k192 => Ym h408.v (eh eje73_0_8) (Ya h408.v e0 (wK k192 (wp_ret ?_)))))
   obtain rfl := someI hM
   exact hQ _ _ _ (fin1r Tryz.results78 ⟨rfl, rfl⟩ ⟨_, rfl, hst⟩)
  replace hst := hst.rowNh 22 S1
  refine loopQ (fun s a w => ∃ (x207 : List Bool) (x209 : LI) (x211 : L2) (f : FV) (h208 h210 : Hdr), (x207, x209, x211) = s ∧ a = fr 107 f ∧ f 2 = (pB b4) ∧ f 5 = iV (x1.length : Int) ∧ f 6 = h11.v ∧ f 7 = h208.v ∧ f 8 = h210.v ∧ St w0 ros (box b4 26 [h2.v] :: row 4 rB h11.v x207 :: row 3 I1 h208.v x209 :: row 22 S1 h210.v x211 :: rs) w) go73 ⟨_, _, _, _, _, _, rfl, rfl, e8_2, e8_5, rfl, rfl, rfl, (hst.pk 4 [3, 2, 1, 0] rfl)⟩ ?_
  rintro _ _ w r73_ ⟨x207, x209, x211, f, h208, h210, rfl, rfl, e73_2, e73_5, e73_6, e73_7, e73_8, hst⟩ hM73 ho73 Q100073 n73 zz73
  refine seqQ fun Q193 k193 z193 => sR fun _ k194 => Ym h208.v (eh e73_7) (yY (yLen SL_22 e0 hst rO2) (yY (ygtr e0 rfl) (wK k194 ?_)))
  rcases iteS hM73 with ⟨c410, hM73⟩ | ⟨c410, hM73⟩
  ·refine cT e0 c410 (wp_skip (k193 _ _ (blockQ fun _ qb195 => sR fun _ k196 => Ym h210.v (eh e73_8) (Ym h208.v (eh e73_7) ?_))))
   replace hst := hst.pk 3 [2, 0, 0] rfl
   replace hst := hst.fz
   refine YH wn rfl (rLt (n := 1) (l := [x209]) hst SL_24 [h208.v] (bp1 e0) rfl rfl (mks1 (cs := [h208.v]) rfl (mkS F0) mks0)) ?_
   intro h411 w hst
   obtain ⟨x413, gx413, hM73⟩ := bs hM73
   replace hst := hst.pk 4 [3, 0, 0, 0] rfl
   refine YH wn rfl (rAp hst SL_24 e0 e0 rO1 gx413) ?_
   intro h412 w hst
   refine Ya h412.v e0 (wK k196 (sR fun _ k197 => Ym (iV (x1.length : Int)) (eh e73_5) ?_))
   obtain ⟨x416, gx416, hM73⟩ := bs hM73
   refine YH wn rfl (rMk hst SL_93 e0 gx416) ?_
   intro h414 w hst
   refine Ya h414.v e0 (wK k197 (sQ fun _ k198 => sR fun _ k199 => Ya (iV 0) rfl (wK k199 (blockQ fun Q200 qb200 => ?_))))
   obtain ⟨o94, go94, hM73⟩ := bs hM73
   have je94_0 : ∀ (x505 : List Bool) (f : FV) (w : World), f 2 = (pB b4) → f 5 = iV (x1.length : Int) → f 6 = h11.v → f 8 = h412.v → f 9 = h414.v → St w0 ros (box b4 26 [h2.v] :: row 4 rB h11.v x207 :: row 22 S1 h412.v x413 :: row 4 rB h414.v x505 :: rs) w → x505 = o94 → Q200 (.exit 2) (fr 107 f) w := by
    intro x505 f w eje94_0_2 eje94_0_5 eje94_0_6 eje94_0_8 eje94_0_9 hst ho
    subst ho
    refine qb200 _ _ _ (k198 _ _ (sR fun _ k239 => Ya hnil.v rfl (wK k239 (sQ fun _ k240 => sR fun _ k241 => Ya (iV 0) rfl (wK k241 (blockQ fun Q242 qb242 => ?_))))))
    obtain ⟨o97, go97, hM73⟩ := bs hM73
    have je97_0 : ∀ (x542 : List Bool) (x544 : LI) (h543 : Hdr) (f : FV) (w : World), f 2 = (pB b4) → f 5 = iV (x1.length : Int) → f 6 = h11.v → f 8 = h412.v → f 13 = h543.v → St w0 ros (box b4 26 [h2.v] :: row 4 rB h11.v x542 :: row 22 S1 h412.v x413 :: row 3 I1 h543.v x544 :: rs) w → (x542, x544) = o97 → Q242 (.exit 6) (fr 107 f) w := by
     intro x542 x544 h543 f w eje97_0_2 eje97_0_5 eje97_0_6 eje97_0_8 eje97_0_13 hst ho
     subst ho
     refine qb242 _ _ _ (k240 _ _ (wR (Ym h543.v (eh eje97_0_13) (Ya h543.v e0 (wN (qb195 _ _ _ ?_))))))
     obtain rfl := someI hM73
     exact n73 _ _ _ rfl ⟨_, _, _, _, _, _, rfl, rfl, eje97_0_2, eje97_0_5, eje97_0_6, rfl, eje97_0_8, (hst.pk 4 [0, 0, 1, 0] rfl)⟩
    replace hst := hst.rowNh 3 I1
    refine loopQ (fun s a w => ∃ (x520 : List Bool) (x522 : LI) (x523 : Int) (f : FV) (h521 : Hdr), (x520, x522, x523) = s ∧ a = fr 107 f ∧ f 2 = (pB b4) ∧ f 5 = iV (x1.length : Int) ∧ f 6 = h11.v ∧ f 8 = h412.v ∧ f 9 = h414.v ∧ f 13 = h521.v ∧ f 14 = iV x523 ∧ St w0 ros (box b4 26 [h2.v] :: row 4 rB h11.v x520 :: row 22 S1 h412.v x413 :: row 4 rB h414.v x505 :: row 3 I1 h521.v x522 :: rs) w) go97 ⟨_, _, _, _, _, rfl, rfl, eje94_0_2, eje94_0_5, eje94_0_6, eje94_0_8, eje94_0_9, rfl, rfl, (hst.pk 5 [1, 1, 1, 1, 0] rfl)⟩ ?_
    rintro _ _ w r97_ ⟨x520, x522, x523, f, h521, rfl, rfl, e97_2, e97_5, e97_6, e97_8, e97_9, e97_13, e97_14, hst⟩ hM97 ho97 Q100097 n97 zz97
    refine seqQ fun Q257 k257 z257 => sR fun _ k258 => Ym (iV x523) (eh e97_14) (Ym (iV (x1.length : Int)) (eh e97_5) (yY (ylss e0 e0) (wK k258 ?_)))
    rcases iteS hM97 with ⟨c545, hM97⟩ | ⟨c545, hM97⟩
    ·refine cT e0 c545 (wp_skip (k257 _ _ (sQ fun _ k259 => blockQ fun Q260 qb260 => sR fun _ k261 => Ym h414.v (eh e97_9) (Ym (iV x523) (eh e97_14) ?_))))
     obtain ⟨x546, gx546, hM97⟩ := bs hM97
     refine yY (yIa SL_93 e0 e0 hst rO3 gx546) (yY (yB O_4 e0 hst rO3 gx546) (wK k261 ?_))
     have j98 : ∀ (x551 : List Bool) (x553 : LI) (h552 : Hdr) (f : FV) (w : World), f 2 = (pB b4) → f 5 = iV (x1.length : Int) → f 6 = h11.v → f 8 = h412.v → f 9 = h414.v → f 13 = h552.v → f 14 = iV x523 → St w0 ros (box b4 26 [h2.v] :: row 4 rB h11.v x551 :: row 22 S1 h412.v x413 :: row 4 rB h414.v x505 :: row 3 I1 h552.v x553 :: rs) w → sparseref12_Levels_j98 x523 x551 x553 = some r97_ → Q260 .normal (fr 107 f) w := by
      intro x551 x553 h552 f w ej98_2 ej98_5 ej98_6 ej98_8 ej98_9 ej98_13 ej98_14 hst hM
      refine qb260 _ _ _ (k259 _ _ (wR (Ym (iV x523) (eh ej98_14) (yY (yadd e0 rfl) (Ya (iV (wa .i64 x523 1)) e0 (wN ?_))))))
      obtain rfl := someI hM
      exact n97 _ _ _ rfl ⟨_, _, _, _, _, rfl, rfl, ej98_2, ej98_5, ej98_6, ej98_8, ej98_9, ej98_13, rfl, hst⟩
     rcases iteS hM97 with ⟨c554, hM97⟩ | ⟨c554, hM97⟩
     ·refine condT e0 c554 (sR fun _ k263 => Ym h521.v (eh e97_13) (Ym (iV x523) (eh e97_14) (YH wn rfl (rLt (n := 1) (l := [x523]) hst SL_22 [iV x523] (bp1 e0) rfl rfl (mks1 (cs := [iV x523]) rfl mkI mks0)) ?_)))
      intro h555 w hst
      obtain ⟨x557, gx557, hM97⟩ := bs hM97
      replace hst := hst.pk 6 [5, 0, 0, 0, 0, 0] rfl
      refine YH wn rfl (rAp hst SL_22 e0 e0 rO1 gx557) ?_
      intro h556 w hst
      refine Ya h556.v e0 (wK k263 (wR (Ym h11.v (eh e97_6) (Ym (iV x523) (eh e97_14) ?_))))
      obtain ⟨x558, gx558, hM97⟩ := bs hM97
      refine yY (yIs SL_93 e0 e0 hst rO3 gx558) ?_
      replace hst := hst.pk 4 [3, 0, 0, 0] rfl
      refine YT wn rfl (r_sti (cs := [.bool true]) hst O_4 rfl e0 rfl rfl mkB gx558) ?_
      intro w hst
      exact wN (j98 _ _ _ _ _ e97_2 e97_5 e97_6 e97_8 e97_9 rfl e97_14 (hst.pk 6 [3, 0, 2, 2, 0] rfl) hM97)
     ·exact condF e0 (bfalse c554) (wp_skip (j98 _ _ _ _ _ e97_2 e97_5 e97_6 e97_8 e97_9 e97_13 e97_14 hst hM97))
    ·refine cF e0 c545 (wp_exit (z257 _ _ _ rfl ?_))
     obtain rfl := someI hM97
     exact zz97 _ _ _ _ rfl rfl (je97_0 _ _ _ _ _ e97_2 e97_5 e97_6 e97_8 e97_13 (hst.pk 5 [0, 0, 0, 1] rfl) (ho97 _ rfl))
   refine loopQ (fun s a w => ∃ (x459 : List Bool) (x460 : Int) (f : FV), (x459, x460) = s ∧ a = fr 107 f ∧ f 2 = (pB b4) ∧ f 5 = iV (x1.length : Int) ∧ f 6 = h11.v ∧ f 7 = h208.v ∧ f 8 = h412.v ∧ f 9 = h414.v ∧ f 10 = iV x460 ∧ St w0 (imm I1 h208.v x209 :: ros) (box b4 26 [h2.v] :: row 4 rB h11.v x207 :: row 22 S1 h412.v x413 :: row 4 rB h414.v x459 :: rs) w) go94 ⟨_, _, _, rfl, rfl, e73_2, e73_5, e73_6, e73_7, rfl, rfl, rfl, (hst.pk 5 [3, 3, 1, 0] rfl)⟩ ?_
   rintro _ _ w r94_ ⟨x459, x460, f, rfl, rfl, e94_2, e94_5, e94_6, e94_7, e94_8, e94_9, e94_10, hst⟩ hM94 ho94 Q100094 n94 zz94
   refine seqQ fun Q264 k264 z264 => sR fun _ k265 => Ym (iV x460) (eh e94_10) (Ym h208.v (eh e94_7) (yY (yLen SL_22 e0 hst (rdI F0)) (yY (ylss e0 e0) (wK k265 ?_))))
   rcases iteS hM94 with ⟨c559, hM94⟩ | ⟨c559, hM94⟩
   ·refine cT e0 c559 (wp_skip (k264 _ _ (sQ fun _ k266 => blockQ fun _ qb267 => sQ fun _ k268 => ?_)))
    obtain ⟨x560, gx560, hM94⟩ := bs hM94
    obtain ⟨x561, gx561, hM94⟩ := bs hM94
    refine dR [0, 1, 0, 0, 12, 28, 63, 127, 255] [8] 1 folM ?_
    replace hst := hst.drew
    refine Dn [0, 1, 2, 3, 4, 5, 6, 7] [] [8] (yR rfl (yFb FL_26_0 (eh e94_2)) (yR rfl (lb_ h2.v O_24 e0 hst R0) (yR rfl (m_ h208.v (eh e94_7)) (yR rfl (m_ (iV x460) (eh e94_10)) (yR rfl (yIa SL_22 e0 e0 hst (rdI F0) gx560) (yR rfl (yI O_3 e0 hst (rdI F0) gx560) (yR rfl (yIa SL_24 e0 e0 hst (rdI (mtF q1)) gx561) ?_)))))))
    obtain ⟨h562, hst⟩ := iLs hst (mtF q1) gx561
    refine yR rfl (yCt O_22 e0 hst F1 rfl) (Rn QSn ?_)
    refine Lc1 rfl ?_
    refine Ly wn (a_ h562.v e0) (Dz [] [] (Rn QSn (k268 _ _ (sR fun _ k269 => Ya (iV 0) rfl (wK k269 (blockQ fun Q270 qb270 => ?_))))))
    obtain ⟨o105, go105, hM94⟩ := bs hM94
    have je105_0 : ∀ (x589 : List Bool) (f : FV) (w : World), f 2 = (pB b4) → f 5 = iV (x1.length : Int) → f 6 = h11.v → f 7 = h208.v → f 8 = h412.v → f 9 = h414.v → f 10 = iV x460 → St w0 (imm I1 h208.v x209 :: ros) (box b4 26 [h2.v] :: row 4 rB h11.v x207 :: row 22 S1 h412.v x413 :: row 4 rB h414.v x589 :: rs) w → x589 = o105 → Q270 (.exit 4) (fr 107 f) w := by
     intro x589 f w eje105_0_2 eje105_0_5 eje105_0_6 eje105_0_7 eje105_0_8 eje105_0_9 eje105_0_10 hst ho
     subst ho
     refine qb270 _ _ _ (qb267 _ _ _ (k266 _ _ (wR (Ym (iV x460) (eh eje105_0_10) (yY (yadd e0 rfl) (Ya (iV (wa .i64 x460 1)) e0 (wN ?_)))))))
     obtain rfl := someI hM94
     exact n94 _ _ _ rfl ⟨_, _, _, rfl, rfl, eje105_0_2, eje105_0_5, eje105_0_6, eje105_0_7, eje105_0_8, eje105_0_9, rfl, hst⟩
    refine loopQ (fun s a w => ∃ (x574 : List Bool) (x575 : Int) (f : FV), (x574, x575) = s ∧ a = fr 107 f ∧ f 2 = (pB b4) ∧ f 5 = iV (x1.length : Int) ∧ f 6 = h11.v ∧ f 7 = h208.v ∧ f 8 = h412.v ∧ f 9 = h414.v ∧ f 10 = iV x460 ∧ f 11 = h562.v ∧ f 12 = iV x575 ∧ St w0 (imm I1 h208.v x209 :: imm I1 h562.v x561 :: ros) (box b4 26 [h2.v] :: row 4 rB h11.v x207 :: row 22 S1 h412.v x413 :: row 4 rB h414.v x574 :: rs) w) go105 ⟨_, _, _, rfl, rfl, e94_2, e94_5, e94_6, e94_7, e94_8, e94_9, e94_10, rfl, rfl, (hst.facts (allC F2 (allC F0 (allT (allT (allT allI))))))⟩ ?_
    rintro _ _ w r105_ ⟨x574, x575, f, rfl, rfl, e105_2, e105_5, e105_6, e105_7, e105_8, e105_9, e105_10, e105_11, e105_12, hst⟩ hM105 ho105 Q100105 n105 zz105
    refine seqQ fun Q279 k279 z279 => sR fun _ k280 => Ym (iV x575) (eh e105_12) (Ym h562.v (eh e105_11) (yY (yLen SL_22 e0 hst (rdI F1)) (yY (ylss e0 e0) (wK k280 ?_))))
    rcases iteS hM105 with ⟨c590, hM105⟩ | ⟨c590, hM105⟩
    ·refine cT e0 c590 (wp_skip (k279 _ _ (sQ fun _ k281 => blockQ fun _ qb282 => ?_)))
     obtain ⟨x591, gx591, hM105⟩ := bs hM105
     obtain ⟨x592, gx592, hM105⟩ := bs hM105
     obtain ⟨x593, gx593, hM105⟩ := bs hM105
     obtain ⟨r594, gr594, hM105⟩ := bs hM105
     obtain ⟨x595, gx595, hM105⟩ := bs hM105
     refine joinN (n := 107) (fun f w => f 2 = (pB b4) ∧ f 5 = iV (x1.length : Int) ∧ f 6 = h11.v ∧ f 7 = h208.v ∧ f 8 = h412.v ∧ f 9 = h414.v ∧ f 10 = iV x460 ∧ f 11 = h562.v ∧ f 12 = iV x575 ∧ St w0 (imm I1 h208.v x209 :: imm I1 h562.v x561 :: ros) (box b4 26 [h2.v] :: row 4 rB h11.v x207 :: row 22 S1 h412.v x413 :: row 4 rB h414.v x595 :: rs) w) (fun j106 => ?_) ?_
     ·rcases iteS gr594 with ⟨c598, gr594⟩ | ⟨c598, gr594⟩
      ·have hr107 := someI gr594
       refine dR [0, 0, 0, 6, 14, 0, 0, 0, 192, 448, 992, 2016, 4064, 8160, 8160, 8160, 57312, 122848, 262112, 524256, 1048544, 2097120, 4194303, 8388607] [23] 1 folM ?_
       replace hst := hst.drew
       refine Dn [0, 1, 2, 3, 4, 5, 6, 7, 8, 9, 10, 11, 12, 13, 14, 15, 16, 17, 18, 19, 20, 21, 22] [] [23] (yR rfl (m_ h414.v (eh e105_9)) (yR rfl (m_ h562.v (eh e105_11)) (yR rfl (m_ (iV x575) (eh e105_12)) (yR rfl (yIa SL_22 e0 e0 hst (rdI F1) gx591) (yR rfl (yI O_3 e0 hst (rdI F1) gx591) (yR rfl (m_ h414.v (eh e105_9)) (yR rfl (m_ h562.v (eh e105_11)) (yR rfl (m_ (iV x575) (eh e105_12)) (yR rfl (yIa SL_22 e0 e0 hst (rdI F1) gx592) (yR rfl (yI O_3 e0 hst (rdI F1) gx592) (yR rfl (yIa SL_93 e0 e0 hst rO3 gx593) (yR rfl (yB O_4 e0 hst rO3 gx593) (yR rfl (m_ (.bool x593) e0) ?_)))))))))))))
       refine Rx rfl rfl (wX c598) (Rx rfl rfl (wX c598) (Rx rfl rfl (wX c598) (Rx rfl rfl (wX c598) (Rx rfl rfl (wX c598) (Rx rfl rfl (wX c598) (Rx rfl rfl (wX c598) (Rx rfl rfl (wX c598) (yR rfl (pt_ (.bool r594) e0 c598 (eqv hr107 rfl)) (yR rfl (yIs SL_93 e0 e0 hst rO3 gx595) (Rn QSn ?_))))))))))
       refine Lc1 rfl ?_
       replace hst := hst.pk 4 [3, 0, 0, 0] rfl
       refine LT wn (r_sti (cs := [.bool r594]) hst O_4 rfl e0 e0 rfl mkB gx595) ?_
       intro w hst
       exact Dz [] [] (Rn QSn (j106 _ _ ⟨e105_2, e105_5, e105_6, e105_7, e105_8, e105_9, e105_10, e105_11, e105_12, (hst.pk 4 [1, 1, 1, 0] rfl)⟩))
      ·obtain ⟨x599, gx599, gr594⟩ := bs gr594
       obtain ⟨x600, gx600, gr594⟩ := bs gr594
       have hr108 := someI gr594
       refine dR [0, 0, 0, 6, 14, 0, 0, 0, 192, 448, 992, 2016, 4064, 8160, 8160, 8160, 57312, 122848, 262112, 524256, 1048544, 2097120, 4194303, 8388607] [23] 1 folM ?_
       replace hst := hst.drew
       refine Dn [0, 1, 2, 3, 4, 5, 6, 7, 8, 9, 10, 11, 12, 13, 14, 15, 16, 17, 18, 19, 20, 21, 22] [] [23] (yR rfl (m_ h414.v (eh e105_9)) (yR rfl (m_ h562.v (eh e105_11)) (yR rfl (m_ (iV x575) (eh e105_12)) (yR rfl (yIa SL_22 e0 e0 hst (rdI F1) gx591) (yR rfl (yI O_3 e0 hst (rdI F1) gx591) (yR rfl (m_ h414.v (eh e105_9)) (yR rfl (m_ h562.v (eh e105_11)) (yR rfl (m_ (iV x575) (eh e105_12)) (yR rfl (yIa SL_22 e0 e0 hst (rdI F1) gx592) (yR rfl (yI O_3 e0 hst (rdI F1) gx592) (yR rfl (yIa SL_93 e0 e0 hst rO3 gx593) (yR rfl (yB O_4 e0 hst rO3 gx593) (yR rfl (m_ (.bool x593) e0) ?_)))))))))))))
       refine Ry rfl rfl (wG (bfalse c598)) (m_ h11.v (eh e105_6)) (Ry rfl rfl (wG (bfalse c598)) (m_ h562.v (eh e105_11)) (Ry rfl rfl (wG (bfalse c598)) (m_ (iV x575) (eh e105_12)) (Ry rfl rfl (wG (bfalse c598)) (yIa SL_22 e0 e0 hst (rdI F1) gx599) (Ry rfl rfl (wG (bfalse c598)) (yI O_3 e0 hst (rdI F1) gx599) (Ry rfl rfl (wG (bfalse c598)) (yIa SL_93 e0 e0 hst rO1 gx600) (Ry rfl rfl (wG (bfalse c598)) (yB O_4 e0 hst rO1 gx600) (Ry rfl rfl (wG (bfalse c598)) (ynot e0) (yR rfl (pf_ (.bool r594) e0 (bfalse c598) (eqv hr108 e0)) (yR rfl (yIs SL_93 e0 e0 hst rO3 gx595) (Rn QSn ?_))))))))))
       refine Lc1 rfl ?_
       replace hst := hst.pk 4 [3, 0, 0, 0] rfl
       refine LT wn (r_sti (cs := [.bool r594]) hst O_4 rfl e0 e0 rfl mkB gx595) ?_
       intro w hst
       exact Dz [] [] (Rn QSn (j106 _ _ ⟨e105_2, e105_5, e105_6, e105_7, e105_8, e105_9, e105_10, e105_11, e105_12, (hst.pk 4 [1, 1, 1, 0] rfl)⟩))
     rintro f w ⟨e596_2, e596_5, e596_6, e596_7, e596_8, e596_9, e596_10, e596_11, e596_12, hst⟩
     refine qb282 _ _ _ (k281 _ _ (wR (Ym (iV x575) (eh e596_12) (yY (yadd e0 rfl) (Ya (iV (wa .i64 x575 1)) e0 (wN ?_))))))
     obtain rfl := someI hM105
     exact n105 _ _ _ rfl ⟨_, _, _, rfl, rfl, e596_2, e596_5, e596_6, e596_7, e596_8, e596_9, e596_10, e596_11, rfl, hst⟩
    ·refine cF e0 c590 (wp_exit (z279 _ _ _ rfl ?_))
     obtain rfl := someI hM105
     exact zz105 _ _ _ _ rfl rfl (je105_0 _ _ _ e105_2 e105_5 e105_6 e105_7 e105_8 e105_9 e105_10 (hst.facts (allC F0 (allT (allT allI)))) (ho105 _ rfl))
   ·refine cF e0 c559 (wp_exit (z264 _ _ _ rfl ?_))
    obtain rfl := someI hM94
    exact zz94 _ _ _ _ rfl rfl (je94_0 _ _ _ e94_2 e94_5 e94_6 e94_8 e94_9 (hst.facts (allT allI)) (ho94 _ rfl))
  ·refine cF e0 c410 (wp_exit (z193 _ _ _ rfl ?_))
   obtain rfl := someI hM73
   exact zz73 _ _ _ _ rfl rfl (je73_0 _ _ _ _ e73_8 (hst.pk 4 [3] rfl) (ho73 _ rfl))
theorem sparseref12_Components_ok {x1 : L2} {h2 : Hdr} {out : L2} (hM : sparseref12_Components x1 = some out) (q1 : imm S1 h2.v x1 ∈ ros) (hst : St w0 ros rs w) :
  Calls Tryz.prog 77 #[.agg #[h2.v]] w (fun e w => ∃ (h100001 : Hdr), e = .returned (h100001.v) ∧ St w0 ros (row 22 S1 h100001.v out :: rs) w) := by
 refine enterQ Tryz.func77 rfl Tryz.ntmps77 rfl fun Q hQ => sR fun _ k1 => YB wn rfl (r_box (vals := [h2.v]) hst e0 rfl) ?_
 intro b3 w hst
 refine Ya hnil.v rfl (wK k1 (seqQ fun Q2 k2 z2 => sR fun _ k3 => yY (lbs_ [h2.v] ST_26 e0 hst R0) ?_))
 obtain ⟨r4, gr4, hM⟩ := bs hM
 refine Yc wn rfl (yCall FN_54 (a1 e0)) (sparseref12_Check_ok gr4 q1 hst) ?_
 rintro _ w ⟨rfl, hst⟩
 refine ⟨_, rfl, ?_⟩
 refine yY (yneq e0 rfl) (wK k3 ?_)
 rcases iteS hM with ⟨c5, hM⟩ | ⟨c5, hM⟩
 ·refine condF e0 (nF (dT c5)) (wp_skip (k2 _ _ (sR fun _ k4 => yY (yFb FL_26_0 e0) (yY (lb_ h2.v O_24 e0 hst R0) (yY (yLen SL_24 e0 hst (rdI q1)) (Ya (iV (x1.length : Int)) e0 (wK k4 (sR fun _ k5 => Ym (iV (x1.length : Int)) e0 ?_))))))))
  obtain ⟨x8, gx8, hM⟩ := bs hM
  refine YH wn rfl (rMk hst SL_93 e0 gx8) ?_
  intro h6 w hst
  refine Ya h6.v e0 (wK k5 (sR fun _ k6 => Ya hnil.v rfl (wK k6 (sQ fun _ k7 => sR fun _ k8 => Ya (iV 0) rfl (wK k8 ?_)))))
  refine blockQ fun Q9 qb9 => ?_
  obtain ⟨o51, go51, hM⟩ := bs hM
  have je51_0 : ∀ (x920 : L2) (h919 : Hdr) (f : FV) (w : World), f 5 = h919.v → St w0 ros (row 22 S1 h919.v x920 :: rs) w → x920 = o51 → Q9 (.exit 0) (fr 80 f) w := by
   intro x920 h919 f w eje51_0_5 hst ho
   subst ho
   refine qb9 _ _ _ (k7 _ _ (sR fun _ k538 => Ym h919.v (eh eje51_0_5) (Ya h919.v e0 (wK k538 (wp_ret ?_)))))
   obtain rfl := someI hM
   exact hQ _ _ _ (fin1r Tryz.results77 ⟨rfl, rfl⟩ ⟨_, rfl, hst⟩)
  replace hst := hst.rowNh 22 S1
  refine loopQ (fun s a w => ∃ (x460 : List Bool) (x462 : L2) (x463 : Int) (f : FV) (h461 : Hdr), (x460, x462, x463) = s ∧ a = fr 80 f ∧ f 1 = (pB b3) ∧ f 3 = iV (x1.length : Int) ∧ f 4 = h6.v ∧ f 5 = h461.v ∧ f 6 = iV x463 ∧ St w0 ros (box b3 26 [h2.v] :: row 4 rB h6.v x460 :: row 22 S1 h461.v x462 :: rs) w) go51 ⟨_, _, _, _, _, rfl, rfl, rfl, rfl, rfl, rfl, rfl, (hst.pk 3 [2, 1, 0] rfl)⟩ ?_
  rintro _ _ w r51_ ⟨x460, x462, x463, f, h461, rfl, rfl, e51_1, e51_3, e51_4, e51_5, e51_6, hst⟩ hM51 ho51 Q100051 n51 zz51
  refine seqQ fun Q539 k539 z539 => sR fun _ k540 => Ym (iV x463) (eh e51_6) (Ym (iV (x1.length : Int)) (eh e51_3) (yY (ylss e0 e0) (wK k540 ?_)))
  rcases iteS hM51 with ⟨c921, hM51⟩ | ⟨c921, hM51⟩
  ·refine cT e0 c921 (wp_skip (k539 _ _ (sQ fun Q541 k541 => ?_)))
   have j68 : ∀ (x1220 : List Bool) (x1222 : L2) (h1221 : Hdr) (f : FV) (w : World), f 1 = (pB b3) → f 3 = iV (x1.length : Int) → f 4 = h6.v → f 5 = h1221.v → f 6 = iV x463 → St w0 ros (box b3 26 [h2.v] :: row 4 rB h6.v x1220 :: row 22 S1 h1221.v x1222 :: rs) w → sparseref12_Components_j68 x463 x1220 x1222 = some r51_ → Q541 .normal (fr 80 f) w := by
    intro x1220 x1222 h1221 f w ej68_1 ej68_3 ej68_4 ej68_5 ej68_6 hst hM
    refine k541 _ _ (wR (Ym (iV x463) (eh ej68_6) (yY (yadd e0 rfl) (Ya (iV (wa .i64 x463 1)) e0 (wN ?_)))))
    obtain rfl := someI hM
    exact n51 _ _ _ rfl ⟨_, _, _, _, _, rfl, rfl, ej68_1, ej68_3, ej68_4, ej68_5, rfl, hst⟩
   refine blockQ fun _ qb716 => seqQ fun Q717 k717 z717 => sR fun _ k718 => Ym h6.v (eh e51_4) (Ym (iV x463) (eh e51_6) ?_)
   obtain ⟨x1223, gx1223, hM51⟩ := bs hM51
   refine yY (yIa SL_93 e0 e0 hst rO1 gx1223) (yY (yB O_4 e0 hst rO1 gx1223) (wK k718 ?_))
   rcases iteS hM51 with ⟨c1224, hM51⟩ | ⟨c1224, hM51⟩
   ·exact condT e0 c1224 (wp_exit (z717 _ _ _ rfl (qb716 _ _ _ (j68 _ _ _ _ _ e51_1 e51_3 e51_4 e51_5 e51_6 hst hM51))))
   ·refine condF e0 (bfalse c1224) (wp_skip (k717 _ _ (sR fun _ k719 => yY (lbs_ [h2.v] ST_26 (eh e51_1) hst R0) (Ym (iV x463) (eh e51_6) ?_))))
    obtain ⟨r1225, gr1225, hM51⟩ := bs hM51
    refine Yc wn rfl (yCall FN_78 (a2 e0 e0)) (sparseref12_Levels_ok gr1225 q1 hst) ?_
    rintro _ w ⟨h1226, rfl, hst⟩
    refine ⟨_, rfl, ?_⟩
    refine Ya h1226.v e0 (wK k719 (sR fun _ k720 => Ym (iV (x1.length : Int)) (eh e51_3) ?_))
    obtain ⟨x1229, gx1229, hM51⟩ := bs hM51
    refine YH wn rfl (rMk hst SL_93 e0 gx1229) ?_
    intro h1227 w hst
    refine Ya h1227.v e0 (wK k720 (sQ fun _ k721 => sR fun _ k722 => Ya (iV 0) rfl (wK k722 (blockQ fun Q723 qb723 => ?_))))
    obtain ⟨o71, go71, hM51⟩ := bs hM51
    have je71_0 : ∀ (x1288 : List Bool) (f : FV) (w : World), f 1 = (pB b3) → f 3 = iV (x1.length : Int) → f 4 = h6.v → f 5 = h461.v → f 6 = iV x463 → f 8 = h1227.v → St w0 ros (box b3 26 [h2.v] :: row 4 rB h6.v x460 :: row 22 S1 h461.v x462 :: row 4 rB h1227.v x1288 :: rs) w → x1288 = o71 → Q723 (.exit 2) (fr 80 f) w := by
     intro x1288 f w eje71_0_1 eje71_0_3 eje71_0_4 eje71_0_5 eje71_0_6 eje71_0_8 hst ho
     subst ho
     refine qb723 _ _ _ (k721 _ _ (sR fun _ k760 => Ya hnil.v rfl (wK k760 (sQ fun _ k761 => sR fun _ k762 => Ya (iV 0) rfl (wK k762 (blockQ fun Q763 qb763 => ?_))))))
     obtain ⟨o74, go74, hM51⟩ := bs hM51
     have je74_0 : ∀ (x1325 : List Bool) (x1327 : LI) (h1326 : Hdr) (f : FV) (w : World), f 1 = (pB b3) → f 3 = iV (x1.length : Int) → f 4 = h6.v → f 5 = h461.v → f 6 = iV x463 → f 11 = h1326.v → St w0 ros (box b3 26 [h2.v] :: row 4 rB h6.v x1325 :: row 22 S1 h461.v x462 :: row 3 I1 h1326.v x1327 :: rs) w → (x1325, x1327) = o74 → Q763 (.exit 6) (fr 80 f) w := by
      intro x1325 x1327 h1326 f w eje74_0_1 eje74_0_3 eje74_0_4 eje74_0_5 eje74_0_6 eje74_0_11 hst ho
      subst ho
      refine qb763 _ _ _ (k761 _ _ (wR (Ym h461.v (eh eje74_0_5) (Ym h1326.v (eh eje74_0_11) ?_))))
      replace hst := hst.pk 4 [3, 0, 0, 0] rfl
      replace hst := hst.fz
      refine YH wn rfl (rLt (n := 1) (l := [x1327]) hst SL_24 [h1326.v] (bp1 e0) rfl rfl (mks1 (cs := [h1326.v]) rfl (mkS F0) mks0)) ?_
      intro h1328 w hst
      obtain ⟨x1330, gx1330, hM51⟩ := bs hM51
      replace hst := hst.pk 4 [3, 0, 0, 0] rfl
      refine YH wn rfl (rAp hst SL_24 e0 e0 rO1 gx1330) ?_
      intro h1329 w hst
      exact Ya h1329.v e0 (wN (qb716 _ _ _ (j68 _ _ _ _ _ eje74_0_1 eje74_0_3 eje74_0_4 rfl eje74_0_6 ((hst.pk 4 [2, 2, 0] rfl).facts (allT allI)) hM51)))
     replace hst := hst.rowNh 3 I1
     refine loopQ (fun s a w => ∃ (x1303 : List Bool) (x1305 : LI) (x1306 : Int) (f : FV) (h1304 : Hdr), (x1303, x1305, x1306) = s ∧ a = fr 80 f ∧ f 1 = (pB b3) ∧ f 3 = iV (x1.length : Int) ∧ f 4 = h6.v ∧ f 5 = h461.v ∧ f 6 = iV x463 ∧ f 8 = h1227.v ∧ f 11 = h1304.v ∧ f 12 = iV x1306 ∧ St w0 ros (box b3 26 [h2.v] :: row 4 rB h6.v x1303 :: row 22 S1 h461.v x462 :: row 4 rB h1227.v x1288 :: row 3 I1 h1304.v x1305 :: rs) w) go74 ⟨_, _, _, _, _, rfl, rfl, eje71_0_1, eje71_0_3, eje71_0_4, eje71_0_5, eje71_0_6, eje71_0_8, rfl, rfl, (hst.pk 5 [1, 1, 1, 1, 0] rfl)⟩ ?_
     rintro _ _ w r74_ ⟨x1303, x1305, x1306, f, h1304, rfl, rfl, e74_1, e74_3, e74_4, e74_5, e74_6, e74_8, e74_11, e74_12, hst⟩ hM74 ho74 Q100074 n74 zz74
     refine seqQ fun Q778 k778 z778 => sR fun _ k779 => Ym (iV x1306) (eh e74_12) (Ym (iV (x1.length : Int)) (eh e74_3) (yY (ylss e0 e0) (wK k779 ?_)))
     rcases iteS hM74 with ⟨c1331, hM74⟩ | ⟨c1331, hM74⟩
     ·refine cT e0 c1331 (wp_skip (k778 _ _ (sQ fun _ k780 => blockQ fun Q781 qb781 => sR fun _ k782 => Ym h1227.v (eh e74_8) (Ym (iV x1306) (eh e74_12) ?_))))
      obtain ⟨x1332, gx1332, hM74⟩ := bs hM74
      refine yY (yIa SL_93 e0 e0 hst rO3 gx1332) (yY (yB O_4 e0 hst rO3 gx1332) (wK k782 ?_))
      have j75 : ∀ (x1337 : List Bool) (x1339 : LI) (h1338 : Hdr) (f : FV) (w : World), f 1 = (pB b3) → f 3 = iV (x1.length : Int) → f 4 = h6.v → f 5 = h461.v → f 6 = iV x463 → f 8 = h1227.v → f 11 = h1338.v → f 12 = iV x1306 → St w0 ros (box b3 26 [h2.v] :: row 4 rB h6.v x1337 :: row 22 S1 h461.v x462 :: row 4 rB h1227.v x1288 :: row 3 I1 h1338.v x1339 :: rs) w → sparseref12_Components_j75 x1306 x1337 x1339 = some r74_ → Q781 .normal (fr 80 f) w := by
       intro x1337 x1339 h1338 f w ej75_1 ej75_3 ej75_4 ej75_5 ej75_6 ej75_8 ej75_11 ej75_12 hst hM
       refine qb781 _ _ _ (k780 _ _ (wR (Ym (iV x1306) (eh ej75_12) (yY (yadd e0 rfl) (Ya (iV (wa .i64 x1306 1)) e0 (wN ?_))))))
       obtain rfl := someI hM
       exact n74 _ _ _ rfl ⟨_, _, _, _, _, rfl, rfl, ej75_1, ej75_3, ej75_4, ej75_5, ej75_6, ej75_8, ej75_11, rfl, hst⟩
      rcases iteS hM74 with ⟨c1340, hM74⟩ | ⟨c1340, hM74⟩
      ·refine condT e0 c1340 (sR fun _ k784 => Ym h1304.v (eh e74_11) (Ym (iV x1306) (eh e74_12) (YH wn rfl (rLt (n := 1) (l := [x1306]) hst SL_22 [iV x1306] (bp1 e0) rfl rfl (mks1 (cs := [iV x1306]) rfl mkI mks0)) ?_)))
       intro h1341 w hst
       obtain ⟨x1343, gx1343, hM74⟩ := bs hM74
       replace hst := hst.pk 6 [5, 0, 0, 0, 0, 0] rfl
       refine YH wn rfl (rAp hst SL_22 e0 e0 rO1 gx1343) ?_
       intro h1342 w hst
       refine Ya h1342.v e0 (wK k784 (wR (Ym h6.v (eh e74_4) (Ym (iV x1306) (eh e74_12) ?_))))
       obtain ⟨x1344, gx1344, hM74⟩ := bs hM74
       refine yY (yIs SL_93 e0 e0 hst rO3 gx1344) ?_
       replace hst := hst.pk 4 [3, 0, 0, 0] rfl
       refine YT wn rfl (r_sti (cs := [.bool true]) hst O_4 rfl e0 rfl rfl mkB gx1344) ?_
       intro w hst
       exact wN (j75 _ _ _ _ _ e74_1 e74_3 e74_4 e74_5 e74_6 e74_8 rfl e74_12 (hst.pk 6 [3, 0, 2, 2, 0] rfl) hM74)
      ·exact condF e0 (bfalse c1340) (wp_skip (j75 _ _ _ _ _ e74_1 e74_3 e74_4 e74_5 e74_6 e74_8 e74_11 e74_12 hst hM74))
     ·refine cF e0 c1331 (wp_exit (z778 _ _ _ rfl ?_))
      obtain rfl := someI hM74
      exact zz74 _ _ _ _ rfl rfl (je74_0 _ _ _ _ _ e74_1 e74_3 e74_4 e74_5 e74_6 e74_11 (hst.pk 5 [0, 0, 0, 1] rfl) (ho74 _ rfl))
    refine loopQ (fun s a w => ∃ (x1257 : List Bool) (x1258 : Int) (f : FV), (x1257, x1258) = s ∧ a = fr 80 f ∧ f 1 = (pB b3) ∧ f 3 = iV (x1.length : Int) ∧ f 4 = h6.v ∧ f 5 = h461.v ∧ f 6 = iV x463 ∧ f 7 = h1226.v ∧ f 8 = h1227.v ∧ f 9 = iV x1258 ∧ St w0 ros (box b3 26 [h2.v] :: row 4 rB h6.v x460 :: row 22 S1 h461.v x462 :: row 22 S1 h1226.v r1225 :: row 4 rB h1227.v x1257 :: rs) w) go71 ⟨_, _, _, rfl, rfl, e51_1, e51_3, e51_4, e51_5, e51_6, rfl, rfl, rfl, (hst.pk 5 [2, 2, 2, 1, 0] rfl)⟩ ?_
    rintro _ _ w r71_ ⟨x1257, x1258, f, rfl, rfl, e71_1, e71_3, e71_4, e71_5, e71_6, e71_7, e71_8, e71_9, hst⟩ hM71 ho71 Q100071 n71 zz71
    refine seqQ fun Q785 k785 z785 => sR fun _ k786 => Ym (iV x1258) (eh e71_9) (Ym h1226.v (eh e71_7) (yY (yLen SL_24 e0 hst rO3) (yY (ylss e0 e0) (wK k786 ?_))))
    rcases iteS hM71 with ⟨c1345, hM71⟩ | ⟨c1345, hM71⟩
    ·refine cT e0 c1345 (wp_skip (k785 _ _ (sQ fun _ k787 => blockQ fun _ qb788 => sR fun _ k789 => Ya (iV 0) rfl (wK k789 (blockQ fun Q790 qb790 => ?_)))))
     obtain ⟨o76, go76, hM71⟩ := bs hM71
     have je76_0 : ∀ (x1364 : List Bool) (f : FV) (w : World), f 1 = (pB b3) → f 3 = iV (x1.length : Int) → f 4 = h6.v → f 5 = h461.v → f 6 = iV x463 → f 7 = h1226.v → f 8 = h1227.v → f 9 = iV x1258 → St w0 ros (box b3 26 [h2.v] :: row 4 rB h6.v x460 :: row 22 S1 h461.v x462 :: row 22 S1 h1226.v r1225 :: row 4 rB h1227.v x1364 :: rs) w → x1364 = o76 → Q790 (.exit 4) (fr 80 f) w := by
      intro x1364 f w eje76_0_1 eje76_0_3 eje76_0_4 eje76_0_5 eje76_0_6 eje76_0_7 eje76_0_8 eje76_0_9 hst ho
      subst ho
      refine qb790 _ _ _ (qb788 _ _ _ (k787 _ _ (wR (Ym (iV x1258) (eh eje76_0_9) (yY (yadd e0 rfl) (Ya (iV (wa .i64 x1258 1)) e0 (wN ?_)))))))
      obtain rfl := someI hM71
      exact n71 _ _ _ rfl ⟨_, _, _, rfl, rfl, eje76_0_1, eje76_0_3, eje76_0_4, eje76_0_5, eje76_0_6, eje76_0_7, eje76_0_8, rfl, hst⟩
     refine loopQ (fun s a w => ∃ (x1353 : List Bool) (x1354 : Int) (f : FV), (x1353, x1354) = s ∧ a = fr 80 f ∧ f 1 = (pB b3) ∧ f 3 = iV (x1.length : Int) ∧ f 4 = h6.v ∧ f 5 = h461.v ∧ f 6 = iV x463 ∧ f 7 = h1226.v ∧ f 8 = h1227.v ∧ f 9 = iV x1258 ∧ f 10 = iV x1354 ∧ St w0 ros (box b3 26 [h2.v] :: row 4 rB h6.v x460 :: row 22 S1 h461.v x462 :: row 22 S1 h1226.v r1225 :: row 4 rB h1227.v x1353 :: rs) w) go76 ⟨_, _, _, rfl, rfl, e71_1, e71_3, e71_4, e71_5, e71_6, e71_7, e71_8, e71_9, rfl, hst⟩ ?_
     rintro _ _ w r76_ ⟨x1353, x1354, f, rfl, rfl, e76_1, e76_3, e76_4, e76_5, e76_6, e76_7, e76_8, e76_9, e76_10, hst⟩ hM76 ho76 Q100076 n76 zz76
     refine seqQ fun Q799 k799 z799 => sR fun _ k800 => Ym (iV x1354) (eh e76_10) (Ym h1226.v (eh e76_7) (Ym (iV x1258) (eh e76_9) ?_))
     obtain ⟨x1365, gx1365, hM76⟩ := bs hM76
     refine yY (yIa SL_24 e0 e0 hst rO3 gx1365) ?_
     obtain ⟨h1366, ch1366, hst⟩ := rLs hst rO3 gx1365
     refine yY (yCe O_22 e0 ch1366 rfl) (yY (yLen SL_22 e0 hst (rdI F0)) (yY (ylss e0 e0) (wK k800 ?_)))
     rcases iteS hM76 with ⟨c1367, hM76⟩ | ⟨c1367, hM76⟩
     ·refine cT e0 c1367 (wp_skip (k799 _ _ (sQ fun _ k801 => blockQ fun _ qb802 => wR (Ym h1227.v (eh e76_8) (Ym h1226.v (eh e76_7) (Ym (iV x1258) (eh e76_9) ?_))))))
      obtain ⟨x1368, gx1368, hM76⟩ := bs hM76
      refine yY (yIa SL_24 e0 e0 hst rO3 gx1368) ?_
      obtain ⟨h1369, ch1369, hst⟩ := rLs hst rO3 gx1368
      refine yY (yCe O_22 e0 ch1369 rfl) (Ym (iV x1354) (eh e76_10) ?_)
      obtain ⟨x1370, gx1370, hM76⟩ := bs hM76
      refine yY (yIa SL_22 e0 e0 hst (rdI F0) gx1370) (yY (yI O_3 e0 hst (rdI F0) gx1370) ?_)
      obtain ⟨x1371, gx1371, hM76⟩ := bs hM76
      refine yY (yIs SL_93 e0 e0 hst rO4 gx1371) ?_
      replace hst := hst.pk 5 [4, 0, 0, 0, 0] rfl
      refine YT wn rfl (r_sti (cs := [.bool true]) hst O_4 rfl e0 rfl rfl mkB gx1371) ?_
      intro w hst
      refine wN (qb802 _ _ _ (k801 _ _ (wR (Ym (iV x1354) (eh e76_10) (yY (yadd e0 rfl) (Ya (iV (wa .i64 x1354 1)) e0 (wN ?_)))))))
      obtain rfl := someI hM76
      exact n76 _ _ _ rfl ⟨_, _, _, rfl, rfl, e76_1, e76_3, e76_4, e76_5, e76_6, e76_7, e76_8, e76_9, rfl, ((hst.pk 5 [1, 1, 1, 1, 0] rfl).facts (allT (allT allI)))⟩
     ·refine cF e0 c1367 (wp_exit (z799 _ _ _ rfl ?_))
      obtain rfl := someI hM76
      exact zz76 _ _ _ _ rfl rfl (je76_0 _ _ _ e76_1 e76_3 e76_4 e76_5 e76_6 e76_7 e76_8 e76_9 (hst.facts (allT allI)) (ho76 _ rfl))
    ·refine cF e0 c1345 (wp_exit (z785 _ _ _ rfl ?_))
     obtain rfl := someI hM71
     exact zz71 _ _ _ _ rfl rfl (je71_0 _ _ _ e71_1 e71_3 e71_4 e71_5 e71_6 e71_8 (hst.pk 5 [0, 0, 0, 1] rfl) (ho71 _ rfl))
  ·refine cF e0 c921 (wp_exit (z539 _ _ _ rfl ?_))
   obtain rfl := someI hM51
   exact zz51 _ _ _ _ rfl rfl (je51_0 _ _ _ _ e51_5 (hst.pk 3 [2] rfl) (ho51 _ rfl))
 ·refine condT e0 (nT (dF c5)) (sR fun _ k803 => Ya hnil.v rfl (wK k803 (wp_ret (z2 _ _ _ rfl ?_))))
  obtain rfl := someI hM
  replace hst := hst.rowNh 22 S1
  exact hQ _ _ _ (fin1r Tryz.results77 ⟨rfl, rfl⟩ ⟨_, rfl, (hst.pk 2 [0] rfl)⟩)
theorem sparseref12_Peripheral_ok {x1 : L2} {x3 : Int} {h2 : Hdr} {out : Int} (hM : sparseref12_Peripheral x1 x3 = some out) (q1 : imm S1 h2.v x1 ∈ ros) (hst : St w0 ros rs w) :
  Calls Tryz.prog 79 #[.agg #[h2.v], iV x3] w (fun e w => e = .returned (iV out) ∧ St w0 ros rs w) := by
 refine enterQ Tryz.func79 rfl Tryz.ntmps79 rfl fun Q hQ => sR fun _ k1 => YB wn rfl (r_box (vals := [h2.v]) hst e0 rfl) ?_
 intro b4 w hst
 refine Ya (iV 0) rfl (wK k1 (seqQ fun Q2 k2 z2 => sR fun _ k3 => yY (lbs_ [h2.v] ST_26 e0 hst R0) ?_))
 obtain ⟨r5, gr5, hM⟩ := bs hM
 refine Yc wn rfl (yCall FN_54 (a1 e0)) (sparseref12_Check_ok gr5 q1 hst) ?_
 rintro _ w ⟨rfl, hst⟩
 refine ⟨_, rfl, ?_⟩
 refine yY (yneq e0 rfl) (Ym (.bool (!(decide (r5 = 0)))) e0 ?_)
 refine joinW 3 (fun f w => f 1 = iV x3 ∧ f 2 = (pB b4) ∧ f 15 = .bool ((!(decide (r5 = 0))) || (decide (x3 < 0))) ∧ St w0 ros (box b4 26 [h2.v] :: rs) w) (fun j1 => ?_) ?_
 ·rcases Bool.eq_false_or_eq_true (!(decide (r5 = 0))) with c7 | c7
  ·exact gN c7 (gN c7 (yY (pt_ (.bool true) e0 c7 rfl) (j1 _ _ ⟨rfl, rfl, (congrArg Value.bool (orT c7)), hst⟩)))
  ·exact yG c7 (m_ (iV x3) e0) (yG c7 (ylss e0 rfl) (yY (pf_ (.bool (decide (x3 < 0))) e0 c7 e0) (j1 _ _ ⟨rfl, rfl, (congrArg Value.bool (orF c7)), hst⟩)))
 rintro f w ⟨e6_1, e6_2, e6_15, hst⟩
 refine Ym (.bool ((!(decide (r5 = 0))) || (decide (x3 < 0)))) (eh e6_15) ?_
 refine joinW 6 (fun f w => f 1 = iV x3 ∧ f 2 = (pB b4) ∧ f 22 = .bool (((!(decide (r5 = 0))) || (decide (x3 < 0))) || (decide ((x1.length : Int) ≤ x3))) ∧ St w0 ros (box b4 26 [h2.v] :: rs) w) (fun j2 => ?_) ?_
 ·rcases Bool.eq_false_or_eq_true ((!(decide (r5 = 0))) || (decide (x3 < 0))) with c9 | c9
  ·exact gN c9 (gN c9 (gN c9 (gN c9 (gN c9 (yY (pt_ (.bool true) e0 c9 rfl) (j2 _ _ ⟨e6_1, e6_2, (congrArg Value.bool (orT c9)), hst⟩))))))
  ·exact yG c9 (m_ (iV x3) (eh e6_1)) (yG c9 (yFb FL_26_0 (eh e6_2)) (yG c9 (lb_ h2.v O_24 e0 hst R0) (yG c9 (yLen SL_24 e0 hst (rdI q1)) (yG c9 (ygeq e0 e0) (yY (pf_ (.bool (decide ((x1.length : Int) ≤ x3))) e0 c9 e0) (j2 _ _ ⟨e6_1, e6_2, (congrArg Value.bool (orF c9)), hst⟩))))))
 rintro f w ⟨e8_1, e8_2, e8_22, hst⟩
 refine wK k3 ?_
 rcases iteS hM with ⟨c10, hM⟩ | ⟨c10, hM⟩
 ·refine condT (eh e8_22) c10 (sR fun _ k4 => Ya (iV (-1)) rfl (wK k4 (wp_ret (z2 _ _ _ rfl ?_))))
  obtain rfl := someI hM
  exact hQ _ _ _ (fin1r Tryz.results79 ⟨rfl, rfl⟩ ⟨rfl, (hst.pk 1 [] rfl)⟩)
 ·refine condF (eh e8_22) (bfalse c10) (wp_skip (k2 _ _ (blockQ fun Q5 qb5 => ?_)))
  obtain ⟨o11, go11, hM⟩ := bs hM
  have je11_0 : ∀ (x99 : Int) (f : FV) (w : World), f 4 = iV x99 → St w0 ros rs w → x99 = o11 → Q5 .ret (fr 70 f) w := by
   intro x99 f w eje11_0_4 hst ho
   subst ho
   refine qb5 _ _ _ ?_
   obtain rfl := someI hM
   exact hQ _ _ _ (fin1r Tryz.results79 ⟨rfl, eje11_0_4⟩ ⟨rfl, hst⟩)
  refine loopQ (fun s a w => ∃ (x54 : Int) (f : FV), x54 = s ∧ a = fr 70 f ∧ f 1 = iV x54 ∧ f 2 = (pB b4) ∧ St w0 ros (box b4 26 [h2.v] :: rs) w) go11 ⟨_, _, rfl, rfl, e8_1, e8_2, hst⟩ ?_
  rintro _ _ w r11_ ⟨x54, f, rfl, rfl, e11_1, e11_2, hst⟩ hM11 ho11 Q100011 n11 zz11
  refine blockQ fun _ qb56 => sR fun _ k57 => yY (lbs_ [h2.v] ST_26 (eh e11_2) hst R0) (Ym (iV x54) (eh e11_1) ?_)
  obtain ⟨r100, gr100, hM11⟩ := bs hM11
  refine Yc wn rfl (yCall FN_78 (a2 e0 e0)) (sparseref12_Levels_ok gr100 q1 hst) ?_
  rintro _ w ⟨h101, rfl, hst⟩
  refine ⟨_, rfl, ?_⟩
  refine Ya h101.v e0 (wK k57 (sR fun _ k58 => Ym h101.v e0 (Ym h101.v e0 (yY (yLen SL_24 e0 hst rO0) (yY (ysub e0 rfl) ?_)))))
  obtain ⟨x102, gx102, hM11⟩ := bs hM11
  refine yY (yIa SL_24 e0 e0 hst rO0 gx102) ?_
  obtain ⟨h103, ch103, hst⟩ := rLs hst rO0 gx102
  refine yY (yCe O_22 e0 ch103 rfl) (Ya h103.v e0 (wK k58 (sR fun _ k59 => Ym h103.v e0 ?_)))
  obtain ⟨x104, gx104, hM11⟩ := bs hM11
  refine yY (yIa SL_22 e0 rfl hst (rdI F0) gx104) (yY (yI O_3 e0 hst (rdI F0) gx104) (Ya (iV x104) e0 (wK k59 (sQ fun _ k60 => sR fun _ k61 => Ya (iV 1) rfl (wK k61 (blockQ fun Q62 qb62 => ?_))))))
  obtain ⟨o14, go14, hM11⟩ := bs hM11
  have je14_0 : ∀ (x129 : Int) (f : FV) (w : World), f 1 = iV x54 → f 2 = (pB b4) → f 5 = h101.v → f 7 = iV x129 → St w0 ros (box b4 26 [h2.v] :: row 22 S1 h101.v r100 :: rs) w → x129 = o14 → Q62 (.exit 2) (fr 70 f) w := by
   intro x129 f w eje14_0_1 eje14_0_2 eje14_0_5 eje14_0_7 hst ho
   subst ho
   refine qb62 _ _ _ (k60 _ _ (seqQ fun Q73 k73 z73 => sR fun _ k74 => yY (lbs_ [h2.v] ST_26 (eh eje14_0_2) hst R0) (Ym (iV x129) (eh eje14_0_7) ?_)))
   obtain ⟨r130, gr130, hM11⟩ := bs hM11
   refine Yc wn rfl (yCall FN_78 (a2 e0 e0)) (sparseref12_Levels_ok gr130 q1 hst) ?_
   rintro _ w ⟨h131, rfl, hst⟩
   refine ⟨_, rfl, ?_⟩
   refine yY (yLen SL_24 e0 hst rO0) (Ym h101.v (eh eje14_0_5) (yY (yLen SL_24 e0 hst rO2) (yY (yleq e0 e0) (wK k74 ?_))))
   rcases iteS hM11 with ⟨c132, hM11⟩ | ⟨c132, hM11⟩
   ·refine cT e0 c132 (sR fun _ k75 => Ym (iV x54) (eh eje14_0_1) (Ya (iV x54) e0 (wK k75 (wp_ret (z73 _ _ _ rfl (qb56 _ _ _ ?_))))))
    obtain rfl := someI hM11
    exact zz11 _ _ _ _ rfl rfl (je11_0 _ _ _ rfl (hst.pk 3 [] rfl) (ho11 _ rfl))
   ·refine cF e0 c132 (wp_skip (k73 _ _ (wR (Ym (iV x129) (eh eje14_0_7) (Ya (iV x129) e0 (wN (qb56 _ _ _ ?_)))))))
    obtain rfl := someI hM11
    exact n11 _ _ _ rfl ⟨_, _, rfl, rfl, rfl, eje14_0_2, (hst.pk 3 [1] rfl)⟩
  refine loopQ (fun s a w => ∃ (x115 x116 : Int) (f : FV), (x115, x116) = s ∧ a = fr 70 f ∧ f 1 = iV x54 ∧ f 2 = (pB b4) ∧ f 5 = h101.v ∧ f 6 = h103.v ∧ f 7 = iV x115 ∧ f 8 = iV x116 ∧ St w0 (imm I1 h103.v x102 :: ros) (box b4 26 [h2.v] :: row 22 S1 h101.v r100 :: rs) w) go14 ⟨_, _, _, rfl, rfl, e11_1, e11_2, rfl, rfl, rfl, rfl, (hst.pk 2 [1, 0] rfl)⟩ ?_
  rintro _ _ w r14_ ⟨x115, x116, f, rfl, rfl, e14_1, e14_2, e14_5, e14_6, e14_7, e14_8, hst⟩ hM14 ho14 Q100014 n14 zz14
  refine seqQ fun Q76 k76 z76 => sR fun _ k77 => Ym (iV x116) (eh e14_8) (Ym h103.v (eh e14_6) (yY (yLen SL_22 e0 hst (rdI F0)) (yY (ylss e0 e0) (wK k77 ?_))))
  rcases iteS hM14 with ⟨c133, hM14⟩ | ⟨c133, hM14⟩
  ·refine cT e0 c133 (wp_skip (k76 _ _ (sQ fun _ k78 => blockQ fun Q79 qb79 => sQ fun _ k80 => ?_)))
   obtain ⟨x134, gx134, hM14⟩ := bs hM14
   obtain ⟨x135, gx135, hM14⟩ := bs hM14
   obtain ⟨x137, gx137, hM14⟩ := bs hM14
   refine dR [0, 1, 0, 0, 12, 28, 63, 127, 255, 0, 512, 0, 3584, 7680, 15872, 32767] [] 0 folM ?_
   replace hst := hst.drew
   refine Dz [0, 1, 2, 3, 4, 5, 6, 7, 8, 9, 10, 11, 12, 13, 14, 15] [] (yR rfl (yFb FL_26_0 (eh e14_2)) (yR rfl (lb_ h2.v O_24 e0 hst R0) (yR rfl (m_ h103.v (eh e14_6)) (yR rfl (m_ (iV x116) (eh e14_8)) (yR rfl (yIa SL_22 e0 e0 hst (rdI F0) gx134) (yR rfl (yI O_3 e0 hst (rdI F0) gx134) (yR rfl (yIa SL_24 e0 e0 hst (rdI (mtF q1)) gx135) ?_)))))))
   obtain ⟨h136, hst⟩ := iLs hst (mtF q1) gx135
   refine yR rfl (yCt O_22 e0 hst F1 rfl) (yR rfl (yLen SL_22 e0 hst (rdI F0)) (yR rfl (yFb FL_26_0 (eh e14_2)) (yR rfl (lb_ h2.v O_24 e0 hst R0) (yR rfl (m_ (iV x115) (eh e14_7)) (yR rfl (yIa SL_24 e0 e0 hst (rdI (F_3 q1)) gx137) ?_)))))
   obtain ⟨h138, hst⟩ := iLs hst (F_3 q1) gx137
   refine yR rfl (yCt O_22 e0 hst F1 rfl) (yR rfl (yLen SL_22 e0 hst (rdI F0)) (yR rfl (ylss e0 e0) (Rn QSn (k80 _ _ ?_))))
   have j15 : ∀ (x140 : Int) (f : FV) (w : World), f 1 = iV x54 → f 2 = (pB b4) → f 5 = h101.v → f 6 = h103.v → f 7 = iV x140 → f 8 = iV x116 → St w0 (imm I1 h103.v x102 :: ros) (box b4 26 [h2.v] :: row 22 S1 h101.v r100 :: rs) w → sparseref12_Peripheral_j15 x116 x140 = some r14_ → Q79 .normal (fr 70 f) w := by
    intro x140 f w ej15_1 ej15_2 ej15_5 ej15_6 ej15_7 ej15_8 hst hM
    refine qb79 _ _ _ (k78 _ _ (wR (Ym (iV x116) (eh ej15_8) (yY (yadd e0 rfl) (Ya (iV (wa .i64 x116 1)) e0 (wN ?_))))))
    obtain rfl := someI hM
    exact n14 _ _ _ rfl ⟨_, _, _, rfl, rfl, ej15_1, ej15_2, ej15_5, ej15_6, ej15_7, rfl, hst⟩
   rcases iteS hM14 with ⟨c141, hM14⟩ | ⟨c141, hM14⟩
   ·refine cT e0 c141 (wR (Ym h103.v (eh e14_6) (Ym (iV x116) (eh e14_8) ?_)))
    obtain ⟨x142, gx142, hM14⟩ := bs hM14
    exact yY (yIa SL_22 e0 e0 hst (rdI F4) gx142) (yY (yI O_3 e0 hst (rdI F4) gx142) (Ya (iV x142) e0 (wN (j15 _ _ _ e14_1 e14_2 e14_5 e14_6 rfl e14_8 (hst.facts (allC F4 (allT (allT (allT (allT (allT allI))))))) hM14))))
   ·exact cF e0 c141 (wp_skip (j15 _ _ _ e14_1 e14_2 e14_5 e14_6 e14_7 e14_8 (hst.facts (allC F4 (allT (allT (allT (allT (allT allI))))))) hM14))
  ·refine cF e0 c133 (wp_exit (z76 _ _ _ rfl ?_))
   obtain rfl := someI hM14
   exact zz14 _ _ _ _ rfl rfl (je14_0 _ _ _ e14_1 e14_2 e14_5 e14_7 (hst.facts (allT allI)) (ho14 _ rfl))
theorem sparseref18_Grow_ok {x1 : L2} {x3 : LI} {x5 : L2} {h2 h4 h6 : Hdr} {out : LI} (hM : sparseref18_Grow x1 x3 x5 = some out) (q1 : imm S1 h2.v x1 ∈ ros) (q2 : imm I1 h4.v x3 ∈ ros) (q3 : imm S1 h6.v x5 ∈ ros) (hst : St w0 ros rs w) :
  Calls Tryz.prog 45 #[.agg #[h2.v, h4.v, h6.v]] w (fun e w => ∃ (h100001 : Hdr), e = .returned (h100001.v) ∧ St w0 ros (row 3 I1 h100001.v out :: rs) w) := by
 refine enterQ Tryz.func45 rfl Tryz.ntmps45 rfl fun Q hQ => sR fun _ k1 => YB wn rfl (r_box (vals := [h2.v, h4.v, h6.v]) hst e0 rfl) ?_
 intro b7 w hst
 refine Ya hnil.v rfl (wK k1 (sR fun _ k2 => yY (yFb FL_28_1 e0) (yY (lb_ h4.v O_22 e0 hst R0) (yY (yLen SL_22 e0 hst (rdI q2)) ?_))))
 obtain ⟨x10, gx10, hM⟩ := bs hM
 refine YH wn rfl (rMk hst SL_22 e0 gx10) ?_
 intro h8 w hst
 refine Ya h8.v e0 (wK k2 (sQ fun _ k3 => sR fun _ k4 => Ya (iV 0) rfl (wK k4 (blockQ fun Q5 qb5 => ?_))))
 obtain ⟨o1, go1, hM⟩ := bs hM
 have je1_0 : ∀ (x19 : LI) (f : FV) (w : World), f 1 = (pB b7) → f 3 = h8.v → St w0 ros (box b7 28 [h2.v, h4.v, h6.v] :: row 3 I1 h8.v x19 :: rs) w → x19 = o1 → Q5 (.exit 0) (fr 91 f) w := by
  intro x19 f w eje1_0_1 eje1_0_3 hst ho
  subst ho
  refine qb5 _ _ _ (k3 _ _ (sR fun _ k14 => yY (lbs_ [h2.v, h4.v, h6.v] ST_28 (eh eje1_0_1) hst R0) ?_))
  obtain ⟨r20, gr20, hM⟩ := bs hM
  refine Yc wn rfl (yCall FN_75 (a1 e0)) (sparseref18_Total_ok gr20 q1 q2 q3 hst) ?_
  rintro _ w ⟨rfl, hst⟩
  refine ⟨_, rfl, ?_⟩
  refine Ya (iV r20) e0 (Ya (iV 0) rfl (wK k14 (sR fun _ k15 => yY (yFb FL_28_0 (eh eje1_0_1)) (yY (lbs_ [h2.v] ST_26 e0 hst R0) ?_))))
  obtain ⟨r21, gr21, hM⟩ := bs hM
  refine Yc wn rfl (yCall FN_77 (a1 e0)) (sparseref12_Components_ok gr21 q1 hst) ?_
  rintro _ w ⟨h22, rfl, hst⟩
  refine ⟨_, rfl, ?_⟩
  refine Ya h22.v e0 (wK k15 (seqQ fun Q16 k16 z16 => sR fun _ k17 => Ya (iV 0) rfl (wK k17 (blockQ fun Q18 qb18 => ?_))))
  obtain ⟨o10, go10, hM⟩ := bs hM
  have je10_0 : ∀ (x337 : LI) (f : FV) (w : World), f 3 = h8.v → St w0 ros (row 3 I1 h8.v x337 :: rs) w → .inl x337 = o10 → Q18 (.exit 2) (fr 91 f) w := by
   intro x337 f w eje10_0_3 hst ho
   subst ho
   refine qb18 _ _ _ (k16 _ _ (sR fun _ k213 => Ym h8.v (eh eje10_0_3) (Ya h8.v e0 (wK k213 (wp_ret ?_)))))
   obtain rfl := someI hM
   exact hQ _ _ _ (fin1r Tryz.results45 ⟨rfl, rfl⟩ ⟨_, rfl, hst⟩)
  have je10_1 : ∀ (x338 : LI) (f : FV) (w : World), f 2 = h8.v → St w0 ros (row 3 I1 h8.v x338 :: rs) w → .inr x338 = o10 → Q18 .ret (fr 91 f) w := by
   intro x338 f w eje10_1_2 hst ho
   subst ho
   refine qb18 _ _ _ (z16 _ _ _ rfl ?_)
   obtain rfl := someI hM
   exact hQ _ _ _ (fin1r Tryz.results45 ⟨rfl, eje10_1_2⟩ ⟨_, rfl, hst⟩)
  refine loopQ (fun s a w => ∃ (x177 : LI) (x178 x179 : Int) (f : FV), (x177, x178, x179) = s ∧ a = fr 91 f ∧ f 1 = (pB b7) ∧ f 3 = h8.v ∧ f 5 = iV r20 ∧ f 6 = iV x178 ∧ f 7 = h22.v ∧ f 8 = iV x179 ∧ St w0 ros (box b7 28 [h2.v, h4.v, h6.v] :: row 3 I1 h8.v x177 :: row 22 S1 h22.v r21 :: rs) w) go10 ⟨_, _, _, _, rfl, rfl, eje1_0_1, eje1_0_3, rfl, rfl, rfl, rfl, (hst.pk 3 [1, 1, 0] rfl)⟩ ?_
  rintro _ _ w r10_ ⟨x177, x178, x179, f, rfl, rfl, e10_1, e10_3, e10_5, e10_6, e10_7, e10_8, hst⟩ hM10 ho10 Q100010 n10 zz10
  refine seqQ fun Q214 k214 z214 => sR fun _ k215 => Ym (iV x179) (eh e10_8) (Ym h22.v (eh e10_7) (yY (yLen SL_24 e0 hst rO2) (yY (ylss e0 e0) (wK k215 ?_))))
  rcases iteS hM10 with ⟨c339, hM10⟩ | ⟨c339, hM10⟩
  ·refine cT e0 c339 (wp_skip (k214 _ _ (seqQ fun Q216 k216 z216 => blockQ fun _ qb217 => sQ fun _ k218 => ?_)))
   obtain ⟨x340, gx340, hM10⟩ := bs hM10
   obtain ⟨x342, gx342, hM10⟩ := bs hM10
   obtain ⟨r343, gr343, hM10⟩ := bs hM10
   obtain ⟨r344, gr344, hM10⟩ := bs hM10
   refine dR [0, 1, 0, 4, 0, 0, 48, 112, 240, 496, 1020, 2047, 4095] [10, 11, 12] 3 folM ?_
   replace hst := hst.drew
   refine Dn [0, 1, 2, 3, 4, 5, 6, 7, 8, 9] [] [10] (yR rfl (yFb FL_28_0 (eh e10_1)) (yR rfl (lbs_ [h2.v] ST_26 e0 hst R0) (yR rfl (yFb FL_28_0 (eh e10_1)) (yR rfl (lbs_ [h2.v] ST_26 e0 hst R0) (yR rfl (m_ h22.v (eh e10_7)) (yR rfl (m_ (iV x179) (eh e10_8)) (yR rfl (yIa SL_24 e0 e0 hst rO2 gx340) ?_)))))))
   obtain ⟨h341, ch341, hst⟩ := rLs hst rO2 gx340
   refine yR rfl (yCe O_22 e0 ch341 rfl) (yR rfl (yIa SL_22 e0 rfl hst (rdI F0) gx342) (yR rfl (yI O_3 e0 hst (rdI F0) gx342) (Rn QSn ?_)))
   refine Lc1 rfl ?_
   refine Lk wn (yCall FN_79 (a2 e0 e0)) (sparseref12_Peripheral_ok gr343 (mtF q1) hst) ?_
   rintro _ w ⟨rfl, hst⟩
   refine ⟨_, rfl, ?_⟩
   refine Dn [] [0, 1] [11] (Rn (yS rfl (yFb FL_28_0 (eh e10_1)) (yS rfl (lbs_ [h2.v] ST_26 e0 hst R0) QSn)) ?_)
   refine Lc1 rfl ?_
   refine Lk wn (yCall FN_78 (a2 e0 e0)) (sparseref12_Levels_ok gr344 (mtF q1) hst) ?_
   rintro _ w ⟨h345, rfl, hst⟩
   refine ⟨_, rfl, ?_⟩
   refine Dn [] [] [12] (Rn QSn ?_)
   refine Lc1 rfl ?_
   refine Ly wn (a_ h345.v e0) (Dz [] [] (Rn QSn (k218 _ _ (sR fun _ k219 => Ya (iV 0) rfl (wK k219 (blockQ fun Q220 qb220 => ?_))))))
   obtain ⟨o13, go13, hM10⟩ := bs hM10
   have je13_0 : ∀ (x444 : LI) (x445 : Int) (f : FV) (w : World), f 1 = (pB b7) → f 3 = h8.v → f 5 = iV r20 → f 6 = iV x445 → f 7 = h22.v → f 8 = iV x179 → St w0 ros (box b7 28 [h2.v, h4.v, h6.v] :: row 3 I1 h8.v x444 :: row 22 S1 h22.v r21 :: rs) w → .inl (x444, x445) = o13 → Q220 (.exit 4) (fr 91 f) w := by
    intro x444 x445 f w eje13_0_1 eje13_0_3 eje13_0_5 eje13_0_6 eje13_0_7 eje13_0_8 hst ho
    subst ho
    refine qb220 _ _ _ (qb217 _ _ _ (k216 _ _ (wR (Ym (iV x179) (eh eje13_0_8) (yY (yadd e0 rfl) (Ya (iV (wa .i64 x179 1)) e0 (wN ?_)))))))
    obtain rfl := someI hM10
    exact n10 _ _ _ rfl ⟨_, _, _, _, rfl, rfl, eje13_0_1, eje13_0_3, eje13_0_5, eje13_0_6, eje13_0_7, rfl, hst⟩
   have je13_1 : ∀ (x446 : LI) (f : FV) (w : World), f 2 = h8.v → St w0 ros (row 3 I1 h8.v x446 :: rs) w → .inr x446 = o13 → Q220 .ret (fr 91 f) w := by
    intro x446 f w eje13_1_2 hst ho
    subst ho
    refine qb220 _ _ _ (qb217 _ _ _ (z216 _ _ _ rfl ?_))
    obtain rfl := someI hM10
    exact zz10 _ _ _ _ rfl rfl (je10_1 _ _ _ eje13_1_2 hst (ho10 _ rfl))
   refine loopQ (fun s a w => ∃ (x392 : LI) (x393 x394 : Int) (f : FV), (x392, x393, x394) = s ∧ a = fr 91 f ∧ f 1 = (pB b7) ∧ f 3 = h8.v ∧ f 5 = iV r20 ∧ f 6 = iV x393 ∧ f 7 = h22.v ∧ f 8 = iV x179 ∧ f 9 = h345.v ∧ f 10 = iV x394 ∧ St w0 ros (box b7 28 [h2.v, h4.v, h6.v] :: row 3 I1 h8.v x392 :: row 22 S1 h22.v r21 :: row 22 S1 h345.v r344 :: rs) w) go13 ⟨_, _, _, _, rfl, rfl, e10_1, e10_3, e10_5, e10_6, e10_7, e10_8, rfl, rfl, ((hst.pk 4 [1, 1, 1, 0] rfl).facts (allT allI))⟩ ?_
   rintro _ _ w r13_ ⟨x392, x393, x394, f, rfl, rfl, e13_1, e13_3, e13_5, e13_6, e13_7, e13_8, e13_9, e13_10, hst⟩ hM13 ho13 Q100013 n13 zz13
   refine seqQ fun Q281 k281 z281 => sR fun _ k282 => Ym (iV x394) (eh e13_10) (Ym h345.v (eh e13_9) (yY (yLen SL_24 e0 hst rO3) (yY (ylss e0 e0) (wK k282 ?_))))
   rcases iteS hM13 with ⟨c447, hM13⟩ | ⟨c447, hM13⟩
   ·refine cT e0 c447 (wp_skip (k281 _ _ (seqQ fun Q283 k283 z283 => blockQ fun _ qb284 => sR fun _ k285 => Ya (iV 0) rfl (wK k285 (blockQ fun Q286 qb286 => ?_)))))
    obtain ⟨o14, go14, hM13⟩ := bs hM13
    have je14_0 : ∀ (x478 : LI) (x479 : Int) (f : FV) (w : World), f 1 = (pB b7) → f 3 = h8.v → f 5 = iV r20 → f 6 = iV x479 → f 7 = h22.v → f 8 = iV x179 → f 9 = h345.v → f 10 = iV x394 → St w0 ros (box b7 28 [h2.v, h4.v, h6.v] :: row 3 I1 h8.v x478 :: row 22 S1 h22.v r21 :: row 22 S1 h345.v r344 :: rs) w → .inl (x478, x479) = o14 → Q286 (.exit 6) (fr 91 f) w := by
     intro x478 x479 f w eje14_0_1 eje14_0_3 eje14_0_5 eje14_0_6 eje14_0_7 eje14_0_8 eje14_0_9 eje14_0_10 hst ho
     subst ho
     refine qb286 _ _ _ (qb284 _ _ _ (k283 _ _ (wR (Ym (iV x394) (eh eje14_0_10) (yY (yadd e0 rfl) (Ya (iV (wa .i64 x394 1)) e0 (wN ?_)))))))
     obtain rfl := someI hM13
     exact n13 _ _ _ rfl ⟨_, _, _, _, rfl, rfl, eje14_0_1, eje14_0_3, eje14_0_5, eje14_0_6, eje14_0_7, eje14_0_8, eje14_0_9, rfl, hst⟩
    have je14_1 : ∀ (x480 : LI) (f : FV) (w : World), f 2 = h8.v → St w0 ros (row 3 I1 h8.v x480 :: rs) w → .inr x480 = o14 → Q286 .ret (fr 91 f) w := by
     intro x480 f w eje14_1_2 hst ho
     subst ho
     refine qb286 _ _ _ (qb284 _ _ _ (z283 _ _ _ rfl ?_))
     obtain rfl := someI hM13
     exact zz13 _ _ _ _ rfl rfl (je13_1 _ _ _ eje14_1_2 hst (ho13 _ rfl))
    refine loopQ (fun s a w => ∃ (x460 : LI) (x461 x462 : Int) (f : FV), (x460, x461, x462) = s ∧ a = fr 91 f ∧ f 1 = (pB b7) ∧ f 3 = h8.v ∧ f 5 = iV r20 ∧ f 6 = iV x461 ∧ f 7 = h22.v ∧ f 8 = iV x179 ∧ f 9 = h345.v ∧ f 10 = iV x394 ∧ f 11 = iV x462 ∧ St w0 ros (box b7 28 [h2.v, h4.v, h6.v] :: row 3 I1 h8.v x460 :: row 22 S1 h22.v r21 :: row 22 S1 h345.v r344 :: rs) w) go14 ⟨_, _, _, _, rfl, rfl, e13_1, e13_3, e13_5, e13_6, e13_7, e13_8, e13_9, e13_10, rfl, hst⟩ ?_
    rintro _ _ w r14_ ⟨x460, x461, x462, f, rfl, rfl, e14_1, e14_3, e14_5, e14_6, e14_7, e14_8, e14_9, e14_10, e14_11, hst⟩ hM14 ho14 Q100014 n14 zz14
    refine seqQ fun Q303 k303 z303 => sR fun _ k304 => Ym (iV x462) (eh e14_11) (Ym h345.v (eh e14_9) (Ym (iV x394) (eh e14_10) ?_))
    obtain ⟨x481, gx481, hM14⟩ := bs hM14
    refine yY (yIa SL_24 e0 e0 hst rO3 gx481) ?_
    obtain ⟨h482, ch482, hst⟩ := rLs hst rO3 gx481
    refine yY (yCe O_22 e0 ch482 rfl) (yY (yLen SL_22 e0 hst (rdI F0)) (yY (ylss e0 e0) (wK k304 ?_)))
    rcases iteS hM14 with ⟨c483, hM14⟩ | ⟨c483, hM14⟩
    ·refine cT e0 c483 (wp_skip (k303 _ _ (seqQ fun Q305 k305 z305 => blockQ fun _ qb306 => seqQ fun Q307 k307 z307 => sR fun _ k308 => Ym (iV x461) (eh e14_6) (yY (ymul rfl e0) (Ym (iV r20) (eh e14_5) (yY (ygeq e0 e0) (wK k308 ?_)))))))
     rcases iteS hM14 with ⟨c484, hM14⟩ | ⟨c484, hM14⟩
     ·refine cT e0 c484 (sR fun _ k309 => Ym h8.v (eh e14_3) (Ya h8.v e0 (wK k309 (wp_ret (z307 _ _ _ rfl (qb306 _ _ _ (z305 _ _ _ rfl ?_)))))))
      obtain rfl := someI hM14
      exact zz14 _ _ _ _ rfl rfl (je14_1 _ _ _ rfl ((hst.pk 4 [1] rfl).facts (allT allI)) (ho14 _ rfl))
     ·refine cF e0 c484 (wp_skip (k307 _ _ (sR fun _ k310 => Ym h8.v (eh e14_3) (Ym h345.v (eh e14_9) (Ym (iV x394) (eh e14_10) ?_)))))
      obtain ⟨x485, gx485, hM14⟩ := bs hM14
      refine yY (yIa SL_24 e0 e0 hst rO3 gx485) ?_
      obtain ⟨h486, ch486, hst⟩ := rLs hst rO3 gx485
      refine yY (yCe O_22 e0 ch486 rfl) (Ym (iV x462) (eh e14_11) ?_)
      obtain ⟨x487, gx487, hM14⟩ := bs hM14
      refine yY (yIa SL_22 e0 e0 hst (rdI F0) gx487) (yY (yI O_3 e0 hst (rdI F0) gx487) ?_)
      obtain ⟨x488, gx488, hM14⟩ := bs hM14
      refine yY (yIs SL_22 e0 e0 hst rO1 gx488) ?_
      replace hst := hst.pk 2 [1, 0] rfl
      refine YT wn rfl (r_sti (cs := [iV 0]) hst O_3 rfl e0 rfl rfl mkI gx488) ?_
      intro w hst
      refine wK k310 ?_
      obtain ⟨x489, gx489, hM14⟩ := bs hM14
      obtain ⟨x491, gx491, hM14⟩ := bs hM14
      obtain ⟨x492, gx492, hM14⟩ := bs hM14
      refine dR [0, 0, 2, 0, 0, 24, 56, 0, 248, 504, 1022, 2046, 4095, 8191] [13] 1 folM ?_
      replace hst := hst.drew
      refine Dn [0, 1, 2, 3, 4, 5, 6, 7, 8, 9, 10, 11, 12] [] [13] (yR rfl (m_ (iV x461) (eh e14_6)) (yR rfl (yFb FL_28_1 (eh e14_1)) (yR rfl (lb_ h4.v O_22 e0 hst R1) (yR rfl (m_ h345.v (eh e14_9)) (yR rfl (m_ (iV x394) (eh e14_10)) (yR rfl (yIa SL_24 e0 e0 hst rO3 gx489) ?_))))))
      obtain ⟨h490, ch490, hst⟩ := rLs hst rO3 gx489
      refine yR rfl (yCe O_22 e0 ch490 rfl) (yR rfl (m_ (iV x462) (eh e14_11)) (yR rfl (yIa SL_22 e0 e0 hst (rdI F0) gx491) (yR rfl (yI O_3 e0 hst (rdI F0) gx491) (yR rfl (yIa SL_22 e0 e0 hst (rdI (F_3 q2)) gx492) (yR rfl (yI O_3 e0 hst (rdI (F_3 q2)) gx492) (yR rfl (yadd e0 e0) (Rn QSn ?_)))))))
      refine Lc1 rfl ?_
      refine Ly wn (a_ (iV (wa .i64 x461 x492)) e0) (Dz [] [] (Rn QSn (qb306 _ _ _ (k305 _ _ (wR (Ym (iV x462) (eh e14_11) (yY (yadd e0 rfl) (Ya (iV (wa .i64 x462 1)) e0 (wN ?_)))))))))
      obtain rfl := someI hM14
      exact n14 _ _ _ rfl ⟨_, _, _, _, rfl, rfl, e14_1, e14_3, e14_5, rfl, e14_7, e14_8, e14_9, e14_10, rfl, ((hst.pk 4 [1, 0, 0, 0] rfl).facts (allT (allT (allT allI))))⟩
    ·refine cF e0 c483 (wp_exit (z303 _ _ _ rfl ?_))
     obtain rfl := someI hM14
     exact zz14 _ _ _ _ rfl rfl (je14_0 _ _ _ _ e14_1 e14_3 e14_5 e14_6 e14_7 e14_8 e14_9 e14_10 (hst.facts (allT allI)) (ho14 _ rfl))
   ·refine cF e0 c447 (wp_exit (z281 _ _ _ rfl ?_))
    obtain rfl := someI hM13
    exact zz13 _ _ _ _ rfl rfl (je13_0 _ _ _ _ e13_1 e13_3 e13_5 e13_6 e13_7 e13_8 (hst.pk 4 [0, 0, 0] rfl) (ho13 _ rfl))
  ·refine cF e0 c339 (wp_exit (z214 _ _ _ rfl ?_))
   obtain rfl := someI hM10
   exact zz10 _ _ _ _ rfl rfl (je10_0 _ _ _ e10_3 (hst.pk 3 [1] rfl) (ho10 _ rfl))
 refine loopQ (fun s a w => ∃ (x13 : LI) (x14 : Int) (f : FV), (x13, x14) = s ∧ a = fr 91 f ∧ f 1 = (pB b7) ∧ f 3 = h8.v ∧ f 4 = iV x14 ∧ St w0 ros (box b7 28 [h2.v, h4.v, h6.v] :: row 3 I1 h8.v x13 :: rs) w) go1 ⟨_, _, _, rfl, rfl, rfl, rfl, rfl, (hst.pk 2 [1, 0] rfl)⟩ ?_
 rintro _ _ w r1_ ⟨x13, x14, f, rfl, rfl, e1_1, e1_3, e1_4, hst⟩ hM1 ho1 Q100001 n1 zz1
 refine seqQ fun Q311 k311 z311 => sR fun _ k312 => Ym (iV x14) (eh e1_4) (Ym h8.v (eh e1_3) (yY (yLen SL_22 e0 hst rO1) (yY (ylss e0 e0) (wK k312 ?_))))
 rcases iteS hM1 with ⟨c493, hM1⟩ | ⟨c493, hM1⟩
 ·refine cT e0 c493 (wp_skip (k311 _ _ (sQ fun _ k313 => blockQ fun _ qb314 => wR (Ym h8.v (eh e1_3) (Ym (iV x14) (eh e1_4) ?_)))))
  obtain ⟨x494, gx494, hM1⟩ := bs hM1
  refine yY (yIs SL_22 e0 e0 hst rO1 gx494) ?_
  replace hst := hst.pk 2 [1, 0] rfl
  refine YT wn rfl (r_sti (cs := [iV 1]) hst O_3 rfl e0 rfl rfl mkI gx494) ?_
  intro w hst
  refine wN (qb314 _ _ _ (k313 _ _ (wR (Ym (iV x14) (eh e1_4) (yY (yadd e0 rfl) (Ya (iV (wa .i64 x14 1)) e0 (wN ?_)))))))
  obtain rfl := someI hM1
  exact n1 _ _ _ rfl ⟨_, _, _, rfl, rfl, e1_1, e1_3, rfl, (hst.pk 2 [1, 0] rfl)⟩
 ·refine cF e0 c493 (wp_exit (z311 _ _ _ rfl ?_))
  obtain rfl := someI hM1
  exact zz1 _ _ _ _ rfl rfl (je1_0 _ _ _ e1_1 e1_3 hst (ho1 _ rfl))
theorem sparseref18_weightOf_ok {x1 : L2} {x3 : LI} {x5 : L2} {x7 : LI} {x9 : Int} {h2 h4 h6 h8 : Hdr} {out : Int} (hM : sparseref18_weightOf x1 x3 x5 x7 x9 = some out) (q1 : imm S1 h2.v x1 ∈ ros) (q2 : imm I1 h4.v x3 ∈ ros) (q3 : imm S1 h6.v x5 ∈ ros) (q4 : imm I1 h8.v x7 ∈ ros) (hst : St w0 ros rs w) :
  Calls Tryz.prog 76 #[.agg #[h2.v, h4.v, h6.v], h8.v, iV x9] w (fun e w => e = .returned (iV out) ∧ St w0 ros rs w) := by
 refine enterQ Tryz.func76 rfl Tryz.ntmps76 rfl fun Q hQ => sR fun _ k1 => YB wn rfl (r_box (vals := [h2.v, h4.v, h6.v]) hst e0 rfl) ?_
 intro b10 w hst
 refine Ya (iV 0) rfl (wK k1 (sR fun _ k2 => Ya (iV 0) rfl (wK k2 (sQ fun _ k3 => sR fun _ k4 => Ya (iV 0) rfl (wK k4 ?_)))))
 refine blockQ fun Q5 qb5 => ?_
 obtain ⟨o3, go3, hM⟩ := bs hM
 have je3_0 : ∀ (x27 : Int) (f : FV) (w : World), f 7 = iV x27 → St w0 ros rs w → x27 = o3 → Q5 (.exit 0) (fr 29 f) w := by
  intro x27 f w eje3_0_7 hst ho
  subst ho
  refine qb5 _ _ _ (k3 _ _ (sR fun _ k16 => Ym (iV x27) (eh eje3_0_7) (Ya (iV x27) e0 (wK k16 (wp_ret ?_)))))
  obtain rfl := someI hM
  exact hQ _ _ _ (fin1r Tryz.results76 ⟨rfl, rfl⟩ ⟨rfl, hst⟩)
 refine loopQ (fun s a w => ∃ (x17 x18 : Int) (f : FV), (x17, x18) = s ∧ a = fr 29 f ∧ f 1 = h8.v ∧ f 2 = iV x9 ∧ f 3 = (pB b10) ∧ f 7 = iV x17 ∧ f 8 = iV x18 ∧ St w0 ros (box b10 28 [h2.v, h4.v, h6.v] :: rs) w) go3 ⟨_, _, _, rfl, rfl, rfl, rfl, rfl, rfl, rfl, hst⟩ ?_
 rintro _ _ w r3_ ⟨x17, x18, f, rfl, rfl, e3_1, e3_2, e3_3, e3_7, e3_8, hst⟩ hM3 ho3 Q100003 n3 zz3
 refine seqQ fun Q17 k17 z17 => sR fun _ k18 => Ym (iV x18) (eh e3_8) (Ym h8.v (eh e3_1) (yY (yLen SL_22 e0 hst (rdI q4)) (yY (ylss e0 e0) (wK k18 ?_))))
 rcases iteS hM3 with ⟨c28, hM3⟩ | ⟨c28, hM3⟩
 ·refine cT e0 c28 (wp_skip (k17 _ _ (sQ fun _ k19 => blockQ fun Q20 qb20 => sR fun _ k21 => Ym h8.v (eh e3_1) (Ym (iV x18) (eh e3_8) ?_))))
  obtain ⟨x29, gx29, hM3⟩ := bs hM3
  refine yY (yIa SL_22 e0 e0 hst (rdI q4) gx29) (yY (yI O_3 e0 hst (rdI q4) gx29) (Ym (iV x9) (eh e3_2) (yY (yeql e0 e0) (wK k21 ?_))))
  have j4 : ∀ (x31 : Int) (f : FV) (w : World), f 1 = h8.v → f 2 = iV x9 → f 3 = (pB b10) → f 7 = iV x31 → f 8 = iV x18 → St w0 ros (box b10 28 [h2.v, h4.v, h6.v] :: rs) w → sparseref18_weightOf_j4 x18 x31 = some r3_ → Q20 .normal (fr 29 f) w := by
   intro x31 f w ej4_1 ej4_2 ej4_3 ej4_7 ej4_8 hst hM
   refine qb20 _ _ _ (k19 _ _ (wR (Ym (iV x18) (eh ej4_8) (yY (yadd e0 rfl) (Ya (iV (wa .i64 x18 1)) e0 (wN ?_))))))
   obtain rfl := someI hM
   exact n3 _ _ _ rfl ⟨_, _, _, rfl, rfl, ej4_1, ej4_2, ej4_3, ej4_7, rfl, hst⟩
  rcases iteS hM3 with ⟨c32, hM3⟩ | ⟨c32, hM3⟩
  ·refine cT e0 c32 (wR (Ym (iV x17) (eh e3_7) (yY (yFb FL_28_1 (eh e3_3)) (yY (lb_ h4.v O_22 e0 hst R0) (Ym (iV x18) (eh e3_8) ?_)))))
   obtain ⟨x33, gx33, hM3⟩ := bs hM3
   exact yY (yIa SL_22 e0 e0 hst (rdI q2) gx33) (yY (yI O_3 e0 hst (rdI q2) gx33) (yY (yadd e0 e0) (Ya (iV (wa .i64 x17 x33)) e0 (wN (j4 _ _ _ e3_1 e3_2 e3_3 rfl e3_8 hst hM3)))))
  ·exact cF e0 c32 (wp_skip (j4 _ _ _ e3_1 e3_2 e3_3 e3_7 e3_8 hst hM3))
 ·refine cF e0 c28 (wp_exit (z17 _ _ _ rfl ?_))
  obtain rfl := someI hM3
  exact zz3 _ _ _ _ rfl rfl (je3_0 _ _ _ e3_7 (hst.pk 1 [] rfl) (ho3 _ rfl))
theorem sparseref18_Refine_ok {x1 : L2} {x3 : LI} {x5 : L2} {x7 : LI} {h2 h4 h6 h8 : Hdr} {out : LI} (hM : sparseref18_Refine x1 x3 x5 x7 = some out) (q1 : imm S1 h2.v x1 ∈ ros) (q2 : imm I1 h4.v x3 ∈ ros) (q3 : imm S1 h6.v x5 ∈ ros) (q4 : imm I1 h8.v x7 ∈ ros) (hst : St w0 ros rs w) :
  Calls Tryz.prog 44 #[.agg #[h2.v, h4.v, h6.v], h8.v] w (fun e w => ∃ (h100001 : Hdr), e = .returned (h100001.v) ∧ St w0 ros (row 3 I1 h100001.v out :: rs) w) := by
 refine enterQ Tryz.func44 rfl Tryz.ntmps44 rfl fun Q hQ => sR fun _ k1 => YB wn rfl (r_box (vals := [h2.v, h4.v, h6.v]) hst e0 rfl) ?_
 intro b9 w hst
 refine Ya hnil.v rfl (wK k1 (sR fun _ k2 => Ym h8.v e0 ?_))
 obtain ⟨r10, gr10, hM⟩ := bs hM
 refine Yc wn rfl (yCall FN_47 (a1 e0)) (sparsekit_TwinInts_ok gr10 q4 hst) ?_
 rintro _ w ⟨h11, rfl, hst⟩
 refine ⟨_, rfl, ?_⟩
 refine Ya h11.v e0 (wK k2 (sR fun _ k3 => yY (lbs_ [h2.v, h4.v, h6.v] ST_28 e0 hst R1) ?_))
 obtain ⟨r12, gr12, hM⟩ := bs hM
 refine Yc wn rfl (yCall FN_75 (a1 e0)) (sparseref18_Total_ok gr12 q1 q2 q3 hst) ?_
 rintro _ w ⟨rfl, hst⟩
 refine ⟨_, rfl, ?_⟩
 refine Ya (iV r12) e0 (wK k3 (sQ fun _ k4 => sR fun _ k5 => Ya (iV 0) rfl (wK k5 (blockQ fun Q682 qb682 => ?_))))
 obtain ⟨o337, go337, hM⟩ := bs hM
 have je337_0 : ∀ (x3762 : LI) (f : FV) (w : World), f 5 = h11.v → St w0 ros (row 3 I1 h11.v x3762 :: rs) w → x3762 = o337 → Q682 (.exit 0) (fr 106 f) w := by
  intro x3762 f w eje337_0_5 hst ho
  subst ho
  refine qb682 _ _ _ (k4 _ _ (sR fun _ k1133 => Ym h11.v (eh eje337_0_5) (Ya h11.v e0 (wK k1133 (wp_ret ?_)))))
  obtain rfl := someI hM
  exact hQ _ _ _ (fin1r Tryz.results44 ⟨rfl, rfl⟩ ⟨_, rfl, hst⟩)
 refine loopQ (fun s a w => ∃ (x3010 : LI) (x3011 : Int) (f : FV), (x3010, x3011) = s ∧ a = fr 106 f ∧ f 2 = (pB b9) ∧ f 5 = h11.v ∧ f 6 = iV r12 ∧ f 7 = iV x3011 ∧ St w0 ros (box b9 28 [h2.v, h4.v, h6.v] :: row 3 I1 h11.v x3010 :: rs) w) go337 ⟨_, _, _, rfl, rfl, rfl, rfl, rfl, rfl, (hst.pk 2 [1, 0] rfl)⟩ ?_
 rintro _ _ w r337_ ⟨x3010, x3011, f, rfl, rfl, e337_2, e337_5, e337_6, e337_7, hst⟩ hM337 ho337 Q100337 n337 zz337
 refine seqQ fun Q1134 k1134 z1134 => sR fun _ k1135 => Ym (iV x3011) (eh e337_7) (yY (ylss e0 rfl) (wK k1135 ?_))
 rcases iteS hM337 with ⟨c3763, hM337⟩ | ⟨c3763, hM337⟩
 ·refine cT e0 c3763 (wp_skip (k1134 _ _ (seqQ fun Q1136 k1136 z1136 => blockQ fun _ qb1137 => sR fun _ k1138 => Ya (.bool false) rfl (wK k1138 (sQ fun _ k1139 => sR fun _ k1140 => Ya (iV 0) rfl ?_)))))
  refine wK k1140 (blockQ fun Q1141 qb1141 => ?_)
  obtain ⟨o382, go382, hM337⟩ := bs hM337
  have je382_0 : ∀ (x4262 : LI) (x4263 : Bool) (f : FV) (w : World), f 2 = (pB b9) → f 5 = h11.v → f 6 = iV r12 → f 7 = iV x3011 → f 8 = .bool x4263 → St w0 ros (box b9 28 [h2.v, h4.v, h6.v] :: row 3 I1 h11.v x4262 :: rs) w → (x4262, x4263) = o382 → Q1141 (.exit 2) (fr 106 f) w := by
   intro x4262 x4263 f w eje382_0_2 eje382_0_5 eje382_0_6 eje382_0_7 eje382_0_8 hst ho
   subst ho
   refine qb1141 _ _ _ (k1139 _ _ (sR fun _ k1286 => Ym (.bool x4263) (eh eje382_0_8) (yY (ynot e0) (wK k1286 ?_))))
   rcases iteS hM337 with ⟨c4264, hM337⟩ | ⟨c4264, hM337⟩
   ·refine condF e0 (nF c4264) (wp_skip (qb1137 _ _ _ (k1136 _ _ (wR (Ym (iV x3011) (eh eje382_0_7) (yY (yadd e0 rfl) (Ya (iV (wa .i64 x3011 1)) e0 (wN ?_))))))))
    obtain rfl := someI hM337
    exact n337 _ _ _ rfl ⟨_, _, _, rfl, rfl, eje382_0_2, eje382_0_5, eje382_0_6, rfl, hst⟩
   ·refine condT e0 (nT (bfalse c4264)) (wp_exit (qb1137 _ _ _ (z1136 _ _ _ rfl ?_)))
    obtain rfl := someI hM337
    exact zz337 _ _ _ _ rfl rfl (je337_0 _ _ _ eje382_0_5 (hst.pk 2 [1] rfl) (ho337 _ rfl))
  refine loopQ (fun s a w => ∃ (x4010 : LI) (x4011 : Bool) (x4012 : Int) (f : FV), (x4010, x4011, x4012) = s ∧ a = fr 106 f ∧ f 2 = (pB b9) ∧ f 5 = h11.v ∧ f 6 = iV r12 ∧ f 7 = iV x3011 ∧ f 8 = .bool x4011 ∧ f 9 = iV x4012 ∧ St w0 ros (box b9 28 [h2.v, h4.v, h6.v] :: row 3 I1 h11.v x4010 :: rs) w) go382 ⟨_, _, _, _, rfl, rfl, e337_2, e337_5, e337_6, e337_7, rfl, rfl, hst⟩ ?_
  rintro _ _ w r382_ ⟨x4010, x4011, x4012, f, rfl, rfl, e382_2, e382_5, e382_6, e382_7, e382_8, e382_9, hst⟩ hM382 ho382 Q100382 n382 zz382
  refine seqQ fun Q1287 k1287 z1287 => sR fun _ k1288 => Ym (iV x4012) (eh e382_9) (Ym h11.v (eh e382_5) (yY (yLen SL_22 e0 hst rO1) (yY (ylss e0 e0) (wK k1288 ?_))))
  rcases iteS hM382 with ⟨c4265, hM382⟩ | ⟨c4265, hM382⟩
  ·refine cT e0 c4265 (wp_skip (k1287 _ _ (sQ fun Q1289 k1289 => ?_)))
   have j397 : ∀ (x4428 : LI) (x4429 : Bool) (f : FV) (w : World), f 2 = (pB b9) → f 5 = h11.v → f 6 = iV r12 → f 7 = iV x3011 → f 8 = .bool x4429 → f 9 = iV x4012 → St w0 ros (box b9 28 [h2.v, h4.v, h6.v] :: row 3 I1 h11.v x4428 :: rs) w → sparseref18_Refine_j397 x4012 x4428 x4429 = some r382_ → Q1289 .normal (fr 106 f) w := by
    intro x4428 x4429 f w ej397_2 ej397_5 ej397_6 ej397_7 ej397_8 ej397_9 hst hM
    refine k1289 _ _ (wR (Ym (iV x4012) (eh ej397_9) (yY (yadd e0 rfl) (Ya (iV (wa .i64 x4012 1)) e0 (wN ?_)))))
    obtain rfl := someI hM
    exact n382 _ _ _ rfl ⟨_, _, _, _, rfl, rfl, ej397_2, ej397_5, ej397_6, ej397_7, ej397_8, rfl, hst⟩
   refine blockQ fun _ qb1336 => sR fun _ k1337 => Ya (iV 0) rfl (wK k1337 (sQ fun _ k1338 => sR fun _ k1339 => Ya (iV 0) rfl (wK k1339 (blockQ fun Q1340 qb1340 => ?_))))
   obtain ⟨o400, go400, hM382⟩ := bs hM382
   have je400_0 : ∀ (x4478 : Int) (f : FV) (w : World), f 2 = (pB b9) → f 5 = h11.v → f 6 = iV r12 → f 7 = iV x3011 → f 8 = .bool x4011 → f 9 = iV x4012 → f 10 = iV x4478 → St w0 ros (box b9 28 [h2.v, h4.v, h6.v] :: row 3 I1 h11.v x4010 :: rs) w → x4478 = o400 → Q1340 (.exit 4) (fr 106 f) w := by
    intro x4478 f w eje400_0_2 eje400_0_5 eje400_0_6 eje400_0_7 eje400_0_8 eje400_0_9 eje400_0_10 hst ho
    subst ho
    refine qb1340 _ _ _ (k1338 _ _ (seqQ fun Q1351 k1351 z1351 => sQ fun _ k1352 => ?_))
    obtain ⟨r4479, gr4479, hM382⟩ := bs hM382
    refine joinN (n := 106) (fun f w => f 2 = (pB b9) ∧ f 5 = h11.v ∧ f 6 = iV r12 ∧ f 7 = iV x3011 ∧ f 8 = .bool x4011 ∧ f 9 = iV x4012 ∧ f 94 = .bool r4479 ∧ St w0 ros (box b9 28 [h2.v, h4.v, h6.v] :: row 3 I1 h11.v x4010 :: rs) w) (fun j401 => ?_) ?_
    ·rcases iteS gr4479 with ⟨c4482, gr4479⟩ | ⟨c4482, gr4479⟩
     ·have hr402 := someI gr4479
      refine dR [0, 1, 3, 7, 7, 7, 7, 103, 231, 487, 1023, 7, 2055, 7, 14343, 30727, 65535, 131071, 7, 262151, 1048575, 2097151] [10] 1 folM ?_
      replace hst := hst.drew
      refine Dn [0, 1, 2, 3, 4, 5, 6, 7, 8, 9, 11, 12, 13, 14, 15, 18, 19] [] [10] (yR rfl (m_ (iV x4478) (eh eje400_0_10)) (yR rfl (yleq e0 rfl) (yR rfl (m_ (.bool (decide (x4478 ≤ 0))) e0) (Rx rfl rfl (wX (dT c4482)) (Rx rfl rfl (wX (dT c4482)) (Rx rfl rfl (wX (dT c4482)) (Rx rfl rfl (wX (dT c4482)) (Rx rfl rfl (wX (dT c4482)) (Rx rfl rfl (wX (dT c4482)) (Rx rfl rfl (wX (dT c4482)) (Rx rfl rfl (wX (dT c4482)) (Rx rfl rfl (wX (dT c4482)) (Rx rfl rfl (wX (dT c4482)) ?_)))))))))))))
      refine Rx rfl rfl (wX (dT c4482)) (Rx rfl rfl (wX (dT c4482)) (Rx rfl rfl (wX (dT c4482)) (Rx rfl rfl (wX (dT c4482)) (Rn QSn ?_))))
      refine Lc1 rfl ?_
      exact Lx (wX (dT c4482)) (Dz [16, 17, 20, 21] [11, 12, 13, 14, 15, 18, 19] (Rx rfl rfl (wX (dT c4482)) (Rx rfl rfl (wX (dT c4482)) (Rx rfl rfl (wX (dT c4482)) (yR rfl (pt_ (.bool r4479) e0 (dT c4482) (eqv hr402 rfl)) (Rn (Sx_ rfl rfl (wX (dT c4482)) rfl (Sx_ rfl rfl (wX (dT c4482)) rfl (Sx_ rfl rfl (wX (dT c4482)) rfl (Sx_ rfl rfl (wX (dT c4482)) rfl (Sx_ rfl rfl (wX (dT c4482)) rfl (Sx_ rfl rfl (wX (dT c4482)) rfl (Sx_ rfl rfl (wX (dT c4482)) rfl QSn))))))) (j401 _ _ ⟨eje400_0_2, eje400_0_5, eje400_0_6, eje400_0_7, eje400_0_8, eje400_0_9, rfl, hst⟩)))))))
     ·obtain ⟨x4483, gx4483, gr4479⟩ := bs gr4479
      obtain ⟨r4484, gr4484, gr4479⟩ := bs gr4479
      obtain ⟨x4485, gx4485, gr4479⟩ := bs gr4479
      have hr403 := someI gr4479
      refine dR [0, 1, 3, 7, 7, 7, 7, 103, 231, 487, 1023, 7, 2055, 7, 14343, 30727, 65535, 131071, 7, 262151, 1048575, 2097151] [10] 1 folM ?_
      replace hst := hst.drew
      refine Dn [0, 1, 2, 3, 4, 5, 6, 7, 8, 9, 11, 12, 13, 14, 15, 18, 19] [] [10] (yR rfl (m_ (iV x4478) (eh eje400_0_10)) (yR rfl (yleq e0 rfl) (yR rfl (m_ (.bool (decide (x4478 ≤ 0))) e0) (Ry rfl rfl (wG (dF c4482)) (lbs_ [h2.v, h4.v, h6.v] ST_28 (eh eje400_0_2) hst R0) (Ry rfl rfl (wG (dF c4482)) (m_ h11.v (eh eje400_0_5)) (Ry rfl rfl (wG (dF c4482)) (m_ h11.v (eh eje400_0_5)) (Ry rfl rfl (wG (dF c4482)) (m_ (iV x4012) (eh eje400_0_9)) (Ry rfl rfl (wG (dF c4482)) (yIa SL_22 e0 e0 hst rO1 gx4483) (Ry rfl rfl (wG (dF c4482)) (yI O_3 e0 hst rO1 gx4483) (Ry rfl rfl (wG (dF c4482)) (ysub rfl e0) (Ry rfl rfl (wG (dF c4482)) (yFb FL_28_1 (eh eje400_0_2)) (Ry rfl rfl (wG (dF c4482)) (lb_ h4.v O_22 e0 hst R0) (Ry rfl rfl (wG (dF c4482)) (m_ (iV x4012) (eh eje400_0_9)) ?_)))))))))))))
      refine Ry rfl rfl (wG (dF c4482)) (yIa SL_22 e0 e0 hst (rdI q2) gx4485) (Ry rfl rfl (wG (dF c4482)) (yI O_3 e0 hst (rdI q2) gx4485) (Ry rfl rfl (wG (dF c4482)) (m_ (iV r12) (eh eje400_0_6)) (Ry rfl rfl (wG (dF c4482)) (ymul rfl e0) (Rn QSn ?_))))
      refine Lc1 rfl ?_
      have hkp := hst
      replace hst := hst.pk 2 [1, 0] rfl
      replace hst := hst.fz
      have hgu := hst.guest0
      replace hst := hkp
      clear hkp
      refine Lk (wG (dF c4482)) (yCall FN_76 (a3 e0 e0 e0)) (sparseref18_weightOf_ok gr4484 (mtF q1) (mtF q2) (mtF q3) F0 hgu) ?_
      clear hgu
      rintro _ w ⟨rfl, hgu⟩
      replace hst := hst.back hgu
      clear hgu
      refine ⟨_, rfl, ?_⟩
      exact Dz [16, 17, 20, 21] [11, 12, 13, 14, 15, 18, 19] (Ry rfl rfl (wG (dF c4482)) (yadd e0 e0) (Ry rfl rfl (wG (dF c4482)) (ymul rfl e0) (Ry rfl rfl (wG (dF c4482)) (ygtr e0 e0) (yR rfl (pf_ (.bool r4479) e0 (dF c4482) (eqv hr403 e0)) (Rn (Sy rfl rfl (wG (dF c4482)) (yFb FL_28_1 (eh eje400_0_2)) rfl (Sy rfl rfl (wG (dF c4482)) (lb_ h4.v O_22 e0 hst R0) rfl (Sy rfl rfl (wG (dF c4482)) (m_ (iV x4012) (eh eje400_0_9)) rfl (Sy rfl rfl (wG (dF c4482)) (yIa SL_22 e0 e0 hst (rdI q2) gx4485) rfl (Sy rfl rfl (wG (dF c4482)) (yI O_3 e0 hst (rdI q2) gx4485) rfl (Sy rfl rfl (wG (dF c4482)) (m_ (iV r12) (eh eje400_0_6)) rfl (Sy rfl rfl (wG (dF c4482)) (ymul rfl e0) rfl QSn))))))) (j401 _ _ ⟨eje400_0_2, eje400_0_5, eje400_0_6, eje400_0_7, eje400_0_8, eje400_0_9, rfl, hst⟩))))))
    rintro f w ⟨e4480_2, e4480_5, e4480_6, e4480_7, e4480_8, e4480_9, e4480_94, hst⟩
    refine k1352 _ _ ?_
    rcases iteS hM382 with ⟨c4486, hM382⟩ | ⟨c4486, hM382⟩
    ·exact condT (eh e4480_94) c4486 (wp_exit (z1351 _ _ _ rfl (qb1336 _ _ _ (j397 _ _ _ _ e4480_2 e4480_5 e4480_6 e4480_7 e4480_8 e4480_9 hst hM382))))
    ·refine condF (eh e4480_94) (bfalse c4486) (wp_skip (k1351 _ _ (sR fun _ k1353 => Ym h11.v (eh e4480_5) (Ym (iV x4012) (eh e4480_9) (Ym h11.v (eh e4480_5) (Ym (iV x4012) (eh e4480_9) ?_))))))
     obtain ⟨x4487, gx4487, hM382⟩ := bs hM382
     refine yY (yIa SL_22 e0 e0 hst rO1 gx4487) (yY (yI O_3 e0 hst rO1 gx4487) (yY (ysub rfl e0) ?_))
     obtain ⟨x4488, gx4488, hM382⟩ := bs hM382
     refine yY (yIs SL_22 e0 e0 hst rO1 gx4488) ?_
     replace hst := hst.pk 2 [1, 0] rfl
     refine YT wn rfl (r_sti (cs := [iV (ws .i64 1 x4487)]) hst O_3 rfl e0 e0 rfl mkI gx4488) ?_
     intro w hst
     exact wK k1353 (wR (Ya (.bool true) rfl (wN (qb1336 _ _ _ (j397 _ _ _ _ e4480_2 e4480_5 e4480_6 e4480_7 rfl e4480_9 (hst.pk 2 [1, 0] rfl) hM382)))))
   refine loopQ (fun s a w => ∃ (x4452 x4453 : Int) (f : FV), (x4452, x4453) = s ∧ a = fr 106 f ∧ f 2 = (pB b9) ∧ f 5 = h11.v ∧ f 6 = iV r12 ∧ f 7 = iV x3011 ∧ f 8 = .bool x4011 ∧ f 9 = iV x4012 ∧ f 10 = iV x4452 ∧ f 11 = iV x4453 ∧ St w0 ros (box b9 28 [h2.v, h4.v, h6.v] :: row 3 I1 h11.v x4010 :: rs) w) go400 ⟨_, _, _, rfl, rfl, e382_2, e382_5, e382_6, e382_7, e382_8, e382_9, rfl, rfl, hst⟩ ?_
   rintro _ _ w r400_ ⟨x4452, x4453, f, rfl, rfl, e400_2, e400_5, e400_6, e400_7, e400_8, e400_9, e400_10, e400_11, hst⟩ hM400 ho400 Q100400 n400 zz400
   refine seqQ fun Q1354 k1354 z1354 => sR fun _ k1355 => Ym (iV x4453) (eh e400_11) (yY (yFb FL_28_2 (eh e400_2)) (yY (lb_ h6.v O_24 e0 hst R0) (Ym (iV x4012) (eh e400_9) ?_)))
   obtain ⟨x4489, gx4489, hM400⟩ := bs hM400
   refine yY (yIa SL_24 e0 e0 hst (rdI q3) gx4489) ?_
   obtain ⟨h4490, hst⟩ := iLs hst q3 gx4489
   refine yY (yCt O_22 e0 hst F1 rfl) (yY (yLen SL_22 e0 hst (rdI F0)) (yY (ylss e0 e0) (wK k1355 ?_)))
   rcases iteS hM400 with ⟨c4491, hM400⟩ | ⟨c4491, hM400⟩
   ·refine cT e0 c4491 (wp_skip (k1354 _ _ (sQ fun _ k1356 => blockQ fun Q1357 qb1357 => sQ fun _ k1358 => ?_)))
    obtain ⟨x4492, gx4492, hM400⟩ := bs hM400
    obtain ⟨x4494, gx4494, hM400⟩ := bs hM400
    obtain ⟨x4495, gx4495, hM400⟩ := bs hM400
    obtain ⟨x4496, gx4496, hM400⟩ := bs hM400
    refine dR [0, 0, 2, 6, 0, 30, 62, 0, 254, 510, 1023, 2047, 0, 0, 12288, 28672, 65535] [] 0 folM ?_
    replace hst := hst.drew
    refine Dz [0, 1, 2, 3, 4, 5, 6, 7, 8, 9, 10, 11, 12, 13, 14, 15, 16] [] (yR rfl (m_ h11.v (eh e400_5)) (yR rfl (yFb FL_28_0 (eh e400_2)) (yR rfl (yFb FL_26_0 e0) (yR rfl (lb_ h2.v O_24 e0 hst R0) (yR rfl (m_ (iV x4012) (eh e400_9)) (yR rfl (yIa SL_24 e0 e0 hst (rdI (F_2 q1)) gx4492) ?_))))))
    obtain ⟨h4493, hst⟩ := iLs hst (F_2 q1) gx4492
    refine yR rfl (yCt O_22 e0 hst F1 rfl) (yR rfl (m_ (iV x4453) (eh e400_11)) (yR rfl (yIa SL_22 e0 e0 hst (rdI F0) gx4494) (yR rfl (yI O_3 e0 hst (rdI F0) gx4494) (yR rfl (yIa SL_22 e0 e0 hst rO1 gx4495) (yR rfl (yI O_3 e0 hst rO1 gx4495) (yR rfl (m_ h11.v (eh e400_5)) (yR rfl (m_ (iV x4012) (eh e400_9)) (yR rfl (yIa SL_22 e0 e0 hst rO1 gx4496) (yR rfl (yI O_3 e0 hst rO1 gx4496) (yR rfl (yeql e0 e0) (Rn QSn (k1358 _ _ ?_))))))))))))
    have j404 : ∀ (x4503 : Int) (f : FV) (w : World), f 2 = (pB b9) → f 5 = h11.v → f 6 = iV r12 → f 7 = iV x3011 → f 8 = .bool x4011 → f 9 = iV x4012 → f 10 = iV x4503 → f 11 = iV x4453 → St w0 ros (box b9 28 [h2.v, h4.v, h6.v] :: row 3 I1 h11.v x4010 :: rs) w → sparseref18_Refine_j404 x4453 x4503 = some r400_ → Q1357 .normal (fr 106 f) w := by
     intro x4503 f w ej404_2 ej404_5 ej404_6 ej404_7 ej404_8 ej404_9 ej404_10 ej404_11 hst hM
     refine qb1357 _ _ _ (k1356 _ _ (wR (Ym (iV x4453) (eh ej404_11) (yY (yadd e0 rfl) (Ya (iV (wa .i64 x4453 1)) e0 (wN ?_))))))
     obtain rfl := someI hM
     exact n400 _ _ _ rfl ⟨_, _, _, rfl, rfl, ej404_2, ej404_5, ej404_6, ej404_7, ej404_8, ej404_9, ej404_10, rfl, hst⟩
    rcases iteS hM400 with ⟨c4504, hM400⟩ | ⟨c4504, hM400⟩
    ·refine cT e0 c4504 (wR (Ym (iV x4452) (eh e400_10) (yY (yFb FL_28_2 (eh e400_2)) (yY (lb_ h6.v O_24 e0 hst R0) (Ym (iV x4012) (eh e400_9) ?_)))))
     obtain ⟨x4505, gx4505, hM400⟩ := bs hM400
     refine yY (yIa SL_24 e0 e0 hst (rdI (F_4 q3)) gx4505) ?_
     obtain ⟨h4506, hst⟩ := iLs hst (F_4 q3) gx4505
     refine yY (yCt O_22 e0 hst F1 rfl) (Ym (iV x4453) (eh e400_11) ?_)
     obtain ⟨x4507, gx4507, hM400⟩ := bs hM400
     exact yY (yIa SL_22 e0 e0 hst (rdI F0) gx4507) (yY (yI O_3 e0 hst (rdI F0) gx4507) (yY (ysub e0 e0) (Ya (iV (ws .i64 x4452 x4507)) e0 (wN (j404 _ _ _ e400_2 e400_5 e400_6 e400_7 e400_8 e400_9 rfl e400_11 (hst.facts (allT (allT (allT (allT (allT (allT allI))))))) hM400)))))
    ·refine cF e0 c4504 (wR (Ym (iV x4452) (eh e400_10) (yY (yFb FL_28_2 (eh e400_2)) (yY (lb_ h6.v O_24 e0 hst R0) (Ym (iV x4012) (eh e400_9) ?_)))))
     obtain ⟨x4508, gx4508, hM400⟩ := bs hM400
     refine yY (yIa SL_24 e0 e0 hst (rdI (F_4 q3)) gx4508) ?_
     obtain ⟨h4509, hst⟩ := iLs hst (F_4 q3) gx4508
     refine yY (yCt O_22 e0 hst F1 rfl) (Ym (iV x4453) (eh e400_11) ?_)
     obtain ⟨x4510, gx4510, hM400⟩ := bs hM400
     exact yY (yIa SL_22 e0 e0 hst (rdI F0) gx4510) (yY (yI O_3 e0 hst (rdI F0) gx4510) (yY (yadd e0 e0) (Ya (iV (wa .i64 x4452 x4510)) e0 (wN (j404 _ _ _ e400_2 e400_5 e400_6 e400_7 e400_8 e400_9 rfl e400_11 (hst.facts (allT (allT (allT (allT (allT (allT allI))))))) hM400)))))
   ·refine cF e0 c4491 (wp_exit (z1354 _ _ _ rfl ?_))
    obtain rfl := someI hM400
    exact zz400 _ _ _ _ rfl rfl (je400_0 _ _ _ e400_2 e400_5 e400_6 e400_7 e400_8 e400_9 e400_10 (hst.facts (allT (allT allI))) (ho400 _ rfl))
  ·refine cF e0 c4265 (wp_exit (z1287 _ _ _ rfl ?_))
   obtain rfl := someI hM382
   exact zz382 _ _ _ _ rfl rfl (je382_0 _ _ _ _ e382_2 e382_5 e382_6 e382_7 e382_8 hst (ho382 _ rfl))
 ·refine cF e0 c3763 (wp_exit (z1134 _ _ _ rfl ?_))
  obtain rfl := someI hM337
  exact zz337 _ _ _ _ rfl rfl (je337_0 _ _ _ e337_5 (hst.pk 2 [1] rfl) (ho337 _ rfl))
theorem sparseref18_Bisect_step {rec : L2 → LI → L2 → Option (LI × Int)} (hrec : ∀ {w0 : World} {ros : List Fact} {rs : List Res} {w : World} {x1 : L2} {x3 : LI} {x5 : L2} {h2 h4 h6 : Hdr} {out : LI × Int} (hM : rec x1 x3 x5 = some out) (q1 : imm S1 h2.v x1 ∈ ros) (q2 : imm I1 h4.v x3 ∈ ros) (q3 : imm S1 h6.v x5 ∈ ros) (hst : St w0 ros rs w), Calls Tryz.prog 17 #[.agg #[h2.v, h4.v, h6.v]] w (fun e w => ∃ (h100001 : Hdr), e = .returned (.tuple #[h100001.v, iV out.2]) ∧ St w0 ros (row 3 I1 h100001.v out.1 :: rs) w)) {w0 : World} {ros : List Fact} {rs : List Res} {w : World} {x1 : L2} {x3 : LI} {x5 : L2} {h2 h4 h6 : Hdr} {out : LI × Int} (hM : sparseref18_Bisect_body rec x1 x3 x5 = some out) (q1 : imm S1 h2.v x1 ∈ ros) (q2 : imm I1 h4.v x3 ∈ ros) (q3 : imm S1 h6.v x5 ∈ ros) (hst : St w0 ros rs w) :
  Calls Tryz.prog 17 #[.agg #[h2.v, h4.v, h6.v]] w (fun e w => ∃ (h100001 : Hdr), e = .returned (.tuple #[h100001.v, iV out.2]) ∧ St w0 ros (row 3 I1 h100001.v out.1 :: rs) w) := by
 refine enterQ Tryz.func17 rfl Tryz.ntmps17 rfl fun Q hQ => sR fun _ k1 => YB wn rfl (r_box (vals := [h2.v, h4.v, h6.v]) hst e0 rfl) ?_
 intro b7 w hst
 refine Ya hnil.v rfl (Ya (iV 0) rfl (wK k1 (sR fun _ k2 => yY (lbs_ [h2.v, h4.v, h6.v] ST_28 e0 hst R0) ?_)))
 obtain ⟨r8, gr8, hM⟩ := bs hM
 refine Yc wn rfl (yCall FN_12 (a1 e0)) (sparseref18_Match_ok gr8 q1 q2 q3 hst) ?_
 rintro _ w ⟨h9, rfl, hst⟩
 refine ⟨_, rfl, ?_⟩
 refine Ym (.tuple #[h9.v, iV r8.2]) e0 (yY (x_ h9.v e0) (yY (x_ (iV r8.2) e0) (Ya h9.v e0 (Ya (iV r8.2) e0 (wK k2 (seqQ fun Q3 k3 z3 => sR fun _ k4 => Ym (iV r8.2) e0 (yY (yneq e0 rfl) (wK k4 ?_))))))))
 rcases iteS hM with ⟨c10, hM⟩ | ⟨c10, hM⟩
 ·refine condF e0 (nF (dT c10)) (wp_skip (k3 _ _ (sR fun _ k5 => yY (yFb FL_28_1 e0) (yY (lb_ h4.v O_22 e0 hst R1) (yY (yLen SL_22 e0 hst (rdI q2)) (Ya (iV (x3.length : Int)) e0 (wK k5 (seqQ fun Q6 k6 z6 => sR fun _ k7 => ?_))))))))
  refine Ym (iV (x3.length : Int)) e0 (yY (yleq e0 rfl) (wK k7 ?_))
  rcases iteS hM with ⟨c11, hM⟩ | ⟨c11, hM⟩
  ·refine cT e0 c11 (sQ fun _ k8 => ?_)
   obtain ⟨r12, gr12, hM⟩ := bs hM
   obtain ⟨r14, gr14, hM⟩ := bs hM
   refine dR [0, 0, 2, 7, 15, 31] [2, 3, 4, 5] 4 folM ?_
   replace hst := hst.drew
   refine Dn [0, 1] [] [2] (yR rfl (lbs_ [h2.v, h4.v, h6.v] ST_28 e0 hst R1) (yR rfl (lbs_ [h2.v, h4.v, h6.v] ST_28 e0 hst R1) (Rn QSn ?_)))
   refine Lc1 rfl ?_
   refine Lk wn (yCall FN_45 (a1 e0)) (sparseref18_Grow_ok gr12 q1 q2 q3 hst) ?_
   rintro _ w ⟨h13, rfl, hst⟩
   refine ⟨_, rfl, ?_⟩
   refine Dn [] [0] [3] (Rn (yS rfl (lbs_ [h2.v, h4.v, h6.v] ST_28 e0 hst R2) QSn) ?_)
   refine Lc1 rfl ?_
   replace hst := hst.fz
   refine Lk wn (yCall FN_44 (a2 e0 e0)) (sparseref18_Refine_ok gr14 (mtF q1) (mtF q2) (mtF q3) F0 hst) ?_
   rintro _ w ⟨h15, rfl, hst⟩
   refine ⟨_, rfl, ?_⟩
   refine Dn [] [] [4] (Rn QSn ?_)
   refine Lc1 rfl ?_
   refine Ly wn (a_ h15.v e0) (Dn [] [] [5] (Rn QSn ?_))
   refine Lc1 rfl ?_
   refine Ly wn (a_ (iV 0) rfl) (Dz [] [] (Rn QSn (k8 _ _ (wp_ret (z6 _ _ _ rfl ?_)))))
   obtain rfl := someI hM
   exact hQ _ _ _ (fin2r Tryz.results17 ⟨rfl, rfl⟩ ⟨rfl, rfl⟩ ⟨_, rfl, ((hst.pk 3 [0] rfl).facts (allT allI))⟩)
  ·refine cF e0 c11 (wp_skip (k6 _ _ (sR fun _ k9 => yY (lbs_ [h2.v, h4.v, h6.v] ST_28 e0 hst R1) (Ym h9.v e0 ?_))))
   obtain ⟨r16, gr16, hM⟩ := bs hM
   replace hst := hst.fz
   refine Yc wn rfl (yCall FN_15 (a2 e0 e0)) (sparseref18_Coarsen_ok gr16 (mtF q1) (mtF q2) (mtF q3) F0 hst) ?_
   rintro _ w ⟨h17, y18, h19, h20, y21, h22, rfl, hst⟩
   refine ⟨_, rfl, ?_⟩
   refine Ym (.tuple #[.agg #[h17.v, h19.v, h20.v], h22.v, iV r16.2.2.2.2]) e0 (yY (x_ (.agg #[h17.v, h19.v, h20.v]) e0) (yY (x_ h22.v e0) (yY (x_ (iV r16.2.2.2.2) e0) (YB wn rfl (rAl hst ZT_28) ?_))))
   intro b23 w hst
   refine YT wn rfl (r_stbn (vals' := [h17.v, h19.v, h20.v]) (us := [h17.v, h19.v, h20.v]) hst ST_28 e0 e0 rfl rfl (one_of rfl) rfl) ?_
   intro w hst
   refine Ya h22.v e0 (Ya (iV r16.2.2.2.2) e0 (wK k9 (seqQ fun Q10 k10 z10 => sR fun _ k11 => Ym (iV r16.2.2.2.2) e0 (yY (yneq e0 rfl) (wK k11 ?_)))))
   rcases iteS hM with ⟨c24, hM⟩ | ⟨c24, hM⟩
   ·refine condF e0 (nF (dT c24)) (wp_skip (k10 _ _ (seqQ fun Q12 k12 z12 => sR fun _ k13 => yY (yFb FL_28_1 e0) (yY (lb_ h19.v O_22 e0 hst R0) (yY (yLen SL_22 e0 hst rO3) (Ym (iV (x3.length : Int)) e0 (yY (yeql e0 e0) (wK k13 ?_))))))))
    rcases iteS hM with ⟨c25, hM⟩ | ⟨c25, hM⟩
    ·refine cT e0 c25 (sQ fun _ k14 => ?_)
     obtain ⟨r26, gr26, hM⟩ := bs hM
     obtain ⟨r28, gr28, hM⟩ := bs hM
     refine dR [0, 0, 2, 7, 15, 31] [2, 3, 4, 5] 4 folM ?_
     replace hst := hst.drew
     refine Dn [0, 1] [] [2] (yR rfl (lbs_ [h2.v, h4.v, h6.v] ST_28 e0 hst R7) (yR rfl (lbs_ [h2.v, h4.v, h6.v] ST_28 e0 hst R7) (Rn QSn ?_)))
     refine Lc1 rfl ?_
     refine Lk wn (yCall FN_45 (a1 e0)) (sparseref18_Grow_ok gr26 (mtF q1) (mtF q2) (mtF q3) hst) ?_
     rintro _ w ⟨h27, rfl, hst⟩
     refine ⟨_, rfl, ?_⟩
     refine Dn [] [0] [3] (Rn (yS rfl (lbs_ [h2.v, h4.v, h6.v] ST_28 e0 hst R8) QSn) ?_)
     refine Lc1 rfl ?_
     replace hst := hst.fz
     refine Lk wn (yCall FN_44 (a2 e0 e0)) (sparseref18_Refine_ok gr28 (F_2 q1) (F_2 q2) (F_2 q3) F0 hst) ?_
     rintro _ w ⟨h29, rfl, hst⟩
     refine ⟨_, rfl, ?_⟩
     refine Dn [] [] [4] (Rn QSn ?_)
     refine Lc1 rfl ?_
     refine Ly wn (a_ h29.v e0) (Dn [] [] [5] (Rn QSn ?_))
     refine Lc1 rfl ?_
     refine Ly wn (a_ (iV 0) rfl) (Dz [] [] (Rn QSn (k14 _ _ (wp_ret (z12 _ _ _ rfl ?_)))))
     obtain rfl := someI hM
     exact hQ _ _ _ (fin2r Tryz.results17 ⟨rfl, rfl⟩ ⟨rfl, rfl⟩ ⟨_, rfl, ((hst.pk 9 [0] rfl).facts (allT (allT allI)))⟩)
    ·refine cF e0 c25 (wp_skip (k12 _ _ (sR fun _ k15 => yY (lbs_ [h17.v, h19.v, h20.v] ST_28 e0 hst R0) ?_)))
     obtain ⟨r30, gr30, hM⟩ := bs hM
     replace hst := hst.pk 3 [1, 1, 0] rfl
     replace hst := hst.ffz
     replace hst := hst.pk 2 [1, 0] rfl
     replace hst := hst.fz
     replace hst := hst.pk 3 [1, 1, 0] rfl
     replace hst := hst.ffz
     refine Yc wn rfl (yCall FN_17 (a1 e0)) (hrec gr30 F2 F1 F0 hst) ?_
     rintro _ w ⟨h31, rfl, hst⟩
     refine ⟨_, rfl, ?_⟩
     refine Ym (.tuple #[h31.v, iV r30.2]) e0 (yY (x_ h31.v e0) (yY (x_ (iV r30.2) e0) (Ya h31.v e0 (Ya (iV r30.2) e0 (wK k15 (seqQ fun Q16 k16 z16 => sR fun _ k17 => Ym (iV r30.2) e0 (yY (yneq e0 rfl) (wK k17 ?_))))))))
     rcases iteS hM with ⟨c32, hM⟩ | ⟨c32, hM⟩
     ·refine condF e0 (nF (dT c32)) (wp_skip (k16 _ _ (sR fun _ k18 => Ym (iV (x3.length : Int)) e0 ?_)))
      obtain ⟨x35, gx35, hM⟩ := bs hM
      refine YH wn rfl (rMk hst SL_22 e0 gx35) ?_
      intro h33 w hst
      refine Ya h33.v e0 (wK k18 (sQ fun _ k19 => sR fun _ k20 => Ya (iV 0) rfl (wK k20 (blockQ fun Q21 qb21 => ?_))))
      obtain ⟨o1, go1, hM⟩ := bs hM
      have je1_0 : ∀ (x48 : LI) (f : FV) (w : World), f 1 = (pB b7) → f 10 = h33.v → St w0 ros (box b7 28 [h2.v, h4.v, h6.v] :: row 3 I1 h33.v x48 :: rs) w → x48 = o1 → Q21 (.exit 0) (fr 76 f) w := by
       intro x48 f w eje1_0_1 eje1_0_10 hst ho
       subst ho
       refine qb21 _ _ _ (k19 _ _ (sR fun _ k30 => yY (lbs_ [h2.v, h4.v, h6.v] ST_28 (eh eje1_0_1) hst R0) (Ym h33.v (eh eje1_0_10) ?_)))
       obtain ⟨r49, gr49, hM⟩ := bs hM
       replace hst := hst.pk 2 [1, 0] rfl
       replace hst := hst.fz
       refine Yc wn rfl (yCall FN_44 (a2 e0 e0)) (sparseref18_Refine_ok gr49 (mtF q1) (mtF q2) (mtF q3) F0 hst) ?_
       rintro _ w ⟨h50, rfl, hst⟩
       refine ⟨_, rfl, ?_⟩
       refine Ya h50.v e0 (Ya (iV 0) rfl (wK k30 (wp_ret ?_)))
       obtain rfl := someI hM
       exact hQ _ _ _ (fin2r Tryz.results17 ⟨rfl, rfl⟩ ⟨rfl, rfl⟩ ⟨_, rfl, ((hst.pk 2 [0] rfl).facts (allT allI))⟩)
      refine loopQ (fun s a w => ∃ (x40 : LI) (x41 : Int) (f : FV), (x40, x41) = s ∧ a = fr 76 f ∧ f 1 = (pB b7) ∧ f 6 = iV (x3.length : Int) ∧ f 8 = h22.v ∧ f 9 = h31.v ∧ f 10 = h33.v ∧ f 11 = iV x41 ∧ St w0 ros (box b7 28 [h2.v, h4.v, h6.v] :: row 3 I1 h22.v r16.2.2.2.1 :: row 3 I1 h31.v r30.1 :: row 3 I1 h33.v x40 :: rs) w) go1 ⟨_, _, _, rfl, rfl, rfl, rfl, rfl, rfl, rfl, rfl, ((hst.pk 5 [4, 3, 1, 0] rfl).facts (allT (allT (allT (allT allI)))))⟩ ?_
      rintro _ _ w r1_ ⟨x40, x41, f, rfl, rfl, e1_1, e1_6, e1_8, e1_9, e1_10, e1_11, hst⟩ hM1 ho1 Q100001 n1 zz1
      refine seqQ fun Q31 k31 z31 => sR fun _ k32 => Ym (iV x41) (eh e1_11) (Ym (iV (x3.length : Int)) (eh e1_6) (yY (ylss e0 e0) (wK k32 ?_)))
      rcases iteS hM1 with ⟨c51, hM1⟩ | ⟨c51, hM1⟩
      ·refine cT e0 c51 (wp_skip (k31 _ _ (sQ fun _ k33 => blockQ fun _ qb34 => wR (Ym h33.v (eh e1_10) (Ym (iV x41) (eh e1_11) (Ym h31.v (eh e1_9) (Ym h22.v (eh e1_8) (Ym (iV x41) (eh e1_11) ?_))))))))
       obtain ⟨x52, gx52, hM1⟩ := bs hM1
       refine yY (yIa SL_22 e0 e0 hst rO1 gx52) (yY (yI O_3 e0 hst rO1 gx52) ?_)
       obtain ⟨x53, gx53, hM1⟩ := bs hM1
       refine yY (yIa SL_22 e0 e0 hst rO2 gx53) (yY (yI O_3 e0 hst rO2 gx53) ?_)
       obtain ⟨x54, gx54, hM1⟩ := bs hM1
       refine yY (yIs SL_22 e0 e0 hst rO3 gx54) ?_
       replace hst := hst.pk 4 [3, 0, 0, 0] rfl
       refine YT wn rfl (r_sti (cs := [iV x53]) hst O_3 rfl e0 e0 rfl mkI gx54) ?_
       intro w hst
       refine wN (qb34 _ _ _ (k33 _ _ (wR (Ym (iV x41) (eh e1_11) (yY (yadd e0 rfl) (Ya (iV (wa .i64 x41 1)) e0 (wN ?_)))))))
       obtain rfl := someI hM1
       exact n1 _ _ _ rfl ⟨_, _, _, rfl, rfl, e1_1, e1_6, e1_8, e1_9, e1_10, rfl, (hst.pk 4 [1, 1, 1, 0] rfl)⟩
      ·refine cF e0 c51 (wp_exit (z31 _ _ _ rfl ?_))
       obtain rfl := someI hM1
       exact zz1 _ _ _ _ rfl rfl (je1_0 _ _ _ e1_1 e1_10 (hst.pk 4 [0, 2] rfl) (ho1 _ rfl))
     ·refine condT e0 (nT (dF c32)) (sR fun _ k35 => Ym (iV r30.2) e0 (Ya hnil.v rfl (Ya (iV r30.2) e0 (wK k35 (wp_ret (z16 _ _ _ rfl ?_))))))
      obtain rfl := someI hM
      replace hst := hst.rowNh 3 I1
      exact hQ _ _ _ (fin2r Tryz.results17 ⟨rfl, rfl⟩ ⟨rfl, rfl⟩ ⟨_, rfl, ((hst.pk 5 [0] rfl).facts (allT (allT (allT (allT allI)))))⟩)
   ·refine condT e0 (nT (dF c24)) (sR fun _ k36 => Ym (iV r16.2.2.2.2) e0 (Ya hnil.v rfl (Ya (iV r16.2.2.2.2) e0 (wK k36 (wp_ret (z10 _ _ _ rfl ?_))))))
    obtain rfl := someI hM
    replace hst := hst.rowNh 3 I1
    exact hQ _ _ _ (fin2r Tryz.results17 ⟨rfl, rfl⟩ ⟨rfl, rfl⟩ ⟨_, rfl, ((hst.pk 9 [0] rfl).facts (allT allI))⟩)
 ·refine condT e0 (nT (dF c10)) (sR fun _ k37 => Ym (iV r8.2) e0 (Ya hnil.v rfl (Ya (iV r8.2) e0 (wK k37 (wp_ret (z3 _ _ _ rfl ?_))))))
  obtain rfl := someI hM
  replace hst := hst.rowNh 3 I1
  exact hQ _ _ _ (fin2r Tryz.results17 ⟨rfl, rfl⟩ ⟨rfl, rfl⟩ ⟨_, rfl, (hst.pk 3 [0] rfl)⟩)
theorem sparseref18_Bisect_ok_n (n : Nat) : ∀ {w0 : World} {ros : List Fact} {rs : List Res} {w : World} {x1 : L2} {x3 : LI} {x5 : L2} {h2 h4 h6 : Hdr} {out : LI × Int} (hM : sparseref18_Bisect n x1 x3 x5 = some out) (q1 : imm S1 h2.v x1 ∈ ros) (q2 : imm I1 h4.v x3 ∈ ros) (q3 : imm S1 h6.v x5 ∈ ros) (hst : St w0 ros rs w),
  Calls Tryz.prog 17 #[.agg #[h2.v, h4.v, h6.v]] w (fun e w => ∃ (h100001 : Hdr), e = .returned (.tuple #[h100001.v, iV out.2]) ∧ St w0 ros (row 3 I1 h100001.v out.1 :: rs) w) := by
 induction n with
 | zero => intro _ _ _ _ _ _ _ _ _ _ out hM; cases hM
 | succ n ih => exact fun hM q1 q2 q3 hst => sparseref18_Bisect_step (rec := sparseref18_Bisect n) ih (hM := hM) (q1 := q1) (q2 := q2) (q3 := q3) (hst := hst)
theorem sparseref18_Bisect_ok {x1 : L2} {x3 : LI} {x5 : L2} {h2 h4 h6 : Hdr} {out : LI × Int} (hM : sparseref18_Bisect FUEL x1 x3 x5 = some out) (q1 : imm S1 h2.v x1 ∈ ros) (q2 : imm I1 h4.v x3 ∈ ros) (q3 : imm S1 h6.v x5 ∈ ros) (hst : St w0 ros rs w) :
  Calls Tryz.prog 17 #[.agg #[h2.v, h4.v, h6.v]] w (fun e w => ∃ (h100001 : Hdr), e = .returned (.tuple #[h100001.v, iV out.2]) ∧ St w0 ros (row 3 I1 h100001.v out.1 :: rs) w) := sparseref18_Bisect_ok_n FUEL (hM := hM) (q1 := q1) (q2 := q2) (q3 := q3) (hst := hst)
theorem dissect_Cut_1_ok {x1 : Int} {out : Bool} (hM : dissect_Cut_1 x1 = some out) (hst : St w0 ros rs w) :
  Calls Tryz.prog 50 #[iV x1] w (fun e w => e = .returned (.bool out) ∧ St w0 ros rs w) := by
 refine enterQ Tryz.func50 rfl Tryz.ntmps50 rfl fun Q hQ => sR fun _ k1 => Ya (.bool false) rfl (wK k1 (sR fun _ k2 => Ym (iV x1) e0 (yY (yneq e0 rfl) (Ym (.bool (!(decide (x1 = 0)))) e0 ?_))))
 refine joinW 3 (fun f w => f 8 = .bool ((!(decide (x1 = 0))) && (!(decide (x1 = 1)))) ∧ St w0 ros rs w) (fun j1 => ?_) ?_
 ·rcases Bool.eq_false_or_eq_true (!(decide (x1 = 0))) with c3 | c3
  ·exact yG c3 (m_ (iV x1) e0) (yG c3 (yneq e0 rfl) (yY (pt_ (.bool (!(decide (x1 = 1)))) e0 c3 e0) (j1 _ _ ⟨(congrArg Value.bool (andT c3)), hst⟩)))
  ·exact gN c3 (gN c3 (yY (pf_ (.bool false) e0 c3 rfl) (j1 _ _ ⟨(congrArg Value.bool (andF c3)), hst⟩)))
 rintro f w ⟨e2_8, hst⟩
 refine Ya (.bool ((!(decide (x1 = 0))) && (!(decide (x1 = 1))))) (eh e2_8) (wK k2 (wp_ret ?_))
 obtain rfl := someI hM
 exact hQ _ _ _ (fin1r Tryz.results50 ⟨rfl, rfl⟩ ⟨rfl, hst⟩)
end Go.Proofs.YthpeajepbffinaaGreat
