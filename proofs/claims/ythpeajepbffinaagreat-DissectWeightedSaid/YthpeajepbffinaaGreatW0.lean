/- Walks: each function computes its model, printed. -/
import Derived.Test.YthpeajepbffinaaGreatSxP
import Derived.Test.YthpeajepbffinaaGreatTy
import Derived.Test.YthpeajepbffinaaGreatM6
import Derived.Test.YthpeajepbffinaaGreatSxS
namespace Go.Proofs.YthpeajepbffinaaGreat
open Go Sx M
set_option maxRecDepth 100000
set_option maxHeartbeats 40000000
set_option linter.unusedVariables false
attribute [local irreducible] wpList Code.wp Calls DR QR QS LA LS St
variable {w0 : World} {ros : List Fact} {rs : List Res} {w : World}
theorem sparselaw18_smallGraph_ok {x1 : L2} {x3 : Int} {h2 : Hdr} {out : Bool} (hM : sparselaw18_smallGraph x1 x3 = some out) (q1 : imm S1 h2.v x1 ∈ ros) (hst : St w0 ros rs w) :
  Calls Tryz.prog 25 #[.agg #[h2.v], iV x3] w (fun e w => e = .returned (.bool out) ∧ St w0 ros rs w) := by
 refine enterQ Tryz.func25 rfl Tryz.ntmps25 rfl fun Q hQ => sR fun _ k1 => YB wn rfl (r_box (vals := [h2.v]) hst e0 rfl) ?_
 intro b4 w hst
 refine Ya (.bool false) rfl (wK k1 (seqQ fun Q2 k2 z2 => sR fun _ k3 => yY (yFb FL_26_0 e0) (yY (lb_ h2.v O_24 e0 hst R0) (yY (yLen SL_24 e0 hst (rdI q1)) (Ym (iV x3) e0 (yY (ygtr e0 e0) (Ym (.bool (decide (x3 < (x1.length : Int)))) e0 ?_)))))))
 refine joinW 5 (fun f w => f 2 = (pB b4) ∧ f 16 = .bool ((decide (x3 < (x1.length : Int))) && (decide ((x1.length : Int) ≤ 200))) ∧ St w0 ros (box b4 26 [h2.v] :: rs) w) (fun j1 => ?_) ?_
 ·rcases Bool.eq_false_or_eq_true (decide (x3 < (x1.length : Int))) with c6 | c6
  ·exact yG c6 (yFb FL_26_0 e0) (yG c6 (lb_ h2.v O_24 e0 hst R0) (yG c6 (yLen SL_24 e0 hst (rdI q1)) (yG c6 (yleq e0 rfl) (yY (pt_ (.bool (decide ((x1.length : Int) ≤ 200))) e0 c6 e0) (j1 _ _ ⟨rfl, (congrArg Value.bool (andT c6)), hst⟩)))))
  ·exact gN c6 (gN c6 (gN c6 (gN c6 (yY (pf_ (.bool false) e0 c6 rfl) (j1 _ _ ⟨rfl, (congrArg Value.bool (andF c6)), hst⟩)))))
 rintro f w ⟨e5_2, e5_16, hst⟩
 refine Ym (.bool ((decide (x3 < (x1.length : Int))) && (decide ((x1.length : Int) ≤ 200)))) (eh e5_16) ?_
 refine joinW 5 (fun f w => f 2 = (pB b4) ∧ f 22 = .bool (((decide (x3 < (x1.length : Int))) && (decide ((x1.length : Int) ≤ 200))) || (decide ((400 : Int) < (x1.length : Int)))) ∧ St w0 ros (box b4 26 [h2.v] :: rs) w) (fun j2 => ?_) ?_
 ·rcases Bool.eq_false_or_eq_true ((decide (x3 < (x1.length : Int))) && (decide ((x1.length : Int) ≤ 200))) with c8 | c8
  ·exact gN c8 (gN c8 (gN c8 (gN c8 (yY (pt_ (.bool true) e0 c8 rfl) (j2 _ _ ⟨e5_2, (congrArg Value.bool (orT c8)), hst⟩)))))
  ·exact yG c8 (yFb FL_26_0 (eh e5_2)) (yG c8 (lb_ h2.v O_24 e0 hst R0) (yG c8 (yLen SL_24 e0 hst (rdI q1)) (yG c8 (ygtr e0 rfl) (yY (pf_ (.bool (decide ((400 : Int) < (x1.length : Int)))) e0 c8 e0) (j2 _ _ ⟨e5_2, (congrArg Value.bool (orF c8)), hst⟩)))))
 rintro f w ⟨e7_2, e7_22, hst⟩
 refine wK k3 ?_
 rcases iteS hM with ⟨c9, hM⟩ | ⟨c9, hM⟩
 ·refine condT (eh e7_22) c9 (sR fun _ k4 => Ya (.bool false) rfl (wK k4 (wp_ret (z2 _ _ _ rfl ?_))))
  obtain rfl := someI hM
  exact hQ _ _ _ (fin1r Tryz.results25 ⟨rfl, rfl⟩ ⟨rfl, (hst.pk 1 [] rfl)⟩)
 ·refine condF (eh e7_22) (bfalse c9) (wp_skip (k2 _ _ (seqQ fun Q5 k5 z5 => sR fun _ k6 => Ya (iV 0) rfl (wK k6 (blockQ fun Q7 qb7 => ?_)))))
  obtain ⟨o3, go3, hM⟩ := bs hM
  have je3_0 : ∀ (f : FV) (w : World), St w0 ros rs w → .inl () = o3 → Q7 (.exit 0) (fr 37 f) w := by
   intro f w hst ho
   subst ho
   refine qb7 _ _ _ (k5 _ _ (sR fun _ k20 => Ya (.bool true) rfl (wK k20 (wp_ret ?_))))
   obtain rfl := someI hM
   exact hQ _ _ _ (fin1r Tryz.results25 ⟨rfl, rfl⟩ ⟨rfl, hst⟩)
  have je3_1 : ∀ (f : FV) (w : World), f 4 = .bool false → St w0 ros rs w → .inr () = o3 → Q7 .ret (fr 37 f) w := by
   intro f w eje3_1_4 hst ho
   subst ho
   refine qb7 _ _ _ (z5 _ _ _ rfl ?_)
   obtain rfl := someI hM
   exact hQ _ _ _ (fin1r Tryz.results25 ⟨rfl, eje3_1_4⟩ ⟨rfl, hst⟩)
  refine loopQ (fun s a w => ∃ (x14 : Int) (f : FV), x14 = s ∧ a = fr 37 f ∧ f 2 = (pB b4) ∧ f 5 = iV x14 ∧ St w0 ros (box b4 26 [h2.v] :: rs) w) go3 ⟨_, _, rfl, rfl, e7_2, rfl, hst⟩ ?_
  rintro _ _ w r3_ ⟨x14, f, rfl, rfl, e3_2, e3_5, hst⟩ hM3 ho3 Q100003 n3 zz3
  refine seqQ fun Q21 k21 z21 => sR fun _ k22 => Ym (iV x14) (eh e3_5) (yY (yFb FL_26_0 (eh e3_2)) (yY (lb_ h2.v O_24 e0 hst R0) (yY (yLen SL_24 e0 hst (rdI q1)) (yY (ylss e0 e0) (wK k22 ?_)))))
  rcases iteS hM3 with ⟨c20, hM3⟩ | ⟨c20, hM3⟩
  ·refine cT e0 c20 (wp_skip (k21 _ _ (seqQ fun Q23 k23 z23 => blockQ fun _ qb24 => sR fun _ k25 => yY (yFb FL_26_0 (eh e3_2)) (yY (lb_ h2.v O_24 e0 hst R0) (Ym (iV x14) (eh e3_5) ?_)))))
   obtain ⟨x21, gx21, hM3⟩ := bs hM3
   refine yY (yIa SL_24 e0 e0 hst (rdI q1) gx21) ?_
   obtain ⟨h22, hst⟩ := iLs hst q1 gx21
   refine yY (yCt O_22 e0 hst F1 rfl) (yY (yLen SL_22 e0 hst (rdI F0)) (yY (ygtr e0 rfl) (wK k25 ?_)))
   rcases iteS hM3 with ⟨c23, hM3⟩ | ⟨c23, hM3⟩
   ·refine cT e0 c23 (sR fun _ k26 => Ya (.bool false) rfl (wK k26 (wp_ret (qb24 _ _ _ (z23 _ _ _ rfl ?_)))))
    obtain rfl := someI hM3
    exact zz3 _ _ _ _ rfl rfl (je3_1 _ _ rfl ((hst.pk 1 [] rfl).facts (allT (allT allI))) (ho3 _ rfl))
   ·refine cF e0 c23 (wp_skip (qb24 _ _ _ (k23 _ _ (wR (Ym (iV x14) (eh e3_5) (yY (yadd e0 rfl) (Ya (iV (wa .i64 x14 1)) e0 (wN ?_))))))))
    obtain rfl := someI hM3
    exact n3 _ _ _ rfl ⟨_, _, rfl, rfl, e3_2, rfl, (hst.facts (allT (allT allI)))⟩
  ·refine cF e0 c20 (wp_exit (z21 _ _ _ rfl ?_))
   obtain rfl := someI hM3
   exact zz3 _ _ _ _ rfl rfl (je3_0 _ _ (hst.pk 1 [] rfl) (ho3 _ rfl))
theorem sparselaw18_small_ok {x1 : L2} {x3 : LI} {x5 : L2} {h2 h4 h6 : Hdr} {out : Bool} (hM : sparselaw18_small x1 x3 x5 = some out) (q1 : imm S1 h2.v x1 ∈ ros) (q2 : imm I1 h4.v x3 ∈ ros) (q3 : imm S1 h6.v x5 ∈ ros) (hst : St w0 ros rs w) :
  Calls Tryz.prog 19 #[.agg #[h2.v, h4.v, h6.v]] w (fun e w => e = .returned (.bool out) ∧ St w0 ros rs w) := by
 refine enterQ Tryz.func19 rfl Tryz.ntmps19 rfl fun Q hQ => sR fun _ k1 => YB wn rfl (r_box (vals := [h2.v, h4.v, h6.v]) hst e0 rfl) ?_
 intro b7 w hst
 refine Ya (.bool false) rfl (wK k1 (seqQ fun Q2 k2 z2 => sR fun _ k3 => yY (yFb FL_28_0 e0) (yY (lbs_ [h2.v] ST_26 e0 hst R0) ?_)))
 obtain ⟨r8, gr8, hM⟩ := bs hM
 refine Yc wn rfl (yCall FN_25 (a2 e0 rfl)) (sparselaw18_smallGraph_ok gr8 q1 hst) ?_
 rintro _ w ⟨rfl, hst⟩
 refine ⟨_, rfl, ?_⟩
 refine yY (ynot e0) (Ym (.bool (!r8)) e0 ?_)
 refine joinW 5 (fun f w => f 1 = (pB b7) ∧ f 13 = .bool ((!r8) || (decide ((400 : Int) < (x3.length : Int)))) ∧ St w0 ros (box b7 28 [h2.v, h4.v, h6.v] :: rs) w) (fun j1 => ?_) ?_
 ·rcases Bool.eq_false_or_eq_true (!r8) with c10 | c10
  ·exact gN c10 (gN c10 (gN c10 (gN c10 (yY (pt_ (.bool true) e0 c10 rfl) (j1 _ _ ⟨rfl, (congrArg Value.bool (orT c10)), hst⟩)))))
  ·exact yG c10 (yFb FL_28_1 e0) (yG c10 (lb_ h4.v O_22 e0 hst R0) (yG c10 (yLen SL_22 e0 hst (rdI q2)) (yG c10 (ygtr e0 rfl) (yY (pf_ (.bool (decide ((400 : Int) < (x3.length : Int)))) e0 c10 e0) (j1 _ _ ⟨rfl, (congrArg Value.bool (orF c10)), hst⟩)))))
 rintro f w ⟨e9_1, e9_13, hst⟩
 refine Ym (.bool ((!r8) || (decide ((400 : Int) < (x3.length : Int))))) (eh e9_13) ?_
 refine joinW 5 (fun f w => f 1 = (pB b7) ∧ f 19 = .bool (((!r8) || (decide ((400 : Int) < (x3.length : Int)))) || (decide ((400 : Int) < (x5.length : Int)))) ∧ St w0 ros (box b7 28 [h2.v, h4.v, h6.v] :: rs) w) (fun j2 => ?_) ?_
 ·rcases Bool.eq_false_or_eq_true ((!r8) || (decide ((400 : Int) < (x3.length : Int)))) with c12 | c12
  ·exact gN c12 (gN c12 (gN c12 (gN c12 (yY (pt_ (.bool true) e0 c12 rfl) (j2 _ _ ⟨e9_1, (congrArg Value.bool (orT c12)), hst⟩)))))
  ·exact yG c12 (yFb FL_28_2 (eh e9_1)) (yG c12 (lb_ h6.v O_24 e0 hst R0) (yG c12 (yLen SL_24 e0 hst (rdI q3)) (yG c12 (ygtr e0 rfl) (yY (pf_ (.bool (decide ((400 : Int) < (x5.length : Int)))) e0 c12 e0) (j2 _ _ ⟨e9_1, (congrArg Value.bool (orF c12)), hst⟩)))))
 rintro f w ⟨e11_1, e11_19, hst⟩
 refine wK k3 ?_
 rcases iteS hM with ⟨c13, hM⟩ | ⟨c13, hM⟩
 ·refine condT (eh e11_19) c13 (sR fun _ k4 => Ya (.bool false) rfl (wK k4 (wp_ret (z2 _ _ _ rfl ?_))))
  obtain rfl := someI hM
  exact hQ _ _ _ (fin1r Tryz.results19 ⟨rfl, rfl⟩ ⟨rfl, (hst.pk 1 [] rfl)⟩)
 ·refine condF (eh e11_19) (bfalse c13) (wp_skip (k2 _ _ (seqQ fun Q5 k5 z5 => sR fun _ k6 => Ya (iV 0) rfl (wK k6 (blockQ fun Q7 qb7 => ?_)))))
  obtain ⟨o3, go3, hM⟩ := bs hM
  have je3_0 : ∀ (f : FV) (w : World), St w0 ros rs w → .inl () = o3 → Q7 (.exit 0) (fr 34 f) w := by
   intro f w hst ho
   subst ho
   refine qb7 _ _ _ (k5 _ _ (sR fun _ k20 => Ya (.bool true) rfl (wK k20 (wp_ret ?_))))
   obtain rfl := someI hM
   exact hQ _ _ _ (fin1r Tryz.results19 ⟨rfl, rfl⟩ ⟨rfl, hst⟩)
  have je3_1 : ∀ (f : FV) (w : World), f 2 = .bool false → St w0 ros rs w → .inr () = o3 → Q7 .ret (fr 34 f) w := by
   intro f w eje3_1_2 hst ho
   subst ho
   refine qb7 _ _ _ (z5 _ _ _ rfl ?_)
   obtain rfl := someI hM
   exact hQ _ _ _ (fin1r Tryz.results19 ⟨rfl, eje3_1_2⟩ ⟨rfl, hst⟩)
  refine loopQ (fun s a w => ∃ (x18 : Int) (f : FV), x18 = s ∧ a = fr 34 f ∧ f 1 = (pB b7) ∧ f 3 = iV x18 ∧ St w0 ros (box b7 28 [h2.v, h4.v, h6.v] :: rs) w) go3 ⟨_, _, rfl, rfl, e11_1, rfl, hst⟩ ?_
  rintro _ _ w r3_ ⟨x18, f, rfl, rfl, e3_1, e3_3, hst⟩ hM3 ho3 Q100003 n3 zz3
  refine seqQ fun Q21 k21 z21 => sR fun _ k22 => Ym (iV x18) (eh e3_3) (yY (yFb FL_28_2 (eh e3_1)) (yY (lb_ h6.v O_24 e0 hst R0) (yY (yLen SL_24 e0 hst (rdI q3)) (yY (ylss e0 e0) (wK k22 ?_)))))
  rcases iteS hM3 with ⟨c24, hM3⟩ | ⟨c24, hM3⟩
  ·refine cT e0 c24 (wp_skip (k21 _ _ (seqQ fun Q23 k23 z23 => blockQ fun _ qb24 => sR fun _ k25 => yY (yFb FL_28_2 (eh e3_1)) (yY (lb_ h6.v O_24 e0 hst R0) (Ym (iV x18) (eh e3_3) ?_)))))
   obtain ⟨x25, gx25, hM3⟩ := bs hM3
   refine yY (yIa SL_24 e0 e0 hst (rdI q3) gx25) ?_
   obtain ⟨h26, hst⟩ := iLs hst q3 gx25
   refine yY (yCt O_22 e0 hst F1 rfl) (yY (yLen SL_22 e0 hst (rdI F0)) (yY (ygtr e0 rfl) (wK k25 ?_)))
   rcases iteS hM3 with ⟨c27, hM3⟩ | ⟨c27, hM3⟩
   ·refine cT e0 c27 (sR fun _ k26 => Ya (.bool false) rfl (wK k26 (wp_ret (qb24 _ _ _ (z23 _ _ _ rfl ?_)))))
    obtain rfl := someI hM3
    exact zz3 _ _ _ _ rfl rfl (je3_1 _ _ rfl ((hst.pk 1 [] rfl).facts (allT (allT allI))) (ho3 _ rfl))
   ·refine cF e0 c27 (wp_skip (qb24 _ _ _ (k23 _ _ (wR (Ym (iV x18) (eh e3_3) (yY (yadd e0 rfl) (Ya (iV (wa .i64 x18 1)) e0 (wN ?_))))))))
    obtain rfl := someI hM3
    exact n3 _ _ _ rfl ⟨_, _, rfl, rfl, e3_1, rfl, (hst.facts (allT (allT allI)))⟩
  ·refine cF e0 c24 (wp_exit (z21 _ _ _ rfl ?_))
   obtain rfl := someI hM3
   exact zz3 _ _ _ _ rfl rfl (je3_0 _ _ (hst.pk 1 [] rfl) (ho3 _ rfl))
theorem graph_ascending_ok {x1 : LI} {x3 : Int} {h2 : Hdr} {out : Bool} (hM : graph_ascending x1 x3 = some out) (q1 : imm I1 h2.v x1 ∈ ros) (hst : St w0 ros rs w) :
  Calls Tryz.prog 81 #[h2.v, iV x3] w (fun e w => e = .returned (.bool out) ∧ St w0 ros rs w) := by
 refine enterQ Tryz.func81 rfl Tryz.ntmps81 rfl fun Q hQ => sR fun _ k1 => Ya (.bool false) rfl (wK k1 (sR fun _ k2 => Ya (iV (-1)) rfl (wK k2 (seqQ fun Q3 k3 z3 => sR fun _ k4 => ?_))))
 refine Ym h2.v e0 (yY (yLen SL_22 e0 hst (rdI q1)) (Ym (iV 0) rfl (wK k4 (blockQ fun Q5 qb5 => ?_))))
 obtain ⟨o3, go3, hM⟩ := bs hM
 have je3_0 : ∀ (f : FV) (w : World), St w0 ros rs w → .inl () = o3 → Q5 (.exit 0) (fr 24 f) w := by
  intro f w hst ho
  subst ho
  refine qb5 _ _ _ (k3 _ _ (sR fun _ k22 => Ya (.bool true) rfl (wK k22 (wp_ret ?_))))
  obtain rfl := someI hM
  exact hQ _ _ _ (fin1r Tryz.results81 ⟨rfl, rfl⟩ ⟨rfl, hst⟩)
 have je3_1 : ∀ (f : FV) (w : World), f 4 = .bool false → St w0 ros rs w → .inr () = o3 → Q5 .ret (fr 24 f) w := by
  intro f w eje3_1_4 hst ho
  subst ho
  refine qb5 _ _ _ (z3 _ _ _ rfl ?_)
  obtain rfl := someI hM
  exact hQ _ _ _ (fin1r Tryz.results81 ⟨rfl, eje3_1_4⟩ ⟨rfl, hst⟩)
 refine loopQ (fun s a w => ∃ (x9 x10 : Int) (f : FV), (x9, x10) = s ∧ a = fr 24 f ∧ f 1 = iV x3 ∧ f 5 = iV x9 ∧ f 8 = h2.v ∧ f 9 = iV (x1.length : Int) ∧ f 10 = iV x10 ∧ St w0 ros rs w) go3 ⟨_, _, _, rfl, rfl, rfl, rfl, rfl, rfl, rfl, hst⟩ ?_
 rintro _ _ w r3_ ⟨x9, x10, f, rfl, rfl, e3_1, e3_5, e3_8, e3_9, e3_10, hst⟩ hM3 ho3 Q100003 n3 zz3
 refine sR fun _ k23 => yY (ylss (eh e3_10) (eh e3_9)) (wK k23 (seqQ fun Q24 k24 z24 => ?_))
 rcases iteS hM3 with ⟨c18, hM3⟩ | ⟨c18, hM3⟩
 ·refine cT e0 c18 (wp_skip (k24 _ _ (seqQ fun Q25 k25 z25 => blockQ fun _ qb26 => sR fun _ k27 => ?_)))
  obtain ⟨x19, gx19, hM3⟩ := bs hM3
  refine yY (yIa SL_22 (eh e3_8) (eh e3_10) hst (rdI q1) gx19) (yY (yI O_3 e0 hst (rdI q1) gx19) (Ya (iV x19) e0 (wK k27 (seqQ fun Q28 k28 z28 => sR fun _ k29 => Ym (iV x19) e0 (Ym (iV x9) (eh e3_5) (yY (yleq e0 e0) (Ym (.bool (decide (x19 ≤ x9))) e0 ?_)))))))
  refine joinW 4 (fun f w => f 1 = iV x3 ∧ f 7 = iV x19 ∧ f 8 = h2.v ∧ f 9 = iV (x1.length : Int) ∧ f 10 = iV x10 ∧ f 21 = .bool ((decide (x19 ≤ x9)) || (decide (x3 ≤ x19))) ∧ St w0 ros rs w) (fun j4 => ?_) ?_
  ·rcases Bool.eq_false_or_eq_true (decide (x19 ≤ x9)) with c21 | c21
   ·exact gN c21 (gN c21 (gN c21 (yY (pt_ (.bool true) e0 c21 rfl) (j4 _ _ ⟨e3_1, rfl, e3_8, e3_9, e3_10, (congrArg Value.bool (orT c21)), hst⟩))))
   ·exact yG c21 (m_ (iV x19) e0) (yG c21 (m_ (iV x3) (eh e3_1)) (yG c21 (ygeq e0 e0) (yY (pf_ (.bool (decide (x3 ≤ x19))) e0 c21 e0) (j4 _ _ ⟨e3_1, rfl, e3_8, e3_9, e3_10, (congrArg Value.bool (orF c21)), hst⟩))))
  rintro f w ⟨e20_1, e20_7, e20_8, e20_9, e20_10, e20_21, hst⟩
  refine wK k29 ?_
  rcases iteS hM3 with ⟨c22, hM3⟩ | ⟨c22, hM3⟩
  ·refine condT (eh e20_21) c22 (sR fun _ k30 => Ya (.bool false) rfl (wK k30 (wp_ret (z28 _ _ _ rfl (qb26 _ _ _ (z25 _ _ _ rfl ?_))))))
   obtain rfl := someI hM3
   exact zz3 _ _ _ _ rfl rfl (je3_1 _ _ rfl hst (ho3 _ rfl))
  ·refine condF (eh e20_21) (bfalse c22) (wp_skip (k28 _ _ (wR (Ym (iV x19) (eh e20_7) (Ya (iV x19) e0 (wN (qb26 _ _ _ (k25 _ _ (wR (yY (yadd (eh e20_10) rfl) (Ym (iV (wa .i64 x10 1)) e0 (wN ?_))))))))))))
   obtain rfl := someI hM3
   exact n3 _ _ _ rfl ⟨_, _, _, rfl, rfl, e20_1, rfl, e20_8, e20_9, rfl, hst⟩
 ·refine cF e0 c18 (wp_exit (z24 _ _ _ rfl ?_))
  obtain rfl := someI hM3
  exact zz3 _ _ _ _ rfl rfl (je3_0 _ _ hst (ho3 _ rfl))
theorem cmp_isNaN_int_ok {x1 : Int} {out : Bool} (hM : cmp_isNaN_int x1 = some out) (hst : St w0 ros rs w) :
  Calls Tryz.prog 120 #[iV x1] w (fun e w => e = .returned (.bool out) ∧ St w0 ros rs w) := by
 refine enterQ Tryz.func120 rfl Tryz.ntmps120 rfl fun Q hQ => sR fun _ k1 => Ya (.bool false) rfl (wK k1 (sR fun _ k2 => Ym (iV x1) e0 (Ym (iV x1) e0 (yY (yneq e0 e0) (Ya (.bool (!(decide (x1 = x1)))) e0 (wK k2 ?_))))))
 refine wp_ret ?_
 obtain rfl := someI hM
 exact hQ _ _ _ (fin1r Tryz.results120 ⟨rfl, rfl⟩ ⟨rfl, hst⟩)
theorem cmp_Less_int_ok {x1 x2 : Int} {out : Bool} (hM : cmp_Less_int x1 x2 = some out) (hst : St w0 ros rs w) :
  Calls Tryz.prog 101 #[iV x1, iV x2] w (fun e w => e = .returned (.bool out) ∧ St w0 ros rs w) := by
 refine enterQ Tryz.func101 rfl Tryz.ntmps101 rfl fun Q hQ => sR fun _ k1 => Ya (.bool false) rfl (wK k1 (sR fun _ k2 => Ym (iV x1) e0 ?_))
 obtain ⟨r3, gr3, hM⟩ := bs hM
 refine Yc wn rfl (yCall FN_120 (a1 e0)) (cmp_isNaN_int_ok gr3 hst) ?_
 rintro _ w ⟨rfl, hst⟩
 refine ⟨_, rfl, ?_⟩
 refine Ym (.bool r3) e0 ?_
 obtain ⟨r5, gr5, hM⟩ := bs hM
 refine joinW 4 (fun f w => f 0 = iV x1 ∧ f 1 = iV x2 ∧ f 11 = .bool r5 ∧ St w0 ros rs w) (fun j1 => ?_) ?_
 ·rcases iteS gr5 with ⟨c7, gr5⟩ | ⟨c7, gr5⟩
  ·refine yG c7 (m_ (iV x2) e0) ?_
   obtain ⟨r8, gr8, gr5⟩ := bs gr5
   refine Yc (wG c7) rfl (yCall FN_120 (a1 e0)) (cmp_isNaN_int_ok gr8 hst) ?_
   rintro _ w ⟨rfl, hst⟩
   refine ⟨_, rfl, ?_⟩
   refine yG c7 (ynot e0) (yY (pt_ (.bool (!r8)) e0 c7 e0) ?_)
   obtain rfl := someI gr5
   exact j1 _ _ ⟨rfl, rfl, rfl, hst⟩
  ·refine gN (bfalse c7) (gN (bfalse c7) (gN (bfalse c7) (yY (pf_ (.bool false) e0 (bfalse c7) rfl) ?_)))
   obtain rfl := someI gr5
   exact j1 _ _ ⟨rfl, rfl, rfl, hst⟩
 rintro f w ⟨e6_0, e6_1, e6_11, hst⟩
 refine Ym (.bool r5) (eh e6_11) ?_
 refine joinW 4 (fun f w => f 16 = .bool (r5 || (decide (x1 < x2))) ∧ St w0 ros rs w) (fun j2 => ?_) ?_
 ·rcases Bool.eq_false_or_eq_true r5 with c10 | c10
  ·exact gN c10 (gN c10 (gN c10 (yY (pt_ (.bool true) e0 c10 rfl) (j2 _ _ ⟨(congrArg Value.bool (orT c10)), hst⟩))))
  ·exact yG c10 (m_ (iV x1) (eh e6_0)) (yG c10 (m_ (iV x2) (eh e6_1)) (yG c10 (ylss e0 e0) (yY (pf_ (.bool (decide (x1 < x2))) e0 c10 e0) (j2 _ _ ⟨(congrArg Value.bool (orF c10)), hst⟩))))
 rintro f w ⟨e9_16, hst⟩
 refine Ya (.bool (r5 || (decide (x1 < x2)))) (eh e9_16) (wK k2 (wp_ret ?_))
 obtain rfl := someI hM
 exact hQ _ _ _ (fin1r Tryz.results101 ⟨rfl, rfl⟩ ⟨rfl, hst⟩)
theorem slices_isNaN_int_ok {x1 : Int} {out : Bool} (hM : slices_isNaN_int x1 = some out) (hst : St w0 ros rs w) :
  Calls Tryz.prog 102 #[iV x1] w (fun e w => e = .returned (.bool out) ∧ St w0 ros rs w) := by
 refine enterQ Tryz.func102 rfl Tryz.ntmps102 rfl fun Q hQ => sR fun _ k1 => Ya (.bool false) rfl (wK k1 (sR fun _ k2 => Ym (iV x1) e0 (Ym (iV x1) e0 (yY (yneq e0 e0) (Ya (.bool (!(decide (x1 = x1)))) e0 (wK k2 ?_))))))
 refine wp_ret ?_
 obtain rfl := someI hM
 exact hQ _ _ _ (fin1r Tryz.results102 ⟨rfl, rfl⟩ ⟨rfl, hst⟩)
theorem slices_BinarySearch_int_ok {x1 : LI} {x3 : Int} {h2 : Hdr} {out : Int × Bool} (hM : slices_BinarySearch_int x1 x3 = some out) (q1 : imm I1 h2.v x1 ∈ ros) (hst : St w0 ros rs w) :
  Calls Tryz.prog 84 #[h2.v, iV x3] w (fun e w => e = .returned (.tuple #[iV out.1, .bool out.2]) ∧ St w0 ros rs w) := by
 refine enterQ Tryz.func84 rfl Tryz.ntmps84 rfl fun Q hQ => sR fun _ k1 => Ya (iV 0) rfl (Ya (.bool false) rfl (wK k1 (sR fun _ k2 => Ym h2.v e0 (yY (yLen SL_22 e0 hst (rdI q1)) (Ya (iV (x1.length : Int)) e0 (wK k2 ?_))))))
 refine sR fun _ k3 => Ym (iV (x1.length : Int)) e0 (Ya (iV 0) rfl (Ya (iV (x1.length : Int)) e0 (wK k3 (sQ fun _ k4 => blockQ fun Q5 qb5 => ?_))))
 obtain ⟨o3, go3, hM⟩ := bs hM
 have je3_0 : ∀ (x20 : Int) (f : FV) (w : World), f 0 = h2.v → f 1 = iV x3 → f 6 = iV (x1.length : Int) → f 7 = iV x20 → St w0 ros rs w → x20 = o3 → Q5 (.exit 0) (fr 54 f) w := by
  intro x20 f w eje3_0_0 eje3_0_1 eje3_0_6 eje3_0_7 hst ho
  subst ho
  refine qb5 _ _ _ (k4 _ _ (sR fun _ k16 => Ym (iV x20) (eh eje3_0_7) (Ym (iV x20) (eh eje3_0_7) (Ym (iV (x1.length : Int)) (eh eje3_0_6) (yY (ylss e0 e0) (Ym (.bool (decide (x20 < (x1.length : Int)))) e0 ?_))))))
  obtain ⟨r39, gr39, hM⟩ := bs hM
  refine joinW 18 (fun f w => f 31 = iV x20 ∧ f 53 = .bool r39 ∧ St w0 ros rs w) (fun j7 => ?_) ?_
  ·rcases iteS gr39 with ⟨c41, gr39⟩ | ⟨c41, gr39⟩
   ·refine yG (dT c41) (m_ h2.v (eh eje3_0_0)) (yG (dT c41) (m_ (iV x20) (eh eje3_0_7)) ?_)
    obtain ⟨x42, gx42, gr39⟩ := bs gr39
    refine yG (dT c41) (yIa SL_22 e0 e0 hst (rdI q1) gx42) (yG (dT c41) (yI O_3 e0 hst (rdI q1) gx42) (yG (dT c41) (m_ (iV x3) (eh eje3_0_1)) (yG (dT c41) (yeql e0 e0) (yG (dT c41) (m_ (.bool (decide (x42 = x3))) e0) ?_))))
    obtain ⟨r50, gr50, gr39⟩ := bs gr39
    refine joinW 10 (fun f w => f 31 = iV x20 ∧ f 35 = .bool (decide (x20 < (x1.length : Int))) ∧ f 52 = .bool r50 ∧ St w0 ros rs w) (fun j9 => ?_) ?_
    ·rcases iteS gr50 with ⟨c52, gr50⟩ | ⟨c52, gr50⟩
     ·refine gN (dT c52) (gN (dT c52) (gN (dT c52) (gN (dT c52) (gN (dT c52) (gN (dT c52) (Gn (wxu rfl rfl rfl) rfl (Gn (wxu rfl rfl rfl) rfl (gN (dT c52) (yG (dT c41) (pt_ (.bool true) e0 (dT c52) rfl) ?_)))))))))
      obtain rfl := someI gr50
      exact j9 _ _ ⟨rfl, rfl, rfl, hst⟩
     ·refine yG (dF c52) (m_ h2.v (eh eje3_0_0)) (yG (dF c52) (m_ (iV x20) (eh eje3_0_7)) ?_)
      obtain ⟨x53, gx53, gr50⟩ := bs gr50
      refine yG (dF c52) (yIa SL_22 e0 e0 hst (rdI q1) gx53) (yG (dF c52) (yI O_3 e0 hst (rdI q1) gx53) ?_)
      obtain ⟨r54, gr54, gr50⟩ := bs gr50
      refine Yc (wG (dF c52)) rfl (yCall FN_102 (a1 e0)) (slices_isNaN_int_ok gr54 hst) ?_
      rintro _ w ⟨rfl, hst⟩
      refine ⟨_, rfl, ?_⟩
      refine yG (dF c52) (m_ (.bool r54) e0) ?_
      obtain ⟨r56, gr56, gr50⟩ := bs gr50
      refine joinW 3 (fun f w => f 31 = iV x20 ∧ f 35 = .bool (decide (x20 < (x1.length : Int))) ∧ f 42 = .bool (decide (x42 = x3)) ∧ f 51 = .bool r56 ∧ St w0 ros rs w) (fun j10 => ?_) ?_
      ·rcases iteS gr56 with ⟨c58, gr56⟩ | ⟨c58, gr56⟩
       ·refine yG c58 (m_ (iV x3) (eh eje3_0_1)) ?_
        obtain ⟨r59, gr59, gr56⟩ := bs gr56
        refine Yc (wG c58) rfl (yCall FN_102 (a1 e0)) (slices_isNaN_int_ok gr59 hst) ?_
        rintro _ w ⟨rfl, hst⟩
        refine ⟨_, rfl, ?_⟩
        refine yG (dF c52) (pt_ (.bool r59) e0 c58 e0) ?_
        obtain rfl := someI gr56
        exact j10 _ _ ⟨rfl, rfl, rfl, rfl, hst⟩
       ·refine gN (bfalse c58) (gN (bfalse c58) (yG (dF c52) (pf_ (.bool false) e0 (bfalse c58) rfl) ?_))
        obtain rfl := someI gr56
        exact j10 _ _ ⟨rfl, rfl, rfl, rfl, hst⟩
      rintro f w ⟨e57_31, e57_35, e57_42, e57_51, hst⟩
      refine Y (wg rfl rfl e57_35 (dT c41)) rfl (pf_ (.bool r56) (eh e57_42) (dF c52) (eh e57_51)) ?_
      obtain rfl := someI gr50
      exact j9 _ _ ⟨e57_31, e57_35, rfl, hst⟩
    rintro f w ⟨e51_31, e51_35, e51_52, hst⟩
    refine yY (pt_ (.bool r50) (eh e51_35) (dT c41) (eh e51_52)) ?_
    obtain rfl := someI gr39
    exact j7 _ _ ⟨e51_31, rfl, hst⟩
   ·refine gN (dF c41) (gN (dF c41) (gN (dF c41) (gN (dF c41) (gN (dF c41) (gN (dF c41) (gN (dF c41) (Gn (wxu rfl rfl rfl) rfl (Gn (wxu rfl rfl rfl) rfl (Gn (wxu rfl rfl rfl) rfl (Gn (wxu rfl rfl rfl) rfl (Gn (wxu rfl rfl rfl) rfl (Gn (wxu rfl rfl rfl) rfl (Gn (wxu rfl rfl rfl) rfl ?_)))))))))))))
    refine Gn (wxu rfl rfl rfl) rfl (Gn (wxu rfl rfl rfl) rfl (gN (dF c41) (yY (pf_ (.bool false) e0 (dF c41) rfl) ?_)))
    obtain rfl := someI gr39
    exact j7 _ _ ⟨rfl, rfl, hst⟩
  rintro f w ⟨e40_31, e40_53, hst⟩
  refine Ya (iV x20) (eh e40_31) (Ya (.bool r39) (eh e40_53) (wK k16 (wp_ret ?_)))
  obtain rfl := someI hM
  exact hQ _ _ _ (fin2r Tryz.results84 ⟨rfl, rfl⟩ ⟨rfl, rfl⟩ ⟨rfl, hst⟩)
 refine loopQ (fun s a w => ∃ (x10 x11 : Int) (f : FV), (x10, x11) = s ∧ a = fr 54 f ∧ f 0 = h2.v ∧ f 1 = iV x3 ∧ f 6 = iV (x1.length : Int) ∧ f 7 = iV x10 ∧ f 8 = iV x11 ∧ St w0 ros rs w) go3 ⟨_, _, _, rfl, rfl, rfl, rfl, rfl, rfl, rfl, hst⟩ ?_
 rintro _ _ w r3_ ⟨x10, x11, f, rfl, rfl, e3_0, e3_1, e3_6, e3_7, e3_8, hst⟩ hM3 ho3 Q100003 n3 zz3
 refine seqQ fun Q17 k17 z17 => sR fun _ k18 => Ym (iV x10) (eh e3_7) (Ym (iV x11) (eh e3_8) (yY (ylss e0 e0) (wK k18 ?_)))
 rcases iteS hM3 with ⟨c60, hM3⟩ | ⟨c60, hM3⟩
 ·refine cT e0 c60 (wp_skip (k17 _ _ (blockQ fun Q19 qb19 => sR fun _ k20 => Ym (iV x10) (eh e3_7) (Ym (iV x11) (eh e3_8) (yY (yadd e0 e0) (yY (ycv (k' := .u64) (by kernel_rfl) (by kernel_rfl) e0) (yY (yshrc e0 rfl) (yY (ycv (k' := .i64) (by kernel_rfl) (by kernel_rfl) e0) (Ya (iV (wc .i64 (wsrc .u64 (wc .u64 (wa .i64 x10 x11)) 1))) e0 (wN ?_))))))))))
  refine k20 _ _ (sR fun _ k21 => Ym h2.v (eh e3_0) (Ym (iV (wc .i64 (wsrc .u64 (wc .u64 (wa .i64 x10 x11)) 1))) e0 ?_))
  obtain ⟨x61, gx61, hM3⟩ := bs hM3
  refine yY (yIa SL_22 e0 e0 hst (rdI q1) gx61) (yY (yI O_3 e0 hst (rdI q1) gx61) (Ym (iV x3) (eh e3_1) ?_))
  obtain ⟨r62, gr62, hM3⟩ := bs hM3
  refine Yc wn rfl (yCall FN_101 (a2 e0 e0)) (cmp_Less_int_ok gr62 hst) ?_
  rintro _ w ⟨rfl, hst⟩
  refine ⟨_, rfl, ?_⟩
  refine wK k21 ?_
  have j11 : ∀ (x63 x64 : Int) (f : FV) (w : World), f 0 = h2.v → f 1 = iV x3 → f 6 = iV (x1.length : Int) → f 7 = iV x63 → f 8 = iV x64 → St w0 ros rs w → slices_BinarySearch_int_j11 x63 x64 = some r3_ → Q19 .normal (fr 54 f) w := by
   intro x63 x64 f w ej11_0 ej11_1 ej11_6 ej11_7 ej11_8 hst hM
   refine qb19 _ _ _ ?_
   obtain rfl := someI hM
   exact n3 _ _ _ rfl ⟨_, _, _, rfl, rfl, ej11_0, ej11_1, ej11_6, ej11_7, ej11_8, hst⟩
  rcases iteS hM3 with ⟨c65, hM3⟩ | ⟨c65, hM3⟩
  ·exact condT e0 c65 (wR (Ym (iV (wc .i64 (wsrc .u64 (wc .u64 (wa .i64 x10 x11)) 1))) e0 (yY (yadd e0 rfl) (Ya (iV (wa .i64 (wc .i64 (wsrc .u64 (wc .u64 (wa .i64 x10 x11)) 1)) 1)) e0 (wN (j11 _ _ _ _ e3_0 e3_1 e3_6 rfl e3_8 hst hM3))))))
  ·exact condF e0 (bfalse c65) (wR (Ym (iV (wc .i64 (wsrc .u64 (wc .u64 (wa .i64 x10 x11)) 1))) e0 (Ya (iV (wc .i64 (wsrc .u64 (wc .u64 (wa .i64 x10 x11)) 1))) e0 (wN (j11 _ _ _ _ e3_0 e3_1 e3_6 e3_7 rfl hst hM3)))))
 ·refine cF e0 c60 (wp_exit (z17 _ _ _ rfl ?_))
  obtain rfl := someI hM3
  exact zz3 _ _ _ _ rfl rfl (je3_0 _ _ _ e3_0 e3_1 e3_6 e3_7 hst (ho3 _ rfl))
theorem graph_joined_ok {x1 : L2} {x3 x4 : Int} {h2 : Hdr} {out : Bool} (hM : graph_joined x1 x3 x4 = some out) (q1 : imm S1 h2.v x1 ∈ ros) (hst : St w0 ros rs w) :
  Calls Tryz.prog 82 #[.agg #[h2.v], iV x3, iV x4] w (fun e w => e = .returned (.bool out) ∧ St w0 ros rs w) := by
 refine enterQ Tryz.func82 rfl Tryz.ntmps82 rfl fun Q hQ => sR fun _ k1 => YB wn rfl (r_box (vals := [h2.v]) hst e0 rfl) ?_
 intro b5 w hst
 refine Ya (.bool false) rfl (wK k1 (sR fun _ k2 => yY (yFb FL_26_0 e0) (yY (lb_ h2.v O_24 e0 hst R0) (Ym (iV x3) e0 ?_))))
 obtain ⟨x6, gx6, hM⟩ := bs hM
 refine yY (yIa SL_24 e0 e0 hst (rdI q1) gx6) ?_
 obtain ⟨h7, hst⟩ := iLs hst q1 gx6
 refine yY (yCt O_22 e0 hst F1 rfl) (Ym (iV x4) e0 ?_)
 obtain ⟨r8, gr8, hM⟩ := bs hM
 refine Yc wn rfl (yCall FN_84 (a2 e0 e0)) (slices_BinarySearch_int_ok gr8 F0 hst) ?_
 rintro _ w ⟨rfl, hst⟩
 refine ⟨_, rfl, ?_⟩
 refine Ym (.tuple #[iV r8.1, .bool r8.2]) e0 (yY (x_ (iV r8.1) e0) (yY (x_ (.bool r8.2) e0) (Ya (iV r8.1) e0 (Ya (.bool r8.2) e0 (wK k2 (sR fun _ k3 => Ym (.bool r8.2) e0 (Ya (.bool r8.2) e0 (wK k3 (wp_ret ?_)))))))))
 obtain rfl := someI hM
 exact hQ _ _ _ (fin1r Tryz.results82 ⟨rfl, rfl⟩ ⟨rfl, ((hst.pk 1 [] rfl).facts (allT (allT allI)))⟩)
theorem graph_Check_ok {x1 : L2} {h2 : Hdr} {out : Int} (hM : graph_Check x1 = some out) (q1 : imm S1 h2.v x1 ∈ ros) (hst : St w0 ros rs w) :
  Calls Tryz.prog 51 #[.agg #[h2.v]] w (fun e w => e = .returned (iV out) ∧ St w0 ros rs w) := by
 refine enterQ Tryz.func51 rfl Tryz.ntmps51 rfl fun Q hQ => sR fun _ k1 => YB wn rfl (r_box (vals := [h2.v]) hst e0 rfl) ?_
 intro b3 w hst
 refine Ya (iV 0) rfl (wK k1 (sR fun _ k2 => yY (yFb FL_26_0 e0) (yY (lb_ h2.v O_24 e0 hst R0) (yY (yLen SL_24 e0 hst (rdI q1)) (Ya (iV (x1.length : Int)) e0 (wK k2 (seqQ fun Q3 k3 z3 => sR fun _ k4 => ?_)))))))
 refine Ym (iV (x1.length : Int)) e0 (yY (ygtr e0 rfl) (wK k4 ?_))
 rcases iteS hM with ⟨c4, hM⟩ | ⟨c4, hM⟩
 ·refine cT e0 c4 (sR fun _ k5 => Ya (iV 6) rfl (wK k5 (wp_ret (z3 _ _ _ rfl ?_))))
  obtain rfl := someI hM
  exact hQ _ _ _ (fin1r Tryz.results51 ⟨rfl, rfl⟩ ⟨rfl, (hst.pk 1 [] rfl)⟩)
 ·refine cF e0 c4 (wp_skip (k3 _ _ (seqQ fun Q6 k6 z6 => sR fun _ k7 => yY (yFb FL_26_0 e0) (yY (lb_ h2.v O_24 e0 hst R0) (yY (yLen SL_24 e0 hst (rdI q1)) (Ym (iV 0) rfl (wK k7 (blockQ fun Q8 qb8 => ?_))))))))
  obtain ⟨o3, go3, hM⟩ := bs hM
  have je3_0 : ∀ (f : FV) (w : World), f 1 = (pB b3) → St w0 ros (box b3 26 [h2.v] :: rs) w → .inl () = o3 → Q8 (.exit 0) (fr 55 f) w := by
   intro f w eje3_0_1 hst ho
   subst ho
   refine qb8 _ _ _ (k6 _ _ (seqQ fun Q23 k23 z23 => sR fun _ k24 => yY (yFb FL_26_0 (eh eje3_0_1)) (yY (lb_ h2.v O_24 e0 hst R0) (yY (yLen SL_24 e0 hst (rdI q1)) (Ym (iV 0) rfl (wK k24 (blockQ fun Q25 qb25 => ?_)))))))
   obtain ⟨o6, go6, hM⟩ := bs hM
   have je6_0 : ∀ (f : FV) (w : World), St w0 ros rs w → .inl () = o6 → Q25 (.exit 2) (fr 55 f) w := by
    intro f w hst ho
    subst ho
    refine qb25 _ _ _ (k23 _ _ (sR fun _ k82 => Ya (iV 0) rfl (wK k82 (wp_ret ?_))))
    obtain rfl := someI hM
    exact hQ _ _ _ (fin1r Tryz.results51 ⟨rfl, rfl⟩ ⟨rfl, hst⟩)
   have je6_1 : ∀ (f : FV) (w : World), f 2 = iV 1 → St w0 ros rs w → .inr () = o6 → Q25 .ret (fr 55 f) w := by
    intro f w eje6_1_2 hst ho
    subst ho
    refine qb25 _ _ _ (z23 _ _ _ rfl ?_)
    obtain rfl := someI hM
    exact hQ _ _ _ (fin1r Tryz.results51 ⟨rfl, eje6_1_2⟩ ⟨rfl, hst⟩)
   refine loopQ (fun s a w => ∃ (x44 : Int) (f : FV), x44 = s ∧ a = fr 55 f ∧ f 1 = (pB b3) ∧ f 35 = h2.v ∧ f 36 = iV (x1.length : Int) ∧ f 37 = iV x44 ∧ St w0 ros (box b3 26 [h2.v] :: rs) w) go6 ⟨_, _, rfl, rfl, eje3_0_1, rfl, rfl, rfl, hst⟩ ?_
   rintro _ _ w r6_ ⟨x44, f, rfl, rfl, e6_1, e6_35, e6_36, e6_37, hst⟩ hM6 ho6 Q100006 n6 zz6
   refine sR fun _ k83 => yY (ylss (eh e6_37) (eh e6_36)) (wK k83 (seqQ fun Q84 k84 z84 => ?_))
   rcases iteS hM6 with ⟨c63, hM6⟩ | ⟨c63, hM6⟩
   ·refine cT e0 c63 (wp_skip (k84 _ _ (seqQ fun Q85 k85 z85 => blockQ fun _ qb86 => sR fun _ k87 => Ym (iV x44) (eh e6_37) ?_)))
    obtain ⟨x64, gx64, hM6⟩ := bs hM6
    refine yY (yIa SL_24 (eh e6_35) (eh e6_37) hst (rdI q1) gx64) ?_
    obtain ⟨h65, hst⟩ := iLs hst q1 gx64
    refine yY (yCt O_22 e0 hst F1 rfl) (Ya (iV x44) e0 (Ya h65.v e0 (wK k87 (sR fun _ k88 => Ym h65.v e0 (yY (yLen SL_22 e0 hst (rdI F0)) (Ym (iV 0) rfl (wK k88 (blockQ fun Q89 qb89 => ?_))))))))
    obtain ⟨o7, go7, hM6⟩ := bs hM6
    have je7_0 : ∀ (f : FV) (w : World), f 1 = (pB b3) → f 35 = h2.v → f 36 = iV (x1.length : Int) → f 37 = iV x44 → St w0 ros (box b3 26 [h2.v] :: rs) w → .inl () = o7 → Q89 (.exit 4) (fr 55 f) w := by
     intro f w eje7_0_1 eje7_0_35 eje7_0_36 eje7_0_37 hst ho
     subst ho
     refine qb89 _ _ _ (qb86 _ _ _ (k85 _ _ (wR (yY (yadd (eh eje7_0_37) rfl) (Ym (iV (wa .i64 x44 1)) e0 (wN ?_))))))
     obtain rfl := someI hM6
     exact n6 _ _ _ rfl ⟨_, _, rfl, rfl, eje7_0_1, eje7_0_35, eje7_0_36, rfl, hst⟩
    have je7_1 : ∀ (f : FV) (w : World), f 2 = iV 1 → St w0 ros rs w → .inr () = o7 → Q89 .ret (fr 55 f) w := by
     intro f w eje7_1_2 hst ho
     subst ho
     refine qb89 _ _ _ (qb86 _ _ _ (z85 _ _ _ rfl ?_))
     obtain rfl := someI hM6
     exact zz6 _ _ _ _ rfl rfl (je6_1 _ _ eje7_1_2 hst (ho6 _ rfl))
    refine loopQ (fun s a w => ∃ (x70 : Int) (f : FV), x70 = s ∧ a = fr 55 f ∧ f 1 = (pB b3) ∧ f 6 = iV x44 ∧ f 35 = h2.v ∧ f 36 = iV (x1.length : Int) ∧ f 37 = iV x44 ∧ f 42 = h65.v ∧ f 43 = iV (x64.length : Int) ∧ f 44 = iV x70 ∧ St w0 (imm I1 h65.v x64 :: ros) (box b3 26 [h2.v] :: rs) w) go7 ⟨_, _, rfl, rfl, e6_1, rfl, e6_35, e6_36, e6_37, rfl, rfl, rfl, (hst.facts (allC F0 (allT (allT allI))))⟩ ?_
    rintro _ _ w r7_ ⟨x70, f, rfl, rfl, e7_1, e7_6, e7_35, e7_36, e7_37, e7_42, e7_43, e7_44, hst⟩ hM7 ho7 Q100007 n7 zz7
    refine sR fun _ k104 => yY (ylss (eh e7_44) (eh e7_43)) (wK k104 (seqQ fun Q105 k105 z105 => ?_))
    rcases iteS hM7 with ⟨c76, hM7⟩ | ⟨c76, hM7⟩
    ·refine cT e0 c76 (wp_skip (k105 _ _ (seqQ fun Q106 k106 z106 => blockQ fun _ qb107 => sR fun _ k108 => ?_)))
     obtain ⟨x77, gx77, hM7⟩ := bs hM7
     refine yY (yIa SL_22 (eh e7_42) (eh e7_44) hst (rdI F0) gx77) (yY (yI O_3 e0 hst (rdI F0) gx77) (Ya (iV x77) e0 (wK k108 (sR fun _ k109 => yY (lbs_ [h2.v] ST_26 (eh e7_1) hst R0) (Ym (iV x77) e0 (Ym (iV x44) (eh e7_6) ?_))))))
     obtain ⟨r78, gr78, hM7⟩ := bs hM7
     refine Yc wn rfl (yCall FN_82 (a3 e0 e0 e0)) (graph_joined_ok gr78 (mtF q1) hst) ?_
     rintro _ w ⟨rfl, hst⟩
     refine ⟨_, rfl, ?_⟩
     refine yY (ynot e0) (wK k109 ?_)
     rcases iteS hM7 with ⟨c79, hM7⟩ | ⟨c79, hM7⟩
     ·refine condF e0 (nF c79) (wp_skip (qb107 _ _ _ (k106 _ _ (wR (yY (yadd (eh e7_44) rfl) (Ym (iV (wa .i64 x70 1)) e0 (wN ?_)))))))
      obtain rfl := someI hM7
      exact n7 _ _ _ rfl ⟨_, _, rfl, rfl, e7_1, e7_6, e7_35, e7_36, e7_37, e7_42, e7_43, rfl, hst⟩
     ·refine condT e0 (nT (bfalse c79)) (sR fun _ k110 => Ya (iV 1) rfl (wK k110 (wp_ret (qb107 _ _ _ (z106 _ _ _ rfl ?_)))))
      obtain rfl := someI hM7
      exact zz7 _ _ _ _ rfl rfl (je7_1 _ _ rfl ((hst.pk 1 [] rfl).facts (allT allI)) (ho7 _ rfl))
    ·refine cF e0 c76 (wp_exit (z105 _ _ _ rfl ?_))
     obtain rfl := someI hM7
     exact zz7 _ _ _ _ rfl rfl (je7_0 _ _ e7_1 e7_35 e7_36 e7_37 (hst.facts (allT allI)) (ho7 _ rfl))
   ·refine cF e0 c63 (wp_exit (z84 _ _ _ rfl ?_))
    obtain rfl := someI hM6
    exact zz6 _ _ _ _ rfl rfl (je6_0 _ _ (hst.pk 1 [] rfl) (ho6 _ rfl))
  have je3_1 : ∀ (f : FV) (w : World), f 2 = iV 1 → St w0 ros rs w → .inr () = o3 → Q8 .ret (fr 55 f) w := by
   intro f w eje3_1_2 hst ho
   subst ho
   refine qb8 _ _ _ (z6 _ _ _ rfl ?_)
   obtain rfl := someI hM
   exact hQ _ _ _ (fin1r Tryz.results51 ⟨rfl, eje3_1_2⟩ ⟨rfl, hst⟩)
  refine loopQ (fun s a w => ∃ (x15 : Int) (f : FV), x15 = s ∧ a = fr 55 f ∧ f 1 = (pB b3) ∧ f 3 = iV (x1.length : Int) ∧ f 16 = h2.v ∧ f 17 = iV (x1.length : Int) ∧ f 18 = iV x15 ∧ St w0 ros (box b3 26 [h2.v] :: rs) w) go3 ⟨_, _, rfl, rfl, rfl, rfl, rfl, rfl, rfl, hst⟩ ?_
  rintro _ _ w r3_ ⟨x15, f, rfl, rfl, e3_1, e3_3, e3_16, e3_17, e3_18, hst⟩ hM3 ho3 Q100003 n3 zz3
  refine sR fun _ k111 => yY (ylss (eh e3_18) (eh e3_17)) (wK k111 (seqQ fun Q112 k112 z112 => ?_))
  rcases iteS hM3 with ⟨c80, hM3⟩ | ⟨c80, hM3⟩
  ·refine cT e0 c80 (wp_skip (k112 _ _ (seqQ fun Q113 k113 z113 => blockQ fun _ qb114 => sR fun _ k115 => Ym (iV x15) (eh e3_18) ?_)))
   obtain ⟨x81, gx81, hM3⟩ := bs hM3
   refine yY (yIa SL_24 (eh e3_16) (eh e3_18) hst (rdI q1) gx81) ?_
   obtain ⟨h82, hst⟩ := iLs hst q1 gx81
   refine yY (yCt O_22 e0 hst F1 rfl) (Ya (iV x15) e0 (Ya h82.v e0 (wK k115 (sR fun _ k116 => Ym h82.v e0 (Ym (iV (x1.length : Int)) (eh e3_3) ?_)))))
   obtain ⟨r83, gr83, hM3⟩ := bs hM3
   refine Yc wn rfl (yCall FN_81 (a2 e0 e0)) (graph_ascending_ok gr83 F0 hst) ?_
   rintro _ w ⟨rfl, hst⟩
   refine ⟨_, rfl, ?_⟩
   refine yY (ynot e0) (Ym (.bool (!r83)) e0 ?_)
   obtain ⟨r85, gr85, hM3⟩ := bs hM3
   refine joinW 5 (fun f w => f 1 = (pB b3) ∧ f 3 = iV (x1.length : Int) ∧ f 16 = h2.v ∧ f 17 = iV (x1.length : Int) ∧ f 18 = iV x15 ∧ f 32 = .bool r85 ∧ St w0 ros (box b3 26 [h2.v] :: rs) w) (fun j8 => ?_) ?_
   ·rcases iteS gr85 with ⟨c87, gr85⟩ | ⟨c87, gr85⟩
    ·refine yG (nF c87) (lbs_ [h2.v] ST_26 (eh e3_1) hst R0) (yG (nF c87) (m_ (iV x15) e0) (yG (nF c87) (m_ (iV x15) e0) ?_))
     obtain ⟨r88, gr88, gr85⟩ := bs gr85
     refine Yc (wG (nF c87)) rfl (yCall FN_82 (a3 e0 e0 e0)) (graph_joined_ok gr88 (F_2 q1) hst) ?_
     rintro _ w ⟨rfl, hst⟩
     refine ⟨_, rfl, ?_⟩
     refine yY (pf_ (.bool r88) e0 (nF c87) e0) ?_
     obtain rfl := someI gr85
     exact j8 _ _ ⟨e3_1, e3_3, e3_16, e3_17, e3_18, rfl, (hst.facts (allT (allT allI)))⟩
    ·refine gN (nT (bfalse c87)) (gN (nT (bfalse c87)) (gN (nT (bfalse c87)) (gN (nT (bfalse c87)) (yY (pt_ (.bool true) e0 (nT (bfalse c87)) rfl) ?_))))
     obtain rfl := someI gr85
     exact j8 _ _ ⟨e3_1, e3_3, e3_16, e3_17, e3_18, rfl, (hst.facts (allT (allT allI)))⟩
   rintro f w ⟨e86_1, e86_3, e86_16, e86_17, e86_18, e86_32, hst⟩
   refine wK k116 ?_
   rcases iteS hM3 with ⟨c89, hM3⟩ | ⟨c89, hM3⟩
   ·refine condT (eh e86_32) c89 (sR fun _ k117 => Ya (iV 1) rfl (wK k117 (wp_ret (qb114 _ _ _ (z113 _ _ _ rfl ?_)))))
    obtain rfl := someI hM3
    exact zz3 _ _ _ _ rfl rfl (je3_1 _ _ rfl (hst.pk 1 [] rfl) (ho3 _ rfl))
   ·refine condF (eh e86_32) (bfalse c89) (wp_skip (qb114 _ _ _ (k113 _ _ (wR (yY (yadd (eh e86_18) rfl) (Ym (iV (wa .i64 x15 1)) e0 (wN ?_)))))))
    obtain rfl := someI hM3
    exact n3 _ _ _ rfl ⟨_, _, rfl, rfl, e86_1, e86_3, e86_16, e86_17, rfl, hst⟩
  ·refine cF e0 c80 (wp_exit (z112 _ _ _ rfl ?_))
   obtain rfl := someI hM3
   exact zz3 _ _ _ _ rfl rfl (je3_0 _ _ e3_1 hst (ho3 _ rfl))
theorem math_bits_Mul64_ok {x1 x2 : Int} {out : Int × Int} (hM : math_bits_Mul64 x1 x2 = some out) (hst : St w0 ros rs w) :
  Calls Tryz.prog 116 #[.int .u64 x1, .int .u64 x2] w (fun e w => e = .returned (.tuple #[.int .u64 out.1, .int .u64 out.2]) ∧ St w0 ros rs w) := by
 refine enterQ Tryz.func116 rfl Tryz.ntmps116 rfl fun Q hQ => sR fun _ k1 => Ya (.int .u64 0) rfl (Ya (.int .u64 0) rfl (wK k1 (sR fun _ k2 => Ym (.int .u64 x1) e0 (yY (yand e0 rfl) (Ya (.int .u64 (wand .u64 x1 4294967295)) e0 (wK k2 ?_))))))
 refine sR fun _ k3 => Ym (.int .u64 x1) e0 (yY (yshrc e0 rfl) (Ya (.int .u64 (wsrc .u64 x1 32)) e0 (wK k3 (sR fun _ k4 => Ym (.int .u64 x2) e0 (yY (yand e0 rfl) (Ya (.int .u64 (wand .u64 x2 4294967295)) e0 (wK k4 ?_)))))))
 refine sR fun _ k5 => Ym (.int .u64 x2) e0 (yY (yshrc e0 rfl) (Ya (.int .u64 (wsrc .u64 x2 32)) e0 (wK k5 (sR fun _ k6 => Ym (.int .u64 (wand .u64 x1 4294967295)) e0 (Ym (.int .u64 (wand .u64 x2 4294967295)) e0 (yY (ymul e0 e0) (Ya (.int .u64 (wm .u64 (wand .u64 x1 4294967295) (wand .u64 x2 4294967295))) e0 (wN ?_))))))))
 refine k6 _ _ (sR fun _ k7 => Ym (.int .u64 (wsrc .u64 x1 32)) e0 (Ym (.int .u64 (wand .u64 x2 4294967295)) e0 (yY (ymul e0 e0) (Ym (.int .u64 (wm .u64 (wand .u64 x1 4294967295) (wand .u64 x2 4294967295))) e0 (yY (yshrc e0 rfl) (yY (yadd e0 e0) (Ya (.int .u64 (wa .u64 (wm .u64 (wsrc .u64 x1 32) (wand .u64 x2 4294967295)) (wsrc .u64 (wm .u64 (wand .u64 x1 4294967295) (wand .u64 x2 4294967295)) 32))) e0 (wK k7 (sR fun _ k8 => ?_)))))))))
 refine Ym (.int .u64 (wa .u64 (wm .u64 (wsrc .u64 x1 32) (wand .u64 x2 4294967295)) (wsrc .u64 (wm .u64 (wand .u64 x1 4294967295) (wand .u64 x2 4294967295)) 32))) e0 (yY (yand e0 rfl) (Ya (.int .u64 (wand .u64 (wa .u64 (wm .u64 (wsrc .u64 x1 32) (wand .u64 x2 4294967295)) (wsrc .u64 (wm .u64 (wand .u64 x1 4294967295) (wand .u64 x2 4294967295)) 32)) 4294967295)) e0 (wK k8 (sR fun _ k9 => Ym (.int .u64 (wa .u64 (wm .u64 (wsrc .u64 x1 32) (wand .u64 x2 4294967295)) (wsrc .u64 (wm .u64 (wand .u64 x1 4294967295) (wand .u64 x2 4294967295)) 32))) e0 (yY (yshrc e0 rfl) (Ya (.int .u64 (wsrc .u64 (wa .u64 (wm .u64 (wsrc .u64 x1 32) (wand .u64 x2 4294967295)) (wsrc .u64 (wm .u64 (wand .u64 x1 4294967295) (wand .u64 x2 4294967295)) 32)) 32)) e0 (wK k9 (sR fun _ k10 => ?_))))))))
 refine Ym (.int .u64 (wand .u64 (wa .u64 (wm .u64 (wsrc .u64 x1 32) (wand .u64 x2 4294967295)) (wsrc .u64 (wm .u64 (wand .u64 x1 4294967295) (wand .u64 x2 4294967295)) 32)) 4294967295)) e0 (Ym (.int .u64 (wand .u64 x1 4294967295)) e0 (Ym (.int .u64 (wsrc .u64 x2 32)) e0 (yY (ymul e0 e0) (yY (yadd e0 e0) (Ya (.int .u64 (wa .u64 (wand .u64 (wa .u64 (wm .u64 (wsrc .u64 x1 32) (wand .u64 x2 4294967295)) (wsrc .u64 (wm .u64 (wand .u64 x1 4294967295) (wand .u64 x2 4294967295)) 32)) 4294967295) (wm .u64 (wand .u64 x1 4294967295) (wsrc .u64 x2 32)))) e0 (wK k10 (sR fun _ k11 => Ym (.int .u64 (wsrc .u64 x1 32)) e0 (Ym (.int .u64 (wsrc .u64 x2 32)) e0 (yY (ymul e0 e0) (Ym (.int .u64 (wsrc .u64 (wa .u64 (wm .u64 (wsrc .u64 x1 32) (wand .u64 x2 4294967295)) (wsrc .u64 (wm .u64 (wand .u64 x1 4294967295) (wand .u64 x2 4294967295)) 32)) 32)) e0 ?_))))))))))
 refine yY (yadd e0 e0) (Ym (.int .u64 (wa .u64 (wand .u64 (wa .u64 (wm .u64 (wsrc .u64 x1 32) (wand .u64 x2 4294967295)) (wsrc .u64 (wm .u64 (wand .u64 x1 4294967295) (wand .u64 x2 4294967295)) 32)) 4294967295) (wm .u64 (wand .u64 x1 4294967295) (wsrc .u64 x2 32)))) e0 (yY (yshrc e0 rfl) (yY (yadd e0 e0) (Ya (.int .u64 (wa .u64 (wa .u64 (wm .u64 (wsrc .u64 x1 32) (wsrc .u64 x2 32)) (wsrc .u64 (wa .u64 (wm .u64 (wsrc .u64 x1 32) (wand .u64 x2 4294967295)) (wsrc .u64 (wm .u64 (wand .u64 x1 4294967295) (wand .u64 x2 4294967295)) 32)) 32)) (wsrc .u64 (wa .u64 (wand .u64 (wa .u64 (wm .u64 (wsrc .u64 x1 32) (wand .u64 x2 4294967295)) (wsrc .u64 (wm .u64 (wand .u64 x1 4294967295) (wand .u64 x2 4294967295)) 32)) 4294967295) (wm .u64 (wand .u64 x1 4294967295) (wsrc .u64 x2 32))) 32))) e0 (wK k11 (sR fun _ k12 => Ym (.int .u64 x1) e0 (Ym (.int .u64 x2) e0 (yY (ymul e0 e0) (Ya (.int .u64 (wm .u64 x1 x2)) e0 (wN ?_))))))))))
 refine k12 _ _ (wp_ret ?_)
 obtain rfl := someI hM
 exact hQ _ _ _ (fin2r Tryz.results116 ⟨rfl, rfl⟩ ⟨rfl, rfl⟩ ⟨rfl, hst⟩)
theorem math_bits_Mul_ok {x1 x2 : Int} {out : Int × Int} (hM : math_bits_Mul x1 x2 = some out) (hst : St w0 ros rs w) :
  Calls Tryz.prog 95 #[.int .u64 x1, .int .u64 x2] w (fun e w => e = .returned (.tuple #[.int .u64 out.1, .int .u64 out.2]) ∧ St w0 ros rs w) := by
 refine enterQ Tryz.func95 rfl Tryz.ntmps95 rfl fun Q hQ => sR fun _ k1 => Ya (.int .u64 0) rfl (Ya (.int .u64 0) rfl (wK k1 (sQ fun _ k2 => condF rfl rfl (wp_skip (k2 _ _ (sR fun _ k3 => Ym (.int .u64 x1) e0 ?_))))))
 refine Ym (.int .u64 x2) e0 ?_
 obtain ⟨r3, gr3, hM⟩ := bs hM
 refine Yc wn rfl (yCall FN_116 (a2 e0 e0)) (math_bits_Mul64_ok gr3 hst) ?_
 rintro _ w ⟨rfl, hst⟩
 refine ⟨_, rfl, ?_⟩
 refine Ym (.tuple #[.int .u64 r3.1, .int .u64 r3.2]) e0 (yY (x_ (.int .u64 r3.1) e0) (yY (x_ (.int .u64 r3.2) e0) (Ya (.int .u64 r3.1) e0 (Ya (.int .u64 r3.2) e0 (wK k3 (sR fun _ k4 => Ym (.int .u64 r3.1) e0 (Ym (.int .u64 r3.2) e0 (Ya (.int .u64 r3.1) e0 (Ya (.int .u64 r3.2) e0 (wN ?_))))))))))
 refine k4 _ _ (wp_ret ?_)
 obtain rfl := someI hM
 exact hQ _ _ _ (fin2r Tryz.results95 ⟨rfl, rfl⟩ ⟨rfl, rfl⟩ ⟨rfl, hst⟩)
theorem slices_Repeat_int_ok {x1 : LI} {x3 : Int} {h2 : Hdr} {out : LI} (hM : slices_Repeat_int x1 x3 = some out) (q1 : imm I1 h2.v x1 ∈ ros) (hst : St w0 ros rs w) :
  Calls Tryz.prog 72 #[h2.v, iV x3] w (fun e w => ∃ (h100001 : Hdr), e = .returned (h100001.v) ∧ St w0 ros (row 3 I1 h100001.v out :: rs) w) := by
 refine enterQ Tryz.func72 rfl Tryz.ntmps72 rfl fun Q hQ => sR fun _ k1 => Ya hnil.v rfl (wK k1 (sQ fun Q2 k2 => sR fun _ k3 => Ym (iV x3) e0 (yY (ylss e0 rfl) (wK k3 ?_))))
 have j1 : ∀ (f : FV) (w : World), f 0 = h2.v → f 1 = iV x3 → St w0 ros rs w → slices_Repeat_int_j1 x1 x3 = some out → Q2 .normal (fr 48 f) w := by
  intro f w ej1_0 ej1_1 hst hM
  refine k2 _ _ (sR fun _ k4 => Ym h2.v (eh ej1_0) (yY (yLen SL_22 e0 hst (rdI q1)) (yY (ycv (k' := .u64) (by kernel_rfl) (by kernel_rfl) e0) (Ym (iV x3) (eh ej1_1) (yY (ycv (k' := .u64) (by kernel_rfl) (by kernel_rfl) e0) ?_)))))
  obtain ⟨r4, gr4, hM⟩ := bs hM
  refine Yc wn rfl (yCall FN_95 (a2 e0 e0)) (math_bits_Mul_ok gr4 hst) ?_
  rintro _ w ⟨rfl, hst⟩
  refine ⟨_, rfl, ?_⟩
  refine Ym (.tuple #[.int .u64 r4.1, .int .u64 r4.2]) e0 (yY (x_ (.int .u64 r4.1) e0) (yY (x_ (.int .u64 r4.2) e0) (Ya (.int .u64 r4.1) e0 (Ya (.int .u64 r4.2) e0 (wK k4 (sQ fun Q5 k5 => sR fun _ k6 => Ym (.int .u64 r4.1) e0 (yY (ygtr e0 rfl) (Ym (.bool (decide ((0 : Int) < r4.1))) e0 ?_))))))))
  refine joinW 3 (fun f w => f 0 = h2.v ∧ f 6 = .int .u64 r4.2 ∧ f 26 = .bool ((decide ((0 : Int) < r4.1)) || (decide ((9223372036854775807 : Int) < r4.2))) ∧ St w0 ros rs w) (fun j2 => ?_) ?_
  ·rcases Bool.eq_false_or_eq_true (decide ((0 : Int) < r4.1)) with c6 | c6
   ·exact gN c6 (gN c6 (yY (pt_ (.bool true) e0 c6 rfl) (j2 _ _ ⟨ej1_0, rfl, (congrArg Value.bool (orT c6)), hst⟩)))
   ·exact yG c6 (m_ (.int .u64 r4.2) e0) (yG c6 (ygtr e0 rfl) (yY (pf_ (.bool (decide ((9223372036854775807 : Int) < r4.2))) e0 c6 e0) (j2 _ _ ⟨ej1_0, rfl, (congrArg Value.bool (orF c6)), hst⟩)))
  rintro f w ⟨e5_0, e5_6, e5_26, hst⟩
  refine wK k6 ?_
  have j3 : ∀ (f : FV) (w : World), f 0 = h2.v → f 6 = .int .u64 r4.2 → St w0 ros rs w → slices_Repeat_int_j3 r4 x1 = some out → Q5 .normal (fr 48 f) w := by
   intro f w ej3_0 ej3_6 hst hM
   refine k5 _ _ (sR fun _ k7 => Ym (.int .u64 r4.2) (eh ej3_6) (yY (ycv (k' := .i64) (by kernel_rfl) (by kernel_rfl) e0) ?_))
   obtain ⟨x9, gx9, hM⟩ := bs hM
   refine YH wn rfl (rMk hst SL_22 e0 gx9) ?_
   intro h7 w hst
   refine Ya h7.v e0 (wK k7 (sR fun _ k8 => Ym h7.v e0 (Ym h2.v (eh ej3_0) ?_)))
   obtain ⟨x10, gx10, hM⟩ := bs hM
   refine YV wn rfl (rCp hst SL_22 rfl e0 (.inr ⟨rfl, rfl, rfl⟩) e0 (rdI q1) gx10) ?_
   intro w hst
   refine Ya (iV x10.2) e0 (wK k8 (sQ fun _ k9 => blockQ fun Q10 qb10 => ?_))
   obtain ⟨o4, go4, hM⟩ := bs hM
   have je4_0 : ∀ (x23 : LI) (f : FV) (w : World), f 7 = h7.v → St w0 ros (row 3 I1 h7.v x23 :: rs) w → x23 = o4 → Q10 (.exit 0) (fr 48 f) w := by
    intro x23 f w eje4_0_7 hst ho
    subst ho
    refine qb10 _ _ _ (k9 _ _ (sR fun _ k17 => Ym h7.v (eh eje4_0_7) (Ya h7.v e0 (wK k17 (wp_ret ?_)))))
    obtain rfl := someI hM
    exact hQ _ _ _ (fin1r Tryz.results72 ⟨rfl, rfl⟩ ⟨_, rfl, hst⟩)
   refine loopQ (fun s a w => ∃ (x15 : LI) (x16 : Int) (f : FV), (x15, x16) = s ∧ a = fr 48 f ∧ f 7 = h7.v ∧ f 8 = iV x16 ∧ St w0 ros (row 3 I1 h7.v x15 :: rs) w) go4 ⟨_, _, _, rfl, rfl, rfl, rfl, hst⟩ ?_
   rintro _ _ w r4_ ⟨x15, x16, f, rfl, rfl, e4_7, e4_8, hst⟩ hM4 ho4 Q100004 n4 zz4
   refine seqQ fun Q18 k18 z18 => sR fun _ k19 => Ym (iV x16) (eh e4_8) (Ym h7.v (eh e4_7) (yY (yLen SL_22 e0 hst rO0) (yY (ylss e0 e0) (wK k19 ?_))))
   rcases iteS hM4 with ⟨c24, hM4⟩ | ⟨c24, hM4⟩
   ·refine cT e0 c24 (wp_skip (k18 _ _ (blockQ fun _ qb20 => ?_)))
    obtain ⟨x25, gx25, hM4⟩ := bs hM4
    obtain ⟨x26, gx26, hM4⟩ := bs hM4
    obtain ⟨x27, gx27, hM4⟩ := bs hM4
    refine dR [0, 0, 0, 6, 0, 0, 48, 126, 255, 511] [7, 9] 2 folM ?_
    replace hst := hst.drew
    refine Dn [0, 1, 2, 3, 4, 5, 6] [] [7] (yR rfl (m_ (iV x16) (eh e4_8)) (yR rfl (m_ h7.v (eh e4_7)) (yR rfl (m_ (iV x16) (eh e4_8)) (yR rfl (ySl (k2 := .i64) SL_22 e0 hst rO0 (.inl (congrArg some e0)) (.inr ⟨rfl, rfl⟩) gx25) (yR rfl (m_ h7.v (eh e4_7)) (yR rfl (m_ (iV x16) (eh e4_8)) (yR rfl (ySl (k1 := .i64) SL_22 e0 hst rO0 (.inr ⟨rfl, rfl⟩) (.inl (congrArg some e0)) gx26) (Rn QSn ?_))))))))
    refine Lc1 rfl ?_
    refine LV wn (rCp hst SL_22 rfl e0 (.inl rfl) e0 (rdSub rO0 gx26) gx27) ?_
    intro w hst
    refine Dn [8] [0] [9] (yR rfl (yadd e0 e0) (Rn (yS rfl (m_ (iV x16) (eh e4_8)) QSn) ?_))
    refine Lc1 rfl ?_
    refine Ly wn (a_ (iV (wa .i64 x16 x27.2)) e0) (Dz [] [] (Rn QSn (qb20 _ _ _ ?_)))
    obtain rfl := someI hM4
    exact n4 _ _ _ rfl ⟨_, _, _, rfl, rfl, e4_7, rfl, hst⟩
   ·refine cF e0 c24 (wp_exit (z18 _ _ _ rfl ?_))
    obtain rfl := someI hM4
    exact zz4 _ _ _ _ rfl rfl (je4_0 _ _ _ e4_7 hst (ho4 _ rfl))
  rcases iteS hM with ⟨c28, hM⟩ | ⟨c28, hM⟩
  ·refine condT (eh e5_26) c28 ?_
   cases hM
  ·exact condF (eh e5_26) (bfalse c28) (wp_skip (j3 _ _ e5_0 e5_6 hst hM))
 rcases iteS hM with ⟨c29, hM⟩ | ⟨c29, hM⟩
 ·refine cT e0 c29 ?_
  cases hM
 ·exact cF e0 c29 (wp_skip (j1 _ _ rfl rfl hst hM))
theorem dissect_units_ok {x1 : L2} {h2 : Hdr} {out : L2 × LI × L2} (hM : dissect_units x1 = some out) (q1 : imm S1 h2.v x1 ∈ ros) (hst : St w0 ros rs w) :
  Calls Tryz.prog 85 #[.agg #[h2.v]] w (fun e w => ∃ (h100001 h100003 h100005 : Hdr), e = .returned (.agg #[h100001.v, h100003.v, h100005.v]) ∧ St w0 (imm S1 h100001.v out.1 :: ros) (row 3 I1 h100003.v out.2.1 :: row 22 S1 h100005.v out.2.2 :: rs) w) := by
 refine enterQ Tryz.func85 rfl Tryz.ntmps85 rfl fun Q hQ => sR fun _ k1 => YB wn rfl (r_box (vals := [h2.v]) hst e0 rfl) ?_
 intro b3 w hst
 refine YB wn rfl (rAl hst ZT_28) ?_
 intro b4 w hst
 refine wK k1 (sQ fun _ k2 => ?_)
 obtain ⟨r6, gr6, hM⟩ := bs hM
 refine joinN (n := 31) (fun f w => ∃ (b9 : Nat) (h10 : Hdr), f 1 = (pB b3) ∧ f 2 = (pB b4) ∧ f 3 = (pB b9) ∧ St w0 ros (box b3 26 [h2.v] :: box b4 28 [hnil.v, hnil.v, hnil.v] :: row 3 I1 h10.v r6 :: box b9 28 [h2.v, h10.v, hnil.v] :: rs) w) (fun j1 => ?_) ?_
 ·refine dR [0, 0, 0, 4, 12, 30, 63, 0, 255] [1, 5, 7, 8] 4 folM ?_
  replace hst := hst.drew
  refine Dn [0, 2, 3, 4] [] [1, 7] (yR rfl (lbs_ [h2.v] ST_26 e0 hst R1) (yR rfl (yFb FL_26_0 e0) (yR rfl (lb_ h2.v O_24 e0 hst R1) (yR rfl (yLen SL_24 e0 hst (rdI q1)) (Rn QSn ?_)))))
  refine Lc rfl ?_ (Lc1 rfl ?_)
  ·refine LH wn (rLt (n := 1) (l := [1]) hst SL_22 [iV 1] (bp1 rfl) rfl rfl (mks1 (cs := [iV 1]) rfl mkI mks0)) ?_
   intro h5 w hst
   refine Dn [] [0, 2, 3, 4] [5, 7] (Rn (yS rfl (lbs_ [h2.v] ST_26 e0 hst R2) (yS rfl (yFb FL_26_0 e0) (yS rfl (lb_ h2.v O_24 e0 hst R2) (yS rfl (yLen SL_24 e0 hst (rdI q1)) QSn)))) ?_)
   refine Lc rfl ?_ (Lc1 rfl ?_)
   ·replace hst := hst.fz
    refine Lk wn (yCall FN_72 (a2 e0 e0)) (slices_Repeat_int_ok gr6 F0 hst) ?_
    rintro _ w ⟨h7, rfl, hst⟩
    refine ⟨_, rfl, ?_⟩
    refine Dn [6] [0] [7] (yR rfl (ybuild (us := [h2.v, h7.v, hnil.v]) [(0, .agg #[h2.v]), (1, h7.v)] SO_28 (bp2 e0 e0) rfl) (Rn (yS rfl (lbs_ [h2.v] ST_26 e0 hst R2) QSn) ?_))
    refine Lc1 rfl ?_
    refine LB wn (rAl hst ZT_28) ?_
    intro b8 w hst
    refine Dn [] [0, 6] [8] (Rn (yS rfl (lbs_ [h2.v] ST_26 e0 hst R3) (yS rfl (ybuild (us := [h2.v, h7.v, hnil.v]) [(0, .agg #[h2.v]), (1, h7.v)] SO_28 (bp2 e0 e0) rfl) QSn)) ?_)
    refine Lc1 rfl ?_
    refine LT wn (r_stbn (vals' := [h2.v, h7.v, hnil.v]) (us := [h2.v, h7.v, hnil.v]) hst ST_28 e0 e0 rfl rfl (one_of rfl) rfl) ?_
    intro w hst
    exact Dz [] [] (Rn QSn (j1 _ _ ⟨_, _, rfl, rfl, rfl, ((hst.pk 4 [3, 2, 1, 0] rfl).facts (allT allI))⟩))
   ·refine LB wn (rAl hst ZT_28) ?_
    intro b8 w hst
    refine Dn [] [0, 2, 3, 4] [5] (Rn (yS rfl (lbs_ [h2.v] ST_26 e0 hst R3) (yS rfl (yFb FL_26_0 e0) (yS rfl (lb_ h2.v O_24 e0 hst R3) (yS rfl (yLen SL_24 e0 hst (rdI q1)) QSn)))) ?_)
    refine Lc1 rfl ?_
    replace hst := hst.pk 2 [1, 0] rfl
    replace hst := hst.fz
    refine Lk wn (yCall FN_72 (a2 e0 e0)) (slices_Repeat_int_ok gr6 F0 hst) ?_
    rintro _ w ⟨h7, rfl, hst⟩
    refine ⟨_, rfl, ?_⟩
    refine Dn [6] [0] [8] (yR rfl (ybuild (us := [h2.v, h7.v, hnil.v]) [(0, .agg #[h2.v]), (1, h7.v)] SO_28 (bp2 e0 e0) rfl) (Rn (yS rfl (lbs_ [h2.v] ST_26 e0 hst R3) QSn) ?_))
    refine Lc1 rfl ?_
    replace hst := hst.pk 2 [1, 0] rfl
    refine LT wn (r_stbn (vals' := [h2.v, h7.v, hnil.v]) (us := [h2.v, h7.v, hnil.v]) hst ST_28 e0 e0 rfl rfl (one_of rfl) rfl) ?_
    intro w hst
    exact Dz [] [] (Rn QSn (j1 _ _ ⟨_, _, rfl, rfl, rfl, ((hst.pk 4 [3, 2, 1, 0] rfl).facts (allT allI))⟩))
  ·refine LB wn (rAl hst ZT_28) ?_
   intro b8 w hst
   refine Dn [] [0, 2, 3, 4] [1] (Rn (yS rfl (lbs_ [h2.v] ST_26 e0 hst R2) (yS rfl (yFb FL_26_0 e0) (yS rfl (lb_ h2.v O_24 e0 hst R2) (yS rfl (yLen SL_24 e0 hst (rdI q1)) QSn)))) ?_)
   refine Lc1 rfl ?_
   refine LH wn (rLt (n := 1) (l := [1]) hst SL_22 [iV 1] (bp1 rfl) rfl rfl (mks1 (cs := [iV 1]) rfl mkI mks0)) ?_
   intro h5 w hst
   refine Dn [] [0, 2, 3, 4] [5] (Rn (yS rfl (lbs_ [h2.v] ST_26 e0 hst R3) (yS rfl (yFb FL_26_0 e0) (yS rfl (lb_ h2.v O_24 e0 hst R3) (yS rfl (yLen SL_24 e0 hst (rdI q1)) QSn)))) ?_)
   refine Lc1 rfl ?_
   replace hst := hst.fz
   refine Lk wn (yCall FN_72 (a2 e0 e0)) (slices_Repeat_int_ok gr6 F0 hst) ?_
   rintro _ w ⟨h7, rfl, hst⟩
   refine ⟨_, rfl, ?_⟩
   refine Dn [6] [0] [8] (yR rfl (ybuild (us := [h2.v, h7.v, hnil.v]) [(0, .agg #[h2.v]), (1, h7.v)] SO_28 (bp2 e0 e0) rfl) (Rn (yS rfl (lbs_ [h2.v] ST_26 e0 hst R3) QSn) ?_))
   refine Lc1 rfl ?_
   replace hst := hst.pk 2 [1, 0] rfl
   refine LT wn (r_stbn (vals' := [h2.v, h7.v, hnil.v]) (us := [h2.v, h7.v, hnil.v]) hst ST_28 e0 e0 rfl rfl (one_of rfl) rfl) ?_
   intro w hst
   exact Dz [] [] (Rn QSn (j1 _ _ ⟨_, _, rfl, rfl, rfl, ((hst.pk 4 [3, 2, 1, 0] rfl).facts (allT allI))⟩))
 rintro f w ⟨b9, h10, e11_1, e11_2, e11_3, hst⟩
 refine k2 _ _ (sQ fun _ k3 => sR fun _ k4 => yY (yFb FL_26_0 (eh e11_1)) (yY (lb_ h2.v O_24 e0 hst R0) (yY (yLen SL_24 e0 hst (rdI q1)) (Ym (iV 0) rfl (wK k4 (blockQ fun Q5 qb5 => ?_))))))
 obtain ⟨o2, go2, hM⟩ := bs hM
 have je2_0 : ∀ (x37 : L2) (h36 : Hdr) (f : FV) (w : World), f 2 = (pB b4) → f 3 = (pB b9) → St w0 ros (box b4 28 [hnil.v, hnil.v, hnil.v] :: row 3 I1 h10.v r6 :: row 22 S1 h36.v x37 :: box b9 28 [h2.v, h10.v, h36.v] :: rs) w → x37 = o2 → Q5 (.exit 0) (fr 31 f) w := by
  intro x37 h36 f w eje2_0_2 eje2_0_3 hst ho
  subst ho
  refine qb5 _ _ _ (k3 _ _ (sR fun _ k16 => yY (lbs_ [h2.v, h10.v, h36.v] ST_28 (eh eje2_0_3) hst R3) (YT wn rfl (r_stbn (vals' := [h2.v, h10.v, h36.v]) (us := [h2.v, h10.v, h36.v]) hst ST_28 (eh eje2_0_2) e0 rfl rfl (one_of rfl) rfl) ?_)))
  intro w hst
  refine wK k16 (wp_ret ?_)
  obtain rfl := someI hM
  exact hQ _ _ _ (fin1r Tryz.results85 (rcs2 rfl eje2_0_2 hst R0 ST_28 rfl) ⟨_, _, _, rfl, ((hst.pk 4 [1, 1] rfl).facts (allC q1 allI))⟩)
 replace hst := hst.rowNh 22 S1
 refine loopQ (fun s a w => ∃ (x22 : L2) (x23 : Int) (f : FV) (h21 : Hdr), (x22, x23) = s ∧ a = fr 31 f ∧ f 2 = (pB b4) ∧ f 3 = (pB b9) ∧ f 14 = h2.v ∧ f 15 = iV (x1.length : Int) ∧ f 16 = iV x23 ∧ St w0 ros (box b4 28 [hnil.v, hnil.v, hnil.v] :: row 3 I1 h10.v r6 :: row 22 S1 h21.v x22 :: box b9 28 [h2.v, h10.v, h21.v] :: rs) w) go2 ⟨_, _, _, _, rfl, rfl, e11_2, e11_3, rfl, rfl, rfl, (hst.pk 5 [2, 2, 0, 1] rfl)⟩ ?_
 rintro _ _ w r2_ ⟨x22, x23, f, h21, rfl, rfl, e2_2, e2_3, e2_14, e2_15, e2_16, hst⟩ hM2 ho2 Q100002 n2 zz2
 refine sR fun _ k17 => yY (ylss (eh e2_16) (eh e2_15)) (wK k17 (seqQ fun Q18 k18 z18 => ?_))
 rcases iteS hM2 with ⟨c38, hM2⟩ | ⟨c38, hM2⟩
 ·refine cT e0 c38 (wp_skip (k18 _ _ (sQ fun _ k19 => blockQ fun _ qb20 => sR fun _ k21 => ?_)))
  obtain ⟨x39, gx39, hM2⟩ := bs hM2
  refine yY (yIa SL_24 (eh e2_14) (eh e2_16) hst (rdI q1) gx39) ?_
  obtain ⟨h40, hst⟩ := iLs hst q1 gx39
  refine yY (yCt O_22 e0 hst F1 rfl) (Ya h40.v e0 (wK k21 ?_))
  obtain ⟨r42, gr42, hM2⟩ := bs hM2
  obtain ⟨x46, gx46, hM2⟩ := bs hM2
  refine dR [0, 1, 0, 0, 8, 28, 60, 127, 255, 511] [2, 5, 6, 7, 9] 5 folM ?_
  replace hst := hst.drew
  refine Dn [0, 1, 3, 4] [] [2] (yR rfl (yFb FL_28_2 (eh e2_3)) (yR rfl (lb_ h21.v O_24 e0 hst R3) (yR rfl (m_ h40.v e0) (yR rfl (yLen SL_22 e0 hst (rdI F0)) (Rn QSn ?_)))))
  refine Lc1 rfl ?_
  refine LH wn (rLt (n := 1) (l := [1]) hst SL_22 [iV 1] (bp1 rfl) rfl rfl (mks1 (cs := [iV 1]) rfl mkI mks0)) ?_
  intro h41 w hst
  refine Dn [] [0, 1, 3, 4] [5] (Rn (yS rfl (yFb FL_28_2 (eh e2_3)) (yS rfl (lb_ h21.v O_24 e0 hst R4) (yS rfl (m_ h40.v e0) (yS rfl (yLen SL_22 e0 hst (rdI F0)) QSn)))) ?_)
  refine Lc1 rfl ?_
  replace hst := hst.fz
  refine Lk wn (yCall FN_72 (a2 e0 e0)) (slices_Repeat_int_ok gr42 F0 hst) ?_
  rintro _ w ⟨h43, rfl, hst⟩
  refine ⟨_, rfl, ?_⟩
  refine Dn [] [0, 1] [6] (Rn (yS rfl (yFb FL_28_2 (eh e2_3)) (yS rfl (lb_ h21.v O_24 e0 hst R4) QSn)) ?_)
  refine Lc1 rfl ?_
  replace hst := hst.fz
  refine LH wn (rLt (n := 1) (l := [r42]) hst SL_24 [h43.v] (bp1 e0) rfl rfl (mks1 (cs := [h43.v]) rfl (mkS F0) mks0)) ?_
  intro h44 w hst
  refine Dn [] [0, 1] [7] (Rn (yS rfl (yFb FL_28_2 (eh e2_3)) (yS rfl (lb_ h21.v O_24 e0 hst R4) QSn)) ?_)
  refine Lc1 rfl ?_
  replace hst := hst.pk 4 [3, 0, 0, 0] rfl
  refine LH wn (rAp hst SL_24 e0 e0 rO1 gx46) ?_
  intro h45 w hst
  refine Dn [8] [] [9] (yR rfl (yFb FL_28_2 (eh e2_3)) (Rn QSn ?_))
  refine Lc1 rfl ?_
  replace hst := hst.pk 5 [4, 0, 0, 0, 0] rfl
  refine LT wn (r_stb1 (vals' := [h2.v, h10.v, h45.v]) hst O_24 e0 e0 rfl rfl rfl rfl) ?_
  intro w hst
  refine Dz [] [] (Rn QSn (qb20 _ _ _ (k19 _ _ (wR (yY (yadd (eh e2_16) rfl) (Ym (iV (wa .i64 x23 1)) e0 (wN ?_)))))))
  obtain rfl := someI hM2
  exact n2 _ _ _ rfl ⟨_, _, _, _, rfl, rfl, e2_2, e2_3, e2_14, e2_15, rfl, ((hst.pk 5 [3, 3, 1, 0] rfl).facts (allT (allT (allT (allT allI)))))⟩
 ·refine cF e0 c38 (wp_exit (z18 _ _ _ rfl ?_))
  obtain rfl := someI hM2
  exact zz2 _ _ _ _ rfl rfl (je2_0 _ _ _ _ e2_2 e2_3 hst (ho2 _ rfl))
theorem dissect_total_ok {x1 : LI} {h2 : Hdr} {out : Int} (hM : dissect_total x1 = some out) (q1 : imm I1 h2.v x1 ∈ ros) (hst : St w0 ros rs w) :
  Calls Tryz.prog 96 #[h2.v] w (fun e w => e = .returned (iV out) ∧ St w0 ros rs w) := by
 refine enterQ Tryz.func96 rfl Tryz.ntmps96 rfl fun Q hQ => sR fun _ k1 => Ya (iV 0) rfl (wK k1 (sR fun _ k2 => Ya (iV 0) rfl (wK k2 (sQ fun _ k3 => sR fun _ k4 => ?_))))
 refine Ym h2.v e0 (yY (yLen SL_22 e0 hst (rdI q1)) (Ym (iV 0) rfl (wK k4 (blockQ fun Q5 qb5 => ?_))))
 obtain ⟨o1, go1, hM⟩ := bs hM
 have je1_0 : ∀ (x11 : Int) (f : FV) (w : World), f 3 = iV x11 → St w0 ros rs w → x11 = o1 → Q5 (.exit 0) (fr 17 f) w := by
  intro x11 f w eje1_0_3 hst ho
  subst ho
  refine qb5 _ _ _ (k3 _ _ (sR fun _ k16 => Ym (iV x11) (eh eje1_0_3) (Ya (iV x11) e0 (wK k16 (wp_ret ?_)))))
  obtain rfl := someI hM
  exact hQ _ _ _ (fin1r Tryz.results96 ⟨rfl, rfl⟩ ⟨rfl, hst⟩)
 refine loopQ (fun s a w => ∃ (x5 x6 : Int) (f : FV), (x5, x6) = s ∧ a = fr 17 f ∧ f 3 = iV x5 ∧ f 6 = h2.v ∧ f 7 = iV (x1.length : Int) ∧ f 8 = iV x6 ∧ St w0 ros rs w) go1 ⟨_, _, _, rfl, rfl, rfl, rfl, rfl, rfl, hst⟩ ?_
 rintro _ _ w r1_ ⟨x5, x6, f, rfl, rfl, e1_3, e1_6, e1_7, e1_8, hst⟩ hM1 ho1 Q100001 n1 zz1
 refine sR fun _ k17 => yY (ylss (eh e1_8) (eh e1_7)) (wK k17 (seqQ fun Q18 k18 z18 => ?_))
 rcases iteS hM1 with ⟨c12, hM1⟩ | ⟨c12, hM1⟩
 ·refine cT e0 c12 (wp_skip (k18 _ _ (sQ fun _ k19 => blockQ fun _ qb20 => sR fun _ k21 => ?_)))
  obtain ⟨x13, gx13, hM1⟩ := bs hM1
  refine yY (yIa SL_22 (eh e1_6) (eh e1_8) hst (rdI q1) gx13) (yY (yI O_3 e0 hst (rdI q1) gx13) (Ya (iV x13) e0 (wK k21 (wR (Ym (iV x5) (eh e1_3) (Ym (iV x13) e0 (yY (yadd e0 e0) (Ya (iV (wa .i64 x5 x13)) e0 (wN (qb20 _ _ _ (k19 _ _ (wR ?_))))))))))))
  refine yY (yadd (eh e1_8) rfl) (Ym (iV (wa .i64 x6 1)) e0 (wN ?_))
  obtain rfl := someI hM1
  exact n1 _ _ _ rfl ⟨_, _, _, rfl, rfl, rfl, e1_6, e1_7, rfl, hst⟩
 ·refine cF e0 c12 (wp_exit (z18 _ _ _ rfl ?_))
  obtain rfl := someI hM1
  exact zz1 _ _ _ _ rfl rfl (je1_0 _ _ _ e1_3 hst (ho1 _ rfl))
end Go.Proofs.YthpeajepbffinaaGreat
