/- Walks: each function computes its model, printed. -/
import Derived.Test.YthpeajepbffinaaGreatW1
namespace Go.Proofs.YthpeajepbffinaaGreat
open Go Sx M
set_option maxRecDepth 100000
set_option maxHeartbeats 40000000
set_option linter.unusedVariables false
attribute [local irreducible] wpList Code.wp Calls DR QR QS LA LS St
variable {w0 : World} {ros : List Fact} {rs : List Res} {w : World}
theorem dissect_refine_ok {x1 : L2} {x3 : LI} {x5 : L2} {x7 : LI} {h2 h4 h6 h8 : Hdr} {out : LI} (hM : dissect_refine x1 x3 x5 x7 = some out) (q1 : imm S1 h2.v x1 ∈ ros) (q2 : imm I1 h4.v x3 ∈ ros) (q3 : imm S1 h6.v x5 ∈ ros) (hst : St w0 ros (row 3 I1 h8.v x7 :: rs) w) :
  Calls Tryz.prog 74 #[.agg #[h2.v, h4.v, h6.v], h8.v] w (fun e w => e = .returned (.tuple #[]) ∧ St w0 ros (row 3 I1 h8.v out :: rs) w) := by
 refine enterQ Tryz.func74 rfl Tryz.ntmps74 rfl fun Q hQ => sR fun _ k1 => YB wn rfl (r_box (vals := [h2.v, h4.v, h6.v]) hst e0 rfl) ?_
 intro b9 w hst
 refine wK k1 (sR fun _ k2 => YB wn rfl (rAl hst ZT_129) ?_)
 intro b10 w hst
 replace hst : St w0 ros (row 129 I1 (arrH b10 2).v [0, 0] :: box b9 28 [h2.v, h4.v, h6.v] :: row 3 I1 h8.v x7 :: rs) w := hst.boxRow rfl rfl rfl
 refine wK k2 (sQ fun _ k3 => sR fun _ k4 => Ym h8.v e0 (yY (yLen SL_22 e0 hst rO2) (Ym (iV 0) rfl (wK k4 (blockQ fun Q5 qb5 => ?_)))))
 obtain ⟨o1, go1, hM⟩ := bs hM
 have je1_0 : ∀ (x25 : LI) (f : FV) (w : World), f 1 = h8.v → f 2 = (pB b9) → f 4 = .pointer (arrH b10 2).a → St w0 ros (row 3 I1 h8.v x7 :: box b9 28 [h2.v, h4.v, h6.v] :: row 129 I1 (arrH b10 2).v x25 :: rs) w → x25 = o1 → Q5 (.exit 0) (fr 133 f) w := by
  intro x25 f w eje1_0_1 eje1_0_2 eje1_0_4 hst ho
  subst ho
  refine qb5 _ _ _ (k3 _ _ (sR fun _ k16 => ?_))
  obtain ⟨x26, gx26, hM⟩ := bs hM
  refine yY (yIaA AR_129 (eh eje1_0_4) rfl hst rO2 rfl gx26) (yY (yI O_3 e0 hst rO2 gx26) ?_)
  obtain ⟨x27, gx27, hM⟩ := bs hM
  refine yY (yIaA AR_129 (eh eje1_0_4) rfl hst rO2 rfl gx27) (yY (yI O_3 e0 hst rO2 gx27) (yY (yadd e0 e0) (Ya (iV (wa .i64 x26 x27)) e0 (wK k16 (sR fun _ k17 => Ym (iV 0) rfl (wK k17 (blockQ fun Q18 qb18 => ?_)))))))
  obtain ⟨o52, go52, hM⟩ := bs hM
  have je52_0 : ∀ (x564 : LI) (f : FV) (w : World), St w0 ros (row 3 I1 h8.v x564 :: rs) w → .inl x564 = o52 → Q18 (.exit 2) (fr 133 f) w := by
   intro x564 f w hst ho
   subst ho
   refine qb18 _ _ _ ?_
   obtain rfl := someI hM
   exact hQ _ _ _ (fin0n Tryz.results74 ⟨rfl, hst⟩)
  have je52_1 : ∀ (x565 : LI) (f : FV) (w : World), St w0 ros (row 3 I1 h8.v x565 :: rs) w → .inr x565 = o52 → Q18 .ret (fr 133 f) w := by
   intro x565 f w hst ho
   subst ho
   refine qb18 _ _ _ ?_
   obtain rfl := someI hM
   exact hQ _ _ _ (fin0r Tryz.results74 ⟨rfl, hst⟩)
  refine loopQ (fun s a w => ∃ (x293 x294 : LI) (x295 : Int) (f : FV), (x293, x294, x295) = s ∧ a = fr 133 f ∧ f 1 = h8.v ∧ f 2 = (pB b9) ∧ f 4 = .pointer (arrH b10 2).a ∧ f 7 = iV (wa .i64 x26 x27) ∧ f 37 = iV x295 ∧ St w0 ros (row 3 I1 h8.v x293 :: box b9 28 [h2.v, h4.v, h6.v] :: row 129 I1 (arrH b10 2).v x294 :: rs) w) go52 ⟨_, _, _, _, rfl, rfl, eje1_0_1, eje1_0_2, eje1_0_4, rfl, rfl, hst⟩ ?_
  rintro _ _ w r52_ ⟨x293, x294, x295, f, rfl, rfl, e52_1, e52_2, e52_4, e52_7, e52_37, hst⟩ hM52 ho52 Q100052 n52 zz52
  refine sR fun _ k229 => yY (ylss (eh e52_37) rfl) (wK k229 (seqQ fun Q230 k230 z230 => ?_))
  rcases iteS hM52 with ⟨c566, hM52⟩ | ⟨c566, hM52⟩
  ·refine cT e0 c566 (wp_skip (k230 _ _ (seqQ fun Q231 k231 z231 => blockQ fun _ qb232 => sR fun _ k233 => Ya (.bool false) rfl (wK k233 (sQ fun _ k234 => sR fun _ k235 => Ym h8.v (eh e52_1) ?_)))))
   refine yY (yLen SL_22 e0 hst rO0) (Ym (iV 0) rfl (wK k235 (blockQ fun Q236 qb236 => ?_)))
   obtain ⟨o69, go69, hM52⟩ := bs hM52
   have je69_0 : ∀ (x743 x744 : LI) (x745 : Bool) (f : FV) (w : World), f 1 = h8.v → f 2 = (pB b9) → f 4 = .pointer (arrH b10 2).a → f 7 = iV (wa .i64 x26 x27) → f 8 = .bool x745 → f 37 = iV x295 → St w0 ros (row 3 I1 h8.v x743 :: box b9 28 [h2.v, h4.v, h6.v] :: row 129 I1 (arrH b10 2).v x744 :: rs) w → (x743, x744, x745) = o69 → Q236 (.exit 4) (fr 133 f) w := by
    intro x743 x744 x745 f w eje69_0_1 eje69_0_2 eje69_0_4 eje69_0_7 eje69_0_8 eje69_0_37 hst ho
    subst ho
    refine qb236 _ _ _ (k234 _ _ (sR fun _ k301 => Ym (.bool x745) (eh eje69_0_8) (yY (ynot e0) (wK k301 ?_))))
    rcases iteS hM52 with ⟨c746, hM52⟩ | ⟨c746, hM52⟩
    ·refine condF e0 (nF c746) (wp_skip (qb232 _ _ _ (k231 _ _ (wR (yY (yadd (eh eje69_0_37) rfl) (Ym (iV (wa .i64 x295 1)) e0 (wN ?_)))))))
     obtain rfl := someI hM52
     exact n52 _ _ _ rfl ⟨_, _, _, _, rfl, rfl, eje69_0_1, eje69_0_2, eje69_0_4, eje69_0_7, rfl, hst⟩
    ·refine condT e0 (nT (bfalse c746)) (wp_ret (qb232 _ _ _ (z231 _ _ _ rfl ?_)))
     obtain rfl := someI hM52
     exact zz52 _ _ _ _ rfl rfl (je52_1 _ _ _ (hst.pk 3 [0] rfl) (ho52 _ rfl))
   refine loopQ (fun s a w => ∃ (x651 x652 : LI) (x653 : Bool) (x654 : Int) (f : FV), (x651, x652, x653, x654) = s ∧ a = fr 133 f ∧ f 1 = h8.v ∧ f 2 = (pB b9) ∧ f 4 = .pointer (arrH b10 2).a ∧ f 7 = iV (wa .i64 x26 x27) ∧ f 8 = .bool x653 ∧ f 37 = iV x295 ∧ f 39 = h8.v ∧ f 40 = iV (x293.length : Int) ∧ f 41 = iV x654 ∧ St w0 ros (row 3 I1 h8.v x651 :: box b9 28 [h2.v, h4.v, h6.v] :: row 129 I1 (arrH b10 2).v x652 :: rs) w) go69 ⟨_, _, _, _, _, rfl, rfl, e52_1, e52_2, e52_4, e52_7, rfl, e52_37, rfl, rfl, rfl, hst⟩ ?_
   rintro _ _ w r69_ ⟨x651, x652, x653, x654, f, rfl, rfl, e69_1, e69_2, e69_4, e69_7, e69_8, e69_37, e69_39, e69_40, e69_41, hst⟩ hM69 ho69 Q100069 n69 zz69
   refine sR fun _ k302 => yY (ylss (eh e69_41) (eh e69_40)) (wK k302 (seqQ fun Q303 k303 z303 => ?_))
   rcases iteS hM69 with ⟨c747, hM69⟩ | ⟨c747, hM69⟩
   ·refine cT e0 c747 (wp_skip (k303 _ _ (sQ fun _ k304 => blockQ fun Q305 qb305 => sR fun _ k306 => Ym (iV x654) (eh e69_41) ?_)))
    obtain ⟨x748, gx748, hM69⟩ := bs hM69
    refine yY (yIa SL_22 (eh e69_39) (eh e69_41) hst rO0 gx748) (yY (yI O_3 e0 hst rO0 gx748) (Ya (iV x654) e0 (Ya (iV x748) e0 (wK k306 (sR fun _ k307 => Ya (iV 0) rfl (wK k307 (sQ fun _ k308 => sR fun _ k309 => ?_)))))))
    refine yY (yFb FL_28_0 (eh e69_2)) (yY (yFb FL_26_0 e0) (yY (lb_ h2.v O_24 e0 hst R1) (Ym (iV x654) e0 ?_)))
    obtain ⟨x749, gx749, hM69⟩ := bs hM69
    refine yY (yIa SL_24 e0 e0 hst (rdI q1) gx749) ?_
    obtain ⟨h750, hst⟩ := iLs hst q1 gx749
    refine yY (yCt O_22 e0 hst F1 rfl) (yY (yLen SL_22 e0 hst (rdI F0)) (Ym (iV 0) rfl (wK k309 (blockQ fun Q310 qb310 => ?_))))
    obtain ⟨o72, go72, hM69⟩ := bs hM69
    have je72_0 : ∀ (x789 : Int) (f : FV) (w : World), f 1 = h8.v → f 2 = (pB b9) → f 4 = .pointer (arrH b10 2).a → f 7 = iV (wa .i64 x26 x27) → f 8 = .bool x653 → f 9 = iV x654 → f 10 = iV x748 → f 11 = iV x789 → f 37 = iV x295 → f 39 = h8.v → f 40 = iV (x293.length : Int) → f 41 = iV x654 → St w0 ros (row 3 I1 h8.v x651 :: box b9 28 [h2.v, h4.v, h6.v] :: row 129 I1 (arrH b10 2).v x652 :: rs) w → x789 = o72 → Q310 (.exit 6) (fr 133 f) w := by
     intro x789 f w eje72_0_1 eje72_0_2 eje72_0_4 eje72_0_7 eje72_0_8 eje72_0_9 eje72_0_10 eje72_0_11 eje72_0_37 eje72_0_39 eje72_0_40 eje72_0_41 hst ho
     subst ho
     refine qb310 _ _ _ (k308 _ _ (sQ fun _ k323 => ?_))
     obtain ⟨r790, gr790, hM69⟩ := bs hM69
     refine joinN (n := 133) (fun f w => f 1 = h8.v ∧ f 2 = (pB b9) ∧ f 4 = .pointer (arrH b10 2).a ∧ f 7 = iV (wa .i64 x26 x27) ∧ f 8 = .bool x653 ∧ f 9 = iV x654 ∧ f 10 = iV x748 ∧ f 37 = iV x295 ∧ f 39 = h8.v ∧ f 40 = iV (x293.length : Int) ∧ f 41 = iV x654 ∧ f 102 = .bool r790 ∧ St w0 ros (row 3 I1 h8.v x651 :: box b9 28 [h2.v, h4.v, h6.v] :: row 129 I1 (arrH b10 2).v x652 :: rs) w) (fun j73 => ?_) ?_
     ·rcases iteS gr790 with ⟨c793, gr790⟩ | ⟨c793, gr790⟩
      ·obtain ⟨x794, gx794, gr790⟩ := bs gr790
       obtain ⟨x795, gx795, gr790⟩ := bs gr790
       have hr74 := someI gr790
       refine dR [0, 1, 3, 7, 15, 31, 63, 7, 135, 7, 903, 1927, 4095, 8191, 7, 16391, 65535, 131071] [] 0 folM ?_
       replace hst := hst.drew
       refine Dz [0, 1, 2, 3, 4, 5, 6, 7, 8, 9, 10, 11, 12, 13, 14, 15, 16, 17] [] (yR rfl (m_ (iV x789) (eh eje72_0_11)) (yR rfl (ygtr e0 rfl) (yR rfl (m_ (.bool (decide ((0 : Int) < x789))) e0) (Ry rfl rfl (wG (dT c793)) (m_ (iV x748) (eh eje72_0_10)) (Ry rfl rfl (wG (dT c793)) (ysub rfl e0) (Ry rfl rfl (wG (dT c793)) (yIaA AR_129 (eh eje72_0_4) e0 hst rO2 rfl gx794) (Ry rfl rfl (wG (dT c793)) (yI O_3 e0 hst rO2 gx794) (Ry rfl rfl (wG (dT c793)) (yFb FL_28_1 (eh eje72_0_2)) (Ry rfl rfl (wG (dT c793)) (lb_ h4.v O_22 e0 hst R1) (Ry rfl rfl (wG (dT c793)) (m_ (iV x654) (eh eje72_0_9)) (Ry rfl rfl (wG (dT c793)) (yIa SL_22 e0 e0 hst (rdI q2) gx795) (Ry rfl rfl (wG (dT c793)) (yI O_3 e0 hst (rdI q2) gx795) (Ry rfl rfl (wG (dT c793)) (yadd e0 e0) ?_)))))))))))))
       exact Ry rfl rfl (wG (dT c793)) (ymul rfl e0) (Ry rfl rfl (wG (dT c793)) (m_ (iV (wa .i64 x26 x27)) (eh eje72_0_7)) (Ry rfl rfl (wG (dT c793)) (ymul rfl e0) (Ry rfl rfl (wG (dT c793)) (yleq e0 e0) (yR rfl (pt_ (.bool r790) e0 (dT c793) (eqv hr74 e0)) (Rn QSn (j73 _ _ ⟨eje72_0_1, eje72_0_2, eje72_0_4, eje72_0_7, eje72_0_8, eje72_0_9, eje72_0_10, eje72_0_37, eje72_0_39, eje72_0_40, eje72_0_41, rfl, hst⟩))))))
      ·have hr75 := someI gr790
       refine dR [0, 1, 3, 7, 15, 31, 63, 7, 135, 7, 903, 1927, 4095, 8191, 7, 16391, 65535, 131071] [] 0 folM ?_
       replace hst := hst.drew
       refine Dz [0, 1, 2, 3, 4, 5, 6, 7, 8, 9, 10, 11, 12, 13, 14, 15, 16, 17] [] (yR rfl (m_ (iV x789) (eh eje72_0_11)) (yR rfl (ygtr e0 rfl) (yR rfl (m_ (.bool (decide ((0 : Int) < x789))) e0) (Rx rfl rfl (wX (dF c793)) (Rx rfl rfl (wX (dF c793)) (Rx rfl rfl (wX (dF c793)) (Rx rfl rfl (wX (dF c793)) (Rx rfl rfl (wX (dF c793)) (Rx rfl rfl (wX (dF c793)) (Rx rfl rfl (wX (dF c793)) (Rx rfl rfl (wX (dF c793)) (Rx rfl rfl (wX (dF c793)) (Rx rfl rfl (wX (dF c793)) ?_)))))))))))))
       exact Rx rfl rfl (wX (dF c793)) (Rx rfl rfl (wX (dF c793)) (Rx rfl rfl (wX (dF c793)) (Rx rfl rfl (wX (dF c793)) (yR rfl (pf_ (.bool r790) e0 (dF c793) (eqv hr75 rfl)) (Rn QSn (j73 _ _ ⟨eje72_0_1, eje72_0_2, eje72_0_4, eje72_0_7, eje72_0_8, eje72_0_9, eje72_0_10, eje72_0_37, eje72_0_39, eje72_0_40, eje72_0_41, rfl, hst⟩))))))
     rintro f w ⟨e791_1, e791_2, e791_4, e791_7, e791_8, e791_9, e791_10, e791_37, e791_39, e791_40, e791_41, e791_102, hst⟩
     refine k323 _ _ ?_
     have j76 : ∀ (x803 x804 : LI) (x805 : Bool) (f : FV) (w : World), f 1 = h8.v → f 2 = (pB b9) → f 4 = .pointer (arrH b10 2).a → f 7 = iV (wa .i64 x26 x27) → f 8 = .bool x805 → f 37 = iV x295 → f 39 = h8.v → f 40 = iV (x293.length : Int) → f 41 = iV x654 → St w0 ros (row 3 I1 h8.v x803 :: box b9 28 [h2.v, h4.v, h6.v] :: row 129 I1 (arrH b10 2).v x804 :: rs) w → dissect_refine_j76 x654 x803 x804 x805 = some r69_ → Q305 .normal (fr 133 f) w := by
      intro x803 x804 x805 f w ej76_1 ej76_2 ej76_4 ej76_7 ej76_8 ej76_37 ej76_39 ej76_40 ej76_41 hst hM
      refine qb305 _ _ _ (k304 _ _ (wR (yY (yadd (eh ej76_41) rfl) (Ym (iV (wa .i64 x654 1)) e0 (wN ?_)))))
      obtain rfl := someI hM
      exact n69 _ _ _ rfl ⟨_, _, _, _, _, rfl, rfl, ej76_1, ej76_2, ej76_4, ej76_7, ej76_8, ej76_37, ej76_39, ej76_40, rfl, hst⟩
     rcases iteS hM69 with ⟨c806, hM69⟩ | ⟨c806, hM69⟩
     ·refine condT (eh e791_102) c806 (sR fun _ k326 => Ym h8.v (eh e791_1) (Ym (iV x654) (eh e791_9) (Ym (iV x748) (eh e791_10) (yY (ysub rfl e0) ?_))))
      obtain ⟨x807, gx807, hM69⟩ := bs hM69
      refine yY (yIs SL_22 e0 e0 hst rO0 gx807) (YT wn rfl (r_sti (cs := [iV (ws .i64 1 x748)]) hst O_3 rfl e0 e0 rfl mkI gx807) ?_)
      intro w hst
      refine Ya (.bool true) rfl (wK k326 (sQ fun _ k327 => ?_))
      obtain ⟨x808, gx808, hM69⟩ := bs hM69
      obtain ⟨x809, gx809, hM69⟩ := bs hM69
      obtain ⟨x810, gx810, hM69⟩ := bs hM69
      refine dR [0, 1, 3, 0, 8, 0, 56, 120, 255, 511, 1023] [10] 1 folM ?_
      replace hst := hst.drew
      refine Dn [0, 1, 2, 3, 4, 5, 6, 7, 8, 9] [] [10] (yR rfl (m_ (iV x748) (eh e791_10)) (yR rfl (yIaA AR_129 (eh e791_4) e0 hst rO2 rfl gx808) (yR rfl (yI O_3 e0 hst rO2 gx808) (yR rfl (yFb FL_28_1 (eh e791_2)) (yR rfl (lb_ h4.v O_22 e0 hst R1) (yR rfl (m_ (iV x654) (eh e791_9)) (yR rfl (yIa SL_22 e0 e0 hst (rdI q2) gx809) (yR rfl (yI O_3 e0 hst (rdI q2) gx809) (yR rfl (ysub e0 e0) (yR rfl (yIsA AR_129 (eh e791_4) e0 hst rO2 rfl gx810) (Rn QSn ?_)))))))))))
      refine Lc1 rfl ?_
      replace hst := hst.pk 3 [2, 0, 0] rfl
      refine LT wn (r_sti (cs := [iV (ws .i64 x808 x809)]) hst O_3 rfl e0 e0 rfl mkI gx810) ?_
      intro w hst
      refine Dz [] [] (Rn QSn (k327 _ _ ?_))
      obtain ⟨x811, gx811, hM69⟩ := bs hM69
      obtain ⟨x812, gx812, hM69⟩ := bs hM69
      obtain ⟨x813, gx813, hM69⟩ := bs hM69
      refine dR [0, 1, 3, 7, 0, 16, 0, 112, 240, 511, 1023, 2047] [11] 1 folM ?_
      replace hst := hst.drew
      refine Dn [0, 1, 2, 3, 4, 5, 6, 7, 8, 9, 10] [] [11] (yR rfl (m_ (iV x748) (eh e791_10)) (yR rfl (ysub rfl e0) (yR rfl (yIaA AR_129 (eh e791_4) e0 hst rO0 rfl gx811) (yR rfl (yI O_3 e0 hst rO0 gx811) (yR rfl (yFb FL_28_1 (eh e791_2)) (yR rfl (lb_ h4.v O_22 e0 hst R2) (yR rfl (m_ (iV x654) (eh e791_9)) (yR rfl (yIa SL_22 e0 e0 hst (rdI q2) gx812) (yR rfl (yI O_3 e0 hst (rdI q2) gx812) (yR rfl (yadd e0 e0) (yR rfl (yIsA AR_129 (eh e791_4) e0 hst rO0 rfl gx813) (Rn QSn ?_))))))))))))
      refine Lc1 rfl ?_
      refine LT wn (r_sti (cs := [iV (wa .i64 x811 x812)]) hst O_3 rfl e0 e0 rfl mkI gx813) ?_
      intro w hst
      exact Dz [] [] (Rn QSn (j76 _ _ _ _ _ e791_1 e791_2 e791_4 e791_7 rfl e791_37 e791_39 e791_40 e791_41 (hst.pk 3 [1, 1, 0] rfl) hM69))
     ·exact condF (eh e791_102) (bfalse c806) (wp_skip (j76 _ _ _ _ _ e791_1 e791_2 e791_4 e791_7 e791_8 e791_37 e791_39 e791_40 e791_41 hst hM69))
    refine loopQ (fun s a w => ∃ (x768 x769 : Int) (f : FV), (x768, x769) = s ∧ a = fr 133 f ∧ f 1 = h8.v ∧ f 2 = (pB b9) ∧ f 4 = .pointer (arrH b10 2).a ∧ f 7 = iV (wa .i64 x26 x27) ∧ f 8 = .bool x653 ∧ f 9 = iV x654 ∧ f 10 = iV x748 ∧ f 11 = iV x768 ∧ f 37 = iV x295 ∧ f 39 = h8.v ∧ f 40 = iV (x293.length : Int) ∧ f 41 = iV x654 ∧ f 51 = h750.v ∧ f 52 = iV (x749.length : Int) ∧ f 53 = iV x769 ∧ St w0 (imm I1 h750.v x749 :: ros) (row 3 I1 h8.v x651 :: box b9 28 [h2.v, h4.v, h6.v] :: row 129 I1 (arrH b10 2).v x652 :: rs) w) go72 ⟨_, _, _, rfl, rfl, e69_1, e69_2, e69_4, e69_7, e69_8, rfl, rfl, rfl, e69_37, e69_39, e69_40, e69_41, rfl, rfl, rfl, (hst.facts (allC F0 (allT (allT allI))))⟩ ?_
    rintro _ _ w r72_ ⟨x768, x769, f, rfl, rfl, e72_1, e72_2, e72_4, e72_7, e72_8, e72_9, e72_10, e72_11, e72_37, e72_39, e72_40, e72_41, e72_51, e72_52, e72_53, hst⟩ hM72 ho72 Q100072 n72 zz72
    refine sR fun _ k328 => yY (ylss (eh e72_53) (eh e72_52)) (wK k328 (seqQ fun Q329 k329 z329 => ?_))
    rcases iteS hM72 with ⟨c814, hM72⟩ | ⟨c814, hM72⟩
    ·refine cT e0 c814 (wp_skip (k329 _ _ (sQ fun _ k330 => blockQ fun Q331 qb331 => sR fun _ k332 => Ym (iV x769) (eh e72_53) ?_)))
     obtain ⟨x815, gx815, hM72⟩ := bs hM72
     refine yY (yIa SL_22 (eh e72_51) (eh e72_53) hst (rdI F0) gx815) (yY (yI O_3 e0 hst (rdI F0) gx815) (Ya (iV x769) e0 (Ya (iV x815) e0 (wK k332 (sR fun _ k333 => Ym h8.v (eh e72_1) (Ym (iV x815) e0 ?_))))))
     obtain ⟨x816, gx816, hM72⟩ := bs hM72
     refine yY (yIa SL_22 e0 e0 hst rO0 gx816) (yY (yI O_3 e0 hst rO0 gx816) (Ym (iV x748) (eh e72_10) (yY (yneq e0 e0) (wK k333 ?_))))
     have j77 : ∀ (x823 : Int) (f : FV) (w : World), f 1 = h8.v → f 2 = (pB b9) → f 4 = .pointer (arrH b10 2).a → f 7 = iV (wa .i64 x26 x27) → f 8 = .bool x653 → f 9 = iV x654 → f 10 = iV x748 → f 11 = iV x823 → f 37 = iV x295 → f 39 = h8.v → f 40 = iV (x293.length : Int) → f 41 = iV x654 → f 51 = h750.v → f 52 = iV (x749.length : Int) → f 53 = iV x769 → St w0 (imm I1 h750.v x749 :: ros) (row 3 I1 h8.v x651 :: box b9 28 [h2.v, h4.v, h6.v] :: row 129 I1 (arrH b10 2).v x652 :: rs) w → dissect_refine_j77 x769 x823 = some r72_ → Q331 .normal (fr 133 f) w := by
      intro x823 f w ej77_1 ej77_2 ej77_4 ej77_7 ej77_8 ej77_9 ej77_10 ej77_11 ej77_37 ej77_39 ej77_40 ej77_41 ej77_51 ej77_52 ej77_53 hst hM
      refine qb331 _ _ _ (k330 _ _ (wR (yY (yadd (eh ej77_53) rfl) (Ym (iV (wa .i64 x769 1)) e0 (wN ?_)))))
      obtain rfl := someI hM
      exact n72 _ _ _ rfl ⟨_, _, _, rfl, rfl, ej77_1, ej77_2, ej77_4, ej77_7, ej77_8, ej77_9, ej77_10, ej77_11, ej77_37, ej77_39, ej77_40, ej77_41, ej77_51, ej77_52, rfl, hst⟩
     rcases iteS hM72 with ⟨c824, hM72⟩ | ⟨c824, hM72⟩
     ·refine condF e0 (nF (dT c824)) (wR (Ym (iV x768) (eh e72_11) (yY (yFb FL_28_2 (eh e72_2)) (yY (lb_ h6.v O_24 e0 hst R1) (Ym (iV x654) (eh e72_9) ?_)))))
      obtain ⟨x825, gx825, hM72⟩ := bs hM72
      refine yY (yIa SL_24 e0 e0 hst (rdI (mtF q3)) gx825) ?_
      obtain ⟨h826, hst⟩ := iLs hst (mtF q3) gx825
      refine yY (yCt O_22 e0 hst F1 rfl) (Ym (iV x769) e0 ?_)
      obtain ⟨x827, gx827, hM72⟩ := bs hM72
      exact yY (yIa SL_22 e0 e0 hst (rdI F0) gx827) (yY (yI O_3 e0 hst (rdI F0) gx827) (yY (ysub e0 e0) (Ya (iV (ws .i64 x768 x827)) e0 (wN (j77 _ _ _ e72_1 e72_2 e72_4 e72_7 e72_8 e72_9 e72_10 rfl e72_37 e72_39 e72_40 e72_41 e72_51 e72_52 e72_53 (hst.facts (allC F2 (allT (allT (allT allI))))) hM72)))))
     ·refine condT e0 (nT (dF c824)) (wR (Ym (iV x768) (eh e72_11) (yY (yFb FL_28_2 (eh e72_2)) (yY (lb_ h6.v O_24 e0 hst R1) (Ym (iV x654) (eh e72_9) ?_)))))
      obtain ⟨x828, gx828, hM72⟩ := bs hM72
      refine yY (yIa SL_24 e0 e0 hst (rdI (mtF q3)) gx828) ?_
      obtain ⟨h829, hst⟩ := iLs hst (mtF q3) gx828
      refine yY (yCt O_22 e0 hst F1 rfl) (Ym (iV x769) e0 ?_)
      obtain ⟨x830, gx830, hM72⟩ := bs hM72
      exact yY (yIa SL_22 e0 e0 hst (rdI F0) gx830) (yY (yI O_3 e0 hst (rdI F0) gx830) (yY (yadd e0 e0) (Ya (iV (wa .i64 x768 x830)) e0 (wN (j77 _ _ _ e72_1 e72_2 e72_4 e72_7 e72_8 e72_9 e72_10 rfl e72_37 e72_39 e72_40 e72_41 e72_51 e72_52 e72_53 (hst.facts (allC F2 (allT (allT (allT allI))))) hM72)))))
    ·refine cF e0 c814 (wp_exit (z329 _ _ _ rfl ?_))
     obtain rfl := someI hM72
     exact zz72 _ _ _ _ rfl rfl (je72_0 _ _ _ e72_1 e72_2 e72_4 e72_7 e72_8 e72_9 e72_10 e72_11 e72_37 e72_39 e72_40 e72_41 (hst.facts (allT allI)) (ho72 _ rfl))
   ·refine cF e0 c747 (wp_exit (z303 _ _ _ rfl ?_))
    obtain rfl := someI hM69
    exact zz69 _ _ _ _ rfl rfl (je69_0 _ _ _ _ _ e69_1 e69_2 e69_4 e69_7 e69_8 e69_37 hst (ho69 _ rfl))
  ·refine cF e0 c566 (wp_exit (z230 _ _ _ rfl ?_))
   obtain rfl := someI hM52
   exact zz52 _ _ _ _ rfl rfl (je52_0 _ _ _ (hst.pk 3 [0] rfl) (ho52 _ rfl))
 refine loopQ (fun s a w => ∃ (x16 : LI) (x17 : Int) (f : FV), (x16, x17) = s ∧ a = fr 133 f ∧ f 1 = h8.v ∧ f 2 = (pB b9) ∧ f 4 = .pointer (arrH b10 2).a ∧ f 14 = h8.v ∧ f 15 = iV (x7.length : Int) ∧ f 16 = iV x17 ∧ St w0 ros (row 3 I1 h8.v x7 :: box b9 28 [h2.v, h4.v, h6.v] :: row 129 I1 (arrH b10 2).v x16 :: rs) w) go1 ⟨_, _, _, rfl, rfl, rfl, rfl, rfl, rfl, rfl, rfl, (hst.pk 3 [2, 1, 0] rfl)⟩ ?_
 rintro _ _ w r1_ ⟨x16, x17, f, rfl, rfl, e1_1, e1_2, e1_4, e1_14, e1_15, e1_16, hst⟩ hM1 ho1 Q100001 n1 zz1
 refine sR fun _ k334 => yY (ylss (eh e1_16) (eh e1_15)) (wK k334 (seqQ fun Q335 k335 z335 => ?_))
 rcases iteS hM1 with ⟨c831, hM1⟩ | ⟨c831, hM1⟩
 ·refine cT e0 c831 (wp_skip (k335 _ _ (sQ fun _ k336 => blockQ fun _ qb337 => sR fun _ k338 => Ym (iV x17) (eh e1_16) ?_)))
  obtain ⟨x832, gx832, hM1⟩ := bs hM1
  refine yY (yIa SL_22 (eh e1_14) (eh e1_16) hst rO0 gx832) (yY (yI O_3 e0 hst rO0 gx832) (Ya (iV x17) e0 (Ya (iV x832) e0 (wK k338 ?_))))
  obtain ⟨x833, gx833, hM1⟩ := bs hM1
  obtain ⟨x834, gx834, hM1⟩ := bs hM1
  obtain ⟨x835, gx835, hM1⟩ := bs hM1
  refine dR [0, 1, 3, 0, 8, 0, 56, 120, 255, 511, 1023] [10] 1 folM ?_
  replace hst := hst.drew
  refine Dn [0, 1, 2, 3, 4, 5, 6, 7, 8, 9] [] [10] (yR rfl (m_ (iV x832) e0) (yR rfl (yIaA AR_129 (eh e1_4) e0 hst rO2 rfl gx833) (yR rfl (yI O_3 e0 hst rO2 gx833) (yR rfl (yFb FL_28_1 (eh e1_2)) (yR rfl (lb_ h4.v O_22 e0 hst R1) (yR rfl (m_ (iV x17) e0) (yR rfl (yIa SL_22 e0 e0 hst (rdI q2) gx834) (yR rfl (yI O_3 e0 hst (rdI q2) gx834) (yR rfl (yadd e0 e0) (yR rfl (yIsA AR_129 (eh e1_4) e0 hst rO2 rfl gx835) (Rn QSn ?_)))))))))))
  refine Lc1 rfl ?_
  replace hst := hst.pk 3 [2, 0, 0] rfl
  refine LT wn (r_sti (cs := [iV (wa .i64 x833 x834)]) hst O_3 rfl e0 e0 rfl mkI gx835) ?_
  intro w hst
  refine Dz [] [] (Rn QSn (qb337 _ _ _ (k336 _ _ (wR (yY (yadd (eh e1_16) rfl) (Ym (iV (wa .i64 x17 1)) e0 (wN ?_)))))))
  obtain rfl := someI hM1
  exact n1 _ _ _ rfl ⟨_, _, _, rfl, rfl, e1_1, e1_2, e1_4, e1_14, e1_15, rfl, (hst.pk 3 [1, 1, 0] rfl)⟩
 ·refine cF e0 c831 (wp_exit (z335 _ _ _ rfl ?_))
  obtain rfl := someI hM1
  exact zz1 _ _ _ _ rfl rfl (je1_0 _ _ _ e1_1 e1_2 e1_4 hst (ho1 _ rfl))
theorem dissect_bisect_step {rec : L2 → LI → L2 → Option (LI × Bool)} (hrec : ∀ {w0 : World} {ros : List Fact} {rs : List Res} {w : World} {x1 : L2} {x3 : LI} {x5 : L2} {h2 h4 h6 : Hdr} {out : LI × Bool} (hM : rec x1 x3 x5 = some out) (q1 : imm S1 h2.v x1 ∈ ros) (q2 : imm I1 h4.v x3 ∈ ros) (q3 : imm S1 h6.v x5 ∈ ros) (hst : St w0 ros rs w), Calls Tryz.prog 43 #[.agg #[h2.v, h4.v, h6.v]] w (fun e w => ∃ (h100001 : Hdr), e = .returned (.tuple #[h100001.v, .bool out.2]) ∧ St w0 ros (row 3 I1 h100001.v out.1 :: rs) w)) {w0 : World} {ros : List Fact} {rs : List Res} {w : World} {x1 : L2} {x3 : LI} {x5 : L2} {h2 h4 h6 : Hdr} {out : LI × Bool} (hM : dissect_bisect_body rec x1 x3 x5 = some out) (q1 : imm S1 h2.v x1 ∈ ros) (q2 : imm I1 h4.v x3 ∈ ros) (q3 : imm S1 h6.v x5 ∈ ros) (hst : St w0 ros rs w) :
  Calls Tryz.prog 43 #[.agg #[h2.v, h4.v, h6.v]] w (fun e w => ∃ (h100001 : Hdr), e = .returned (.tuple #[h100001.v, .bool out.2]) ∧ St w0 ros (row 3 I1 h100001.v out.1 :: rs) w) := by
 refine enterQ Tryz.func43 rfl Tryz.ntmps43 rfl fun Q hQ => sR fun _ k1 => YB wn rfl (r_box (vals := [h2.v, h4.v, h6.v]) hst e0 rfl) ?_
 intro b7 w hst
 refine Ya hnil.v rfl (Ya (.bool false) rfl (wK k1 (sR fun _ k2 => yY (lbs_ [h2.v, h4.v, h6.v] ST_28 e0 hst R0) ?_)))
 obtain ⟨r8, gr8, hM⟩ := bs hM
 refine Yc wn rfl (yCall FN_73 (a1 e0)) (dissect_grown_ok gr8 q1 q2 q3 hst) ?_
 rintro _ w ⟨h9, rfl, hst⟩
 refine ⟨_, rfl, ?_⟩
 refine Ya h9.v e0 (wK k2 (seqQ fun Q3 k3 z3 => sR fun _ k4 => yY (yFb FL_28_1 e0) (yY (lb_ h4.v O_22 e0 hst R1) (yY (yLen SL_22 e0 hst (rdI q2)) (yY (ygtr e0 rfl) (wK k4 ?_))))))
 have j5 : ∀ (x71 : LI) (f : FV) (w : World), f 1 = (pB b7) → f 4 = h9.v → St w0 ros (box b7 28 [h2.v, h4.v, h6.v] :: row 3 I1 h9.v x71 :: rs) w → dissect_bisect_j5 x1 x3 x5 x71 = some out → Q3 .normal (fr 61 f) w := by
  intro x71 f w ej5_1 ej5_4 hst hM
  refine k3 _ _ (sR fun _ k52 => yY (lbs_ [h2.v, h4.v, h6.v] ST_28 (eh ej5_1) hst R0) (Ym h9.v (eh ej5_4) ?_))
  obtain ⟨r72, gr72, hM⟩ := bs hM
  replace hst := hst.pk 2 [1, 0] rfl
  refine Yc wn rfl (yCall FN_74 (a2 e0 e0)) (dissect_refine_ok gr72 q1 q2 q3 hst) ?_
  rintro _ w ⟨rfl, hst⟩
  refine ⟨_, rfl, ?_⟩
  refine wK k52 (sR fun _ k53 => Ym h9.v (eh ej5_4) (Ya h9.v e0 (Ya (.bool true) rfl (wK k53 (wp_ret ?_)))))
  obtain rfl := someI hM
  exact hQ _ _ _ (fin2r Tryz.results43 ⟨rfl, rfl⟩ ⟨rfl, rfl⟩ ⟨_, rfl, (hst.pk 2 [0] rfl)⟩)
 rcases iteS hM with ⟨c73, hM⟩ | ⟨c73, hM⟩
 ·refine cT e0 c73 (sQ fun _ k54 => ?_)
  obtain ⟨r74, gr74, hM⟩ := bs hM
  obtain ⟨r76, gr76, hM⟩ := bs hM
  refine joinN (n := 61) (fun f w => ∃ (b84 : Nat) (h85 : Hdr) (y86 : List Hdr) (h87 h88 : Hdr) (y89 : List Hdr) (h90 : Hdr), f 1 = (pB b7) ∧ f 4 = h9.v ∧ f 5 = (pB b84) ∧ f 6 = h90.v ∧ f 7 = .bool r76.2.2.2.2 ∧ St w0 (imm I1 h87.v r76.2.1 :: ros) (box b7 28 [h2.v, h4.v, h6.v] :: row 3 I1 h9.v r8 :: row 22 rH h85.v y86 :: fam 3 I1 y86 r76.1 :: row 22 rH h88.v y89 :: fam 3 I1 y89 r76.2.2.1 :: box b84 28 [h85.v, h87.v, h88.v] :: row 3 I1 h90.v r76.2.2.2.1 :: rs) w) (fun j6 => ?_) ?_
  ·refine dR [0, 0, 2, 7, 15, 31, 31, 31, 0, 319, 895, 2047] [2, 3, 8, 9, 10, 11] 6 folM ?_
   replace hst := hst.drew
   refine Dn [0, 1] [] [2, 8] (yR rfl (lbs_ [h2.v, h4.v, h6.v] ST_28 e0 hst R1) (yR rfl (lbs_ [h2.v, h4.v, h6.v] ST_28 e0 hst R1) (Rn QSn ?_)))
   refine Lc rfl ?_ (Lc1 rfl ?_)
   ·refine Lk wn (yCall FN_40 (a1 e0)) (dissect_match_ok gr74 q1 q2 q3 hst) ?_
    rintro _ w ⟨h75, rfl, hst⟩
    refine ⟨_, rfl, ?_⟩
    refine Dn [] [0] [3, 8] (Rn (yS rfl (lbs_ [h2.v, h4.v, h6.v] ST_28 e0 hst R2) QSn) ?_)
    refine Lc rfl ?_ (Lc1 rfl ?_)
    ·replace hst := hst.fz
     refine Lk wn (yCall FN_42 (a2 e0 e0)) (dissect_coarsen_ok gr76 (mtF q1) (mtF q2) (mtF q3) F0 hst) ?_
     rintro _ w ⟨h77, y78, h79, h80, y81, h82, rfl, hst⟩
     refine ⟨_, rfl, ?_⟩
     refine Dn [4, 5, 6, 7] [] [8] (yR rfl (m_ (.tuple #[.agg #[h77.v, h79.v, h80.v], h82.v, .bool r76.2.2.2.2]) e0) (yR rfl (x_ (.agg #[h77.v, h79.v, h80.v]) e0) (yR rfl (x_ h82.v e0) (yR rfl (x_ (.bool r76.2.2.2.2) e0) (Rn QSn ?_)))))
     refine Lc1 rfl ?_
     refine LB wn (rAl hst ZT_28) ?_
     intro b83 w hst
     refine Dn [] [4, 5, 6, 7] [9] (Rn (yS rfl (m_ (.tuple #[.agg #[h77.v, h79.v, h80.v], h82.v, .bool r76.2.2.2.2]) e0) (yS rfl (x_ (.agg #[h77.v, h79.v, h80.v]) e0) (yS rfl (x_ h82.v e0) (yS rfl (x_ (.bool r76.2.2.2.2) e0) QSn)))) ?_)
     refine Lc1 rfl ?_
     refine LT wn (r_stbn (vals' := [h77.v, h79.v, h80.v]) (us := [h77.v, h79.v, h80.v]) hst ST_28 e0 e0 rfl rfl (one_of rfl) rfl) ?_
     intro w hst
     refine Dn [] [6, 7] [10] (Rn (yS rfl (x_ h82.v e0) (yS rfl (x_ (.bool r76.2.2.2.2) e0) QSn)) ?_)
     refine Lc1 rfl ?_
     refine Ly wn (a_ h82.v e0) (Dn [] [7] [11] (Rn (yS rfl (x_ (.bool r76.2.2.2.2) e0) QSn) ?_))
     refine Lc1 rfl ?_
     exact Ly wn (a_ (.bool r76.2.2.2.2) e0) (Dz [] [] (Rn QSn (j6 _ _ ⟨_, _, _, _, _, _, _, rfl, rfl, rfl, rfl, rfl, ((hst.pk 8 [7, 6, 1, 1, 1, 1, 0, 0] rfl).facts (allC F0 (allT (allT allI))))⟩)))
    ·refine LB wn (rAl hst ZT_28) ?_
     intro b83 w hst
     refine Dn [] [0] [3] (Rn (yS rfl (lbs_ [h2.v, h4.v, h6.v] ST_28 e0 hst R3) QSn) ?_)
     refine Lc1 rfl ?_
     replace hst := hst.pk 2 [1, 0] rfl
     replace hst := hst.fz
     refine Lk wn (yCall FN_42 (a2 e0 e0)) (dissect_coarsen_ok gr76 (mtF q1) (mtF q2) (mtF q3) F0 hst) ?_
     rintro _ w ⟨h77, y78, h79, h80, y81, h82, rfl, hst⟩
     refine ⟨_, rfl, ?_⟩
     refine Dn [4, 5, 6, 7] [] [9] (yR rfl (m_ (.tuple #[.agg #[h77.v, h79.v, h80.v], h82.v, .bool r76.2.2.2.2]) e0) (yR rfl (x_ (.agg #[h77.v, h79.v, h80.v]) e0) (yR rfl (x_ h82.v e0) (yR rfl (x_ (.bool r76.2.2.2.2) e0) (Rn QSn ?_)))))
     refine Lc1 rfl ?_
     replace hst := hst.pk 6 [5, 0, 0, 0, 0, 0] rfl
     refine LT wn (r_stbn (vals' := [h77.v, h79.v, h80.v]) (us := [h77.v, h79.v, h80.v]) hst ST_28 e0 e0 rfl rfl (one_of rfl) rfl) ?_
     intro w hst
     refine Dn [] [6, 7] [10] (Rn (yS rfl (x_ h82.v e0) (yS rfl (x_ (.bool r76.2.2.2.2) e0) QSn)) ?_)
     refine Lc1 rfl ?_
     refine Ly wn (a_ h82.v e0) (Dn [] [7] [11] (Rn (yS rfl (x_ (.bool r76.2.2.2.2) e0) QSn) ?_))
     refine Lc1 rfl ?_
     exact Ly wn (a_ (.bool r76.2.2.2.2) e0) (Dz [] [] (Rn QSn (j6 _ _ ⟨_, _, _, _, _, _, _, rfl, rfl, rfl, rfl, rfl, ((hst.pk 8 [7, 6, 1, 1, 1, 1, 0, 0] rfl).facts (allC F0 (allT (allT allI))))⟩)))
   ·refine LB wn (rAl hst ZT_28) ?_
    intro b83 w hst
    refine Dn [] [0, 1] [2] (Rn (yS rfl (lbs_ [h2.v, h4.v, h6.v] ST_28 e0 hst R2) (yS rfl (lbs_ [h2.v, h4.v, h6.v] ST_28 e0 hst R2) QSn)) ?_)
    refine Lc1 rfl ?_
    refine Lk wn (yCall FN_40 (a1 e0)) (dissect_match_ok gr74 q1 q2 q3 hst) ?_
    rintro _ w ⟨h75, rfl, hst⟩
    refine ⟨_, rfl, ?_⟩
    refine Dn [] [0] [3] (Rn (yS rfl (lbs_ [h2.v, h4.v, h6.v] ST_28 e0 hst R3) QSn) ?_)
    refine Lc1 rfl ?_
    replace hst := hst.fz
    refine Lk wn (yCall FN_42 (a2 e0 e0)) (dissect_coarsen_ok gr76 (mtF q1) (mtF q2) (mtF q3) F0 hst) ?_
    rintro _ w ⟨h77, y78, h79, h80, y81, h82, rfl, hst⟩
    refine ⟨_, rfl, ?_⟩
    refine Dn [4, 5, 6, 7] [] [9] (yR rfl (m_ (.tuple #[.agg #[h77.v, h79.v, h80.v], h82.v, .bool r76.2.2.2.2]) e0) (yR rfl (x_ (.agg #[h77.v, h79.v, h80.v]) e0) (yR rfl (x_ h82.v e0) (yR rfl (x_ (.bool r76.2.2.2.2) e0) (Rn QSn ?_)))))
    refine Lc1 rfl ?_
    replace hst := hst.pk 6 [5, 0, 0, 0, 0, 0] rfl
    refine LT wn (r_stbn (vals' := [h77.v, h79.v, h80.v]) (us := [h77.v, h79.v, h80.v]) hst ST_28 e0 e0 rfl rfl (one_of rfl) rfl) ?_
    intro w hst
    refine Dn [] [6, 7] [10] (Rn (yS rfl (x_ h82.v e0) (yS rfl (x_ (.bool r76.2.2.2.2) e0) QSn)) ?_)
    refine Lc1 rfl ?_
    refine Ly wn (a_ h82.v e0) (Dn [] [7] [11] (Rn (yS rfl (x_ (.bool r76.2.2.2.2) e0) QSn) ?_))
    refine Lc1 rfl ?_
    exact Ly wn (a_ (.bool r76.2.2.2.2) e0) (Dz [] [] (Rn QSn (j6 _ _ ⟨_, _, _, _, _, _, _, rfl, rfl, rfl, rfl, rfl, ((hst.pk 8 [7, 6, 1, 1, 1, 1, 0, 0] rfl).facts (allC F0 (allT (allT allI))))⟩)))
  rintro f w ⟨b84, h85, y86, h87, h88, y89, h90, e91_1, e91_4, e91_5, e91_6, e91_7, hst⟩
  refine k54 _ _ (seqQ fun Q55 k55 z55 => sR fun _ k56 => Ym (.bool r76.2.2.2.2) (eh e91_7) (yY (ynot e0) (wK k56 ?_)))
  rcases iteS hM with ⟨c92, hM⟩ | ⟨c92, hM⟩
  ·refine condF e0 (nF c92) (wp_skip (k55 _ _ (sR fun _ k57 => yY (yFb FL_28_1 (eh e91_5)) (yY (lb_ h87.v O_22 e0 hst R6) (yY (yLen SL_22 e0 hst (rdI F0)) (yY (yFb FL_28_1 (eh e91_1)) (yY (lb_ h4.v O_22 e0 hst R0) (yY (yLen SL_22 e0 hst (rdI (mtF q2))) (yY (ylss e0 e0) (wK k57 ?_))))))))))
   have j8 : ∀ (x113 : LI) (f : FV) (w : World), f 1 = (pB b7) → f 4 = h9.v → St w0 ros (box b7 28 [h2.v, h4.v, h6.v] :: row 3 I1 h9.v x113 :: rs) w → dissect_bisect_j8 x1 x3 x5 x113 = some out → Q3 .normal (fr 61 f) w := by
    intro x113 f w ej8_1 ej8_4 hst hM
    exact j5 _ _ _ ej8_1 ej8_4 hst hM
   rcases iteS hM with ⟨c114, hM⟩ | ⟨c114, hM⟩
   ·refine cT e0 c114 (sR fun _ k79 => yY (lbs_ [h85.v, h87.v, h88.v] ST_28 (eh e91_5) hst R6) ?_)
    obtain ⟨r115, gr115, hM⟩ := bs hM
    replace hst := hst.pk 4 [2, 2, 0, 0] rfl
    replace hst := hst.ffz
    replace hst := hst.pk 4 [2, 2, 0, 0] rfl
    replace hst := hst.ffz
    refine Yc wn rfl (yCall FN_43 (a1 e0)) (hrec gr115 F1 F2 F0 hst) ?_
    rintro _ w ⟨h116, rfl, hst⟩
    refine ⟨_, rfl, ?_⟩
    refine Ym (.tuple #[h116.v, .bool r115.2]) e0 (yY (x_ h116.v e0) (yY (x_ (.bool r115.2) e0) (Ya h116.v e0 (Ya (.bool r115.2) e0 (wK k79 (seqQ fun Q80 k80 z80 => sR fun _ k81 => Ym (.bool r115.2) e0 (yY (ynot e0) (wK k81 ?_))))))))
    rcases iteS hM with ⟨c117, hM⟩ | ⟨c117, hM⟩
    ·refine condF e0 (nF c117) (wp_skip (k80 _ _ (sR fun _ k82 => Ym h90.v (eh e91_6) (yY (yLen SL_22 e0 hst rO4) (Ym (iV 0) rfl (wK k82 (blockQ fun Q83 qb83 => ?_)))))))
     obtain ⟨o9, go9, hM⟩ := bs hM
     have je9_0 : ∀ (x130 : LI) (f : FV) (w : World), f 1 = (pB b7) → f 4 = h9.v → St w0 ros (box b7 28 [h2.v, h4.v, h6.v] :: row 3 I1 h9.v x130 :: rs) w → x130 = o9 → Q83 (.exit 0) (fr 61 f) w := by
      intro x130 f w eje9_0_1 eje9_0_4 hst ho
      subst ho
      exact qb83 _ _ _ (j8 _ _ _ eje9_0_1 eje9_0_4 hst hM)
     refine loopQ (fun s a w => ∃ (x122 : LI) (x123 : Int) (f : FV), (x122, x123) = s ∧ a = fr 61 f ∧ f 1 = (pB b7) ∧ f 4 = h9.v ∧ f 8 = h116.v ∧ f 42 = h90.v ∧ f 43 = iV (r76.2.2.2.1.length : Int) ∧ f 44 = iV x123 ∧ St w0 ros (box b7 28 [h2.v, h4.v, h6.v] :: row 3 I1 h9.v x122 :: row 3 I1 h116.v r115.1 :: row 3 I1 h90.v r76.2.2.2.1 :: rs) w) go9 ⟨_, _, _, rfl, rfl, e91_1, e91_4, rfl, rfl, rfl, rfl, ((hst.pk 5 [1, 1, 0, 1] rfl).facts (allT (allT (allT allI))))⟩ ?_
     rintro _ _ w r9_ ⟨x122, x123, f, rfl, rfl, e9_1, e9_4, e9_8, e9_42, e9_43, e9_44, hst⟩ hM9 ho9 Q100009 n9 zz9
     refine sR fun _ k94 => yY (ylss (eh e9_44) (eh e9_43)) (wK k94 (seqQ fun Q95 k95 z95 => ?_))
     rcases iteS hM9 with ⟨c131, hM9⟩ | ⟨c131, hM9⟩
     ·refine cT e0 c131 (wp_skip (k95 _ _ (sQ fun _ k96 => blockQ fun _ qb97 => sR fun _ k98 => Ym (iV x123) (eh e9_44) ?_)))
      obtain ⟨x132, gx132, hM9⟩ := bs hM9
      refine yY (yIa SL_22 (eh e9_42) (eh e9_44) hst rO3 gx132) (yY (yI O_3 e0 hst rO3 gx132) (Ya (iV x123) e0 (Ya (iV x132) e0 (wK k98 (wR (Ym h9.v (eh e9_4) (Ym (iV x123) e0 (Ym h116.v (eh e9_8) (Ym (iV x132) e0 ?_)))))))))
      obtain ⟨x133, gx133, hM9⟩ := bs hM9
      refine yY (yIa SL_22 e0 e0 hst rO2 gx133) (yY (yI O_3 e0 hst rO2 gx133) ?_)
      obtain ⟨x134, gx134, hM9⟩ := bs hM9
      refine yY (yIs SL_22 e0 e0 hst rO1 gx134) ?_
      replace hst := hst.pk 2 [1, 0] rfl
      refine YT wn rfl (r_sti (cs := [iV x133]) hst O_3 rfl e0 e0 rfl mkI gx134) ?_
      intro w hst
      refine wN (qb97 _ _ _ (k96 _ _ (wR (yY (yadd (eh e9_44) rfl) (Ym (iV (wa .i64 x123 1)) e0 (wN ?_))))))
      obtain rfl := someI hM9
      exact n9 _ _ _ rfl ⟨_, _, _, rfl, rfl, e9_1, e9_4, e9_8, e9_42, e9_43, rfl, (hst.pk 4 [1, 0, 0, 0] rfl)⟩
     ·refine cF e0 c131 (wp_exit (z95 _ _ _ rfl ?_))
      obtain rfl := someI hM9
      exact zz9 _ _ _ _ rfl rfl (je9_0 _ _ _ e9_1 e9_4 (hst.pk 4 [0, 0] rfl) (ho9 _ rfl))
    ·refine condT e0 (nT (bfalse c117)) (sR fun _ k99 => Ya hnil.v rfl (Ya (.bool false) rfl (wK k99 (wp_ret (z80 _ _ _ rfl (z3 _ _ _ rfl ?_))))))
     obtain rfl := someI hM
     replace hst := hst.rowNh 3 I1
     exact hQ _ _ _ (fin2r Tryz.results43 ⟨rfl, rfl⟩ ⟨rfl, rfl⟩ ⟨_, rfl, ((hst.pk 6 [0] rfl).facts (allT (allT (allT allI))))⟩)
   ·exact cF e0 c114 (wp_skip (j8 _ _ _ e91_1 e91_4 ((hst.pk 8 [0, 0] rfl).facts (allT allI)) hM))
  ·refine condT e0 (nT (bfalse c92)) (sR fun _ k100 => Ya hnil.v rfl (Ya (.bool false) rfl (wK k100 (wp_ret (z55 _ _ _ rfl (z3 _ _ _ rfl ?_))))))
   obtain rfl := someI hM
   replace hst := hst.rowNh 3 I1
   exact hQ _ _ _ (fin2r Tryz.results43 ⟨rfl, rfl⟩ ⟨rfl, rfl⟩ ⟨_, rfl, ((hst.pk 9 [0] rfl).facts (allT allI))⟩)
 ·exact cF e0 c73 (wp_skip (j5 _ _ _ rfl rfl (hst.pk 2 [1, 0] rfl) hM))
theorem dissect_bisect_ok_n (n : Nat) : ∀ {w0 : World} {ros : List Fact} {rs : List Res} {w : World} {x1 : L2} {x3 : LI} {x5 : L2} {h2 h4 h6 : Hdr} {out : LI × Bool} (hM : dissect_bisect n x1 x3 x5 = some out) (q1 : imm S1 h2.v x1 ∈ ros) (q2 : imm I1 h4.v x3 ∈ ros) (q3 : imm S1 h6.v x5 ∈ ros) (hst : St w0 ros rs w),
  Calls Tryz.prog 43 #[.agg #[h2.v, h4.v, h6.v]] w (fun e w => ∃ (h100001 : Hdr), e = .returned (.tuple #[h100001.v, .bool out.2]) ∧ St w0 ros (row 3 I1 h100001.v out.1 :: rs) w) := by
 induction n with
 | zero => intro _ _ _ _ _ _ _ _ _ _ out hM; cases hM
 | succ n ih => exact fun hM q1 q2 q3 hst => dissect_bisect_step (rec := dissect_bisect n) ih (hM := hM) (q1 := q1) (q2 := q2) (q3 := q3) (hst := hst)
theorem dissect_bisect_ok {x1 : L2} {x3 : LI} {x5 : L2} {h2 h4 h6 : Hdr} {out : LI × Bool} (hM : dissect_bisect FUEL x1 x3 x5 = some out) (q1 : imm S1 h2.v x1 ∈ ros) (q2 : imm I1 h4.v x3 ∈ ros) (q3 : imm S1 h6.v x5 ∈ ros) (hst : St w0 ros rs w) :
  Calls Tryz.prog 43 #[.agg #[h2.v, h4.v, h6.v]] w (fun e w => ∃ (h100001 : Hdr), e = .returned (.tuple #[h100001.v, .bool out.2]) ∧ St w0 ros (row 3 I1 h100001.v out.1 :: rs) w) := dissect_bisect_ok_n FUEL (hM := hM) (q1 := q1) (q2 := q2) (q3 := q3) (hst := hst)
theorem dissect_border_1_ok {x1 : Int} {x3 : LI} {x6 : Int} {b2 : Nat} {h4 : Hdr} {b5 : Nat} {out : Bool} (hM : dissect_border_1 x1 x3 x6 = some out) (q1 : imm I1 h4.v x3 ∈ ros) (hst : St w0 ros (box b2 22 [h4.v] :: box b5 3 [iV x6] :: rs) w) :
  Calls Tryz.prog 121 #[iV x1, (pB b2), (pB b5)] w (fun e w => e = .returned (.bool out) ∧ St w0 ros (box b2 22 [h4.v] :: box b5 3 [iV x6] :: rs) w) := by
 refine enterQ Tryz.func121 rfl Tryz.ntmps121 rfl fun Q hQ => sR fun _ k1 => Ya (.bool false) rfl (wK k1 (sQ fun _ k2 => ?_))
 obtain ⟨x7, gx7, hM⟩ := bs hM
 refine dR [0, 0, 3, 7, 0, 31, 63] [6] 1 folM ?_
 replace hst := hst.drew
 refine Dn [0, 1, 2, 3, 4, 5] [] [6] (yR rfl (lb_ h4.v O_22 e0 hst R0) (yR rfl (m_ (iV x1) e0) (yR rfl (yIa SL_22 e0 e0 hst (rdI q1) gx7) (yR rfl (yI O_3 e0 hst (rdI q1) gx7) (yR rfl (lb_ (iV x6) O_3 e0 hst R1) (yR rfl (yneq e0 e0) (Rn QSn ?_)))))))
 refine Lc1 rfl ?_
 refine Ly wn (a_ (.bool (!(decide (x7 = x6)))) e0) (Dz [] [] (Rn QSn (k2 _ _ (wp_ret ?_))))
 obtain rfl := someI hM
 exact hQ _ _ _ (fin1r Tryz.results121 ⟨rfl, rfl⟩ ⟨rfl, hst⟩)
theorem slices_IndexFunc_int_v2_ok {x1 x4 : LI} {x7 : Int} {h2 : Hdr} {b3 : Nat} {h5 : Hdr} {b6 : Nat} {out : Int} (hM : slices_IndexFunc_int_v2 x1 x4 x7 = some out) (q1 : imm I1 h2.v x1 ∈ ros) (q2 : imm I1 h5.v x4 ∈ ros) (hst : St w0 ros (box b3 22 [h5.v] :: box b6 3 [iV x7] :: rs) w) :
  Calls Tryz.prog 80 #[h2.v, .func (.func 121) #[] #[(pB b3), (pB b6)]] w (fun e w => e = .returned (iV out) ∧ St w0 ros (box b3 22 [h5.v] :: box b6 3 [iV x7] :: rs) w) := by
 refine enterQ Tryz.func80 rfl Tryz.ntmps80 rfl fun Q hQ => sR fun _ k1 => Ya (iV 0) rfl (wK k1 (seqQ fun Q2 k2 z2 => sR fun _ k3 => Ym h2.v e0 (yY (yLen SL_22 e0 hst (rdI q1)) (Ym (iV 0) rfl (wK k3 ?_)))))
 refine blockQ fun Q4 qb4 => ?_
 obtain ⟨o1, go1, hM⟩ := bs hM
 have je1_0 : ∀ (f : FV) (w : World), St w0 ros (box b3 22 [h5.v] :: box b6 3 [iV x7] :: rs) w → .inl () = o1 → Q4 (.exit 0) (fr 19 f) w := by
  intro f w hst ho
  subst ho
  refine qb4 _ _ _ (k2 _ _ (sR fun _ k19 => Ya (iV (-1)) rfl (wK k19 (wp_ret ?_))))
  obtain rfl := someI hM
  exact hQ _ _ _ (fin1r Tryz.results80 ⟨rfl, rfl⟩ ⟨rfl, hst⟩)
 have je1_1 : ∀ (x18 : Int) (f : FV) (w : World), f 4 = iV x18 → St w0 ros (box b3 22 [h5.v] :: box b6 3 [iV x7] :: rs) w → .inr x18 = o1 → Q4 .ret (fr 19 f) w := by
  intro x18 f w eje1_1_4 hst ho
  subst ho
  refine qb4 _ _ _ (z2 _ _ _ rfl ?_)
  obtain rfl := someI hM
  exact hQ _ _ _ (fin1r Tryz.results80 ⟨rfl, eje1_1_4⟩ ⟨rfl, hst⟩)
 refine loopQ (fun s a w => ∃ (x12 : Int) (f : FV), x12 = s ∧ a = fr 19 f ∧ f 0 = h2.v ∧ f 1 = .func (.func 121) #[] #[(pB b3), (pB b6)] ∧ f 7 = iV (x1.length : Int) ∧ f 8 = iV x12 ∧ St w0 ros (box b3 22 [h5.v] :: box b6 3 [iV x7] :: rs) w) go1 ⟨_, _, rfl, rfl, rfl, rfl, rfl, rfl, hst⟩ ?_
 rintro _ _ w r1_ ⟨x12, f, rfl, rfl, e1_0, e1_1, e1_7, e1_8, hst⟩ hM1 ho1 Q100001 n1 zz1
 refine sR fun _ k20 => yY (ylss (eh e1_8) (eh e1_7)) (wK k20 (seqQ fun Q21 k21 z21 => ?_))
 rcases iteS hM1 with ⟨c19, hM1⟩ | ⟨c19, hM1⟩
 ·refine cT e0 c19 (wp_skip (k21 _ _ (seqQ fun Q22 k22 z22 => blockQ fun _ qb23 => sR fun _ k24 => Ym (iV x12) (eh e1_8) (Ya (iV x12) e0 (wK k24 (sR fun _ k25 => Ym (.func (.func 121) #[] #[(pB b3), (pB b6)]) (eh e1_1) ?_))))))
  refine Ym h2.v (eh e1_0) (Ym (iV x12) e0 ?_)
  obtain ⟨x20, gx20, hM1⟩ := bs hM1
  refine yY (yIa SL_22 e0 e0 hst (rdI q1) gx20) (yY (yI O_3 e0 hst (rdI q1) gx20) ?_)
  obtain ⟨r21, gr21, hM1⟩ := bs hM1
  refine Yc wn rfl (yCallw FN_121 e0 (a1 e0)) (dissect_border_1_ok gr21 q2 hst) ?_
  rintro _ w ⟨rfl, hst⟩
  refine ⟨_, rfl, ?_⟩
  refine wK k25 ?_
  rcases iteS hM1 with ⟨c22, hM1⟩ | ⟨c22, hM1⟩
  ·refine condT e0 c22 (sR fun _ k26 => Ym (iV x12) e0 (Ya (iV x12) e0 (wK k26 (wp_ret (qb23 _ _ _ (z22 _ _ _ rfl ?_))))))
   obtain rfl := someI hM1
   exact zz1 _ _ _ _ rfl rfl (je1_1 _ _ _ rfl hst (ho1 _ rfl))
  ·refine condF e0 (bfalse c22) (wp_skip (qb23 _ _ _ (k22 _ _ (wR (yY (yadd (eh e1_8) rfl) (Ym (iV (wa .i64 x12 1)) e0 (wN ?_)))))))
   obtain rfl := someI hM1
   exact n1 _ _ _ rfl ⟨_, _, rfl, rfl, e1_0, e1_1, e1_7, rfl, hst⟩
 ·refine cF e0 c19 (wp_exit (z21 _ _ _ rfl ?_))
  obtain rfl := someI hM1
  exact zz1 _ _ _ _ rfl rfl (je1_0 _ _ hst (ho1 _ rfl))
theorem slices_ContainsFunc_int_v2_ok {x1 x4 : LI} {x7 : Int} {h2 : Hdr} {b3 : Nat} {h5 : Hdr} {b6 : Nat} {out : Bool} (hM : slices_ContainsFunc_int_v2 x1 x4 x7 = some out) (q1 : imm I1 h2.v x1 ∈ ros) (q2 : imm I1 h5.v x4 ∈ ros) (hst : St w0 ros (box b3 22 [h5.v] :: box b6 3 [iV x7] :: rs) w) :
  Calls Tryz.prog 49 #[h2.v, .func (.func 121) #[] #[(pB b3), (pB b6)]] w (fun e w => e = .returned (.bool out) ∧ St w0 ros (box b3 22 [h5.v] :: box b6 3 [iV x7] :: rs) w) := by
 refine enterQ Tryz.func49 rfl Tryz.ntmps49 rfl fun Q hQ => sR fun _ k1 => Ya (.bool false) rfl (wK k1 (sR fun _ k2 => Ym h2.v e0 (Ym (.func (.func 121) #[] #[(pB b3), (pB b6)]) e0 ?_)))
 obtain ⟨r8, gr8, hM⟩ := bs hM
 refine Yc wn rfl (yCall FN_80 (a2 e0 e0)) (slices_IndexFunc_int_v2_ok gr8 q1 q2 hst) ?_
 rintro _ w ⟨rfl, hst⟩
 refine ⟨_, rfl, ?_⟩
 refine yY (ygeq e0 rfl) (Ya (.bool (decide ((0 : Int) ≤ r8))) e0 (wK k2 (wp_ret ?_)))
 obtain rfl := someI hM
 exact hQ _ _ _ (fin1r Tryz.results49 ⟨rfl, rfl⟩ ⟨rfl, hst⟩)
theorem dissect_border_ok {x1 : L2} {x3 : LI} {x5 : Int} {h2 h4 : Hdr} {out : LI} (hM : dissect_border x1 x3 x5 = some out) (q1 : imm S1 h2.v x1 ∈ ros) (q2 : imm I1 h4.v x3 ∈ ros) (hst : St w0 ros rs w) :
  Calls Tryz.prog 103 #[.agg #[h2.v], h4.v, iV x5] w (fun e w => ∃ (h100001 : Hdr), e = .returned (h100001.v) ∧ St w0 ros (row 3 I1 h100001.v out :: rs) w) := by
 refine enterQ Tryz.func103 rfl Tryz.ntmps103 rfl fun Q hQ => sR fun _ k1 => YB wn rfl (r_box (vals := [h2.v]) hst e0 rfl) ?_
 intro b6 w hst
 refine YB wn rfl (r_box (vals := [h4.v]) hst e0 rfl) ?_
 intro b7 w hst
 refine YB wn rfl (r_box (vals := [iV x5]) hst e0 rfl) ?_
 intro b8 w hst
 refine Ya hnil.v rfl (wK k1 (sR fun _ k2 => Ya hnil.v rfl (wK k2 (sQ fun _ k3 => sR fun _ k4 => yY (yFb FL_26_0 e0) (yY (lb_ h2.v O_24 e0 hst R2) (yY (yLen SL_24 e0 hst (rdI q1)) ?_))))))
 refine Ym (iV 0) rfl (wK k4 (blockQ fun Q5 qb5 => ?_))
 obtain ⟨o9, go9, hM⟩ := bs hM
 have je9_0 : ∀ (x52 : LI) (h51 : Hdr) (f : FV) (w : World), f 7 = h51.v → St w0 ros (row 3 I1 h51.v x52 :: rs) w → x52 = o9 → Q5 (.exit 0) (fr 35 f) w := by
  intro x52 h51 f w eje9_0_7 hst ho
  subst ho
  refine qb5 _ _ _ (k3 _ _ (sR fun _ k18 => Ym h51.v (eh eje9_0_7) (Ya h51.v e0 (wK k18 (wp_ret ?_)))))
  obtain rfl := someI hM
  exact hQ _ _ _ (fin1r Tryz.results103 ⟨rfl, rfl⟩ ⟨_, rfl, hst⟩)
 replace hst := hst.rowNh 3 I1
 refine loopQ (fun s a w => ∃ (x28 : LI) (x29 : Int) (f : FV) (h27 : Hdr), (x28, x29) = s ∧ a = fr 35 f ∧ f 4 = (pB b7) ∧ f 5 = (pB b8) ∧ f 7 = h27.v ∧ f 11 = h2.v ∧ f 12 = iV (x1.length : Int) ∧ f 13 = iV x29 ∧ St w0 ros (box b7 22 [h4.v] :: box b8 3 [iV x5] :: row 3 I1 h27.v x28 :: rs) w) go9 ⟨_, _, _, _, rfl, rfl, rfl, rfl, rfl, rfl, rfl, rfl, (hst.pk 4 [2, 1, 0] rfl)⟩ ?_
 rintro _ _ w r9_ ⟨x28, x29, f, h27, rfl, rfl, e9_4, e9_5, e9_7, e9_11, e9_12, e9_13, hst⟩ hM9 ho9 Q100009 n9 zz9
 refine sR fun _ k19 => yY (ylss (eh e9_13) (eh e9_12)) (wK k19 (seqQ fun Q20 k20 z20 => ?_))
 rcases iteS hM9 with ⟨c53, hM9⟩ | ⟨c53, hM9⟩
 ·refine cT e0 c53 (wp_skip (k20 _ _ (sQ fun _ k21 => blockQ fun Q22 qb22 => sR fun _ k23 => Ym (iV x29) (eh e9_13) ?_)))
  obtain ⟨x54, gx54, hM9⟩ := bs hM9
  refine yY (yIa SL_24 (eh e9_11) (eh e9_13) hst (rdI q1) gx54) ?_
  obtain ⟨h55, hst⟩ := iLs hst q1 gx54
  refine yY (yCt O_22 e0 hst F1 rfl) (Ya (iV x29) e0 (Ya h55.v e0 (wK k23 (sQ fun _ k24 => ?_))))
  obtain ⟨x56, gx56, hM9⟩ := bs hM9
  obtain ⟨r57, gr57, hM9⟩ := bs hM9
  refine joinN (n := 35) (fun f w => f 4 = (pB b7) ∧ f 5 = (pB b8) ∧ f 7 = h27.v ∧ f 8 = iV x29 ∧ f 11 = h2.v ∧ f 12 = iV (x1.length : Int) ∧ f 13 = iV x29 ∧ f 28 = .bool r57 ∧ St w0 ros (box b7 22 [h4.v] :: box b8 3 [iV x5] :: row 3 I1 h27.v x28 :: rs) w) (fun j10 => ?_) ?_
  ·rcases iteS gr57 with ⟨c60, gr57⟩ | ⟨c60, gr57⟩
   ·obtain ⟨r61, gr61, gr57⟩ := bs gr57
    have hr11 := someI gr57
    refine dR [0, 0, 3, 7, 0, 31, 63, 127, 127, 511, 1023] [9] 1 folM ?_
    replace hst := hst.drew
    refine Dn [0, 1, 2, 3, 4, 5, 6, 7, 8] [] [9] (yR rfl (lb_ h4.v O_22 (eh e9_4) hst R0) (yR rfl (m_ (iV x29) e0) (yR rfl (yIa SL_22 e0 e0 hst (rdI (F_2 q2)) gx56) (yR rfl (yI O_3 e0 hst (rdI (F_2 q2)) gx56) (yR rfl (lb_ (iV x5) O_3 (eh e9_5) hst R1) (yR rfl (yeql e0 e0) (yR rfl (m_ (.bool (decide (x56 = x5))) e0) (Ry rfl rfl (wG (dT c60)) (m_ h55.v e0) (Ry rfl rfl (wG (dT c60)) (ymf (vf := #[]) (vc := #[(pB b7), (pB b8)]) a0 (a2 (eh e9_4) (eh e9_5))) (Rn QSn ?_))))))))))
    refine Lc1 rfl ?_
    refine Lk (wG (dT c60)) (yCall FN_49 (a2 e0 e0)) (slices_ContainsFunc_int_v2_ok gr61 F0 (F_2 q2) hst) ?_
    rintro _ w ⟨rfl, hst⟩
    refine ⟨_, rfl, ?_⟩
    exact Dz [10] [] (yR rfl (pt_ (.bool r57) e0 (dT c60) (eqv hr11 e0)) (Rn QSn (j10 _ _ ⟨e9_4, e9_5, e9_7, rfl, e9_11, e9_12, e9_13, rfl, (hst.facts (allT (allT allI)))⟩)))
   ·have hr12 := someI gr57
    refine dR [0, 0, 3, 7, 0, 31, 63, 127, 127, 511, 1023] [9] 1 folM ?_
    replace hst := hst.drew
    refine Dn [0, 1, 2, 3, 4, 5, 6, 7, 8] [] [9] (yR rfl (lb_ h4.v O_22 (eh e9_4) hst R0) (yR rfl (m_ (iV x29) e0) (yR rfl (yIa SL_22 e0 e0 hst (rdI (F_2 q2)) gx56) (yR rfl (yI O_3 e0 hst (rdI (F_2 q2)) gx56) (yR rfl (lb_ (iV x5) O_3 (eh e9_5) hst R1) (yR rfl (yeql e0 e0) (yR rfl (m_ (.bool (decide (x56 = x5))) e0) (Rx rfl rfl (wX (dF c60)) (Rx rfl rfl (wX (dF c60)) (Rn QSn ?_))))))))))
    refine Lc1 rfl ?_
    exact Lx (wX (dF c60)) (Dz [10] [] (yR rfl (pf_ (.bool r57) e0 (dF c60) (eqv hr12 rfl)) (Rn QSn (j10 _ _ ⟨e9_4, e9_5, e9_7, rfl, e9_11, e9_12, e9_13, rfl, (hst.facts (allT (allT allI)))⟩))))
  rintro f w ⟨e58_4, e58_5, e58_7, e58_8, e58_11, e58_12, e58_13, e58_28, hst⟩
  refine k24 _ _ ?_
  have j13 : ∀ (x66 : LI) (h65 : Hdr) (f : FV) (w : World), f 4 = (pB b7) → f 5 = (pB b8) → f 7 = h65.v → f 11 = h2.v → f 12 = iV (x1.length : Int) → f 13 = iV x29 → St w0 ros (box b7 22 [h4.v] :: box b8 3 [iV x5] :: row 3 I1 h65.v x66 :: rs) w → dissect_border_j13 x29 x66 = some r9_ → Q22 .normal (fr 35 f) w := by
   intro x66 h65 f w ej13_4 ej13_5 ej13_7 ej13_11 ej13_12 ej13_13 hst hM
   refine qb22 _ _ _ (k21 _ _ (wR (yY (yadd (eh ej13_13) rfl) (Ym (iV (wa .i64 x29 1)) e0 (wN ?_)))))
   obtain rfl := someI hM
   exact n9 _ _ _ rfl ⟨_, _, _, _, rfl, rfl, ej13_4, ej13_5, ej13_7, ej13_11, ej13_12, rfl, hst⟩
  rcases iteS hM9 with ⟨c67, hM9⟩ | ⟨c67, hM9⟩
  ·refine condT (eh e58_28) c67 (wR (Ym h27.v (eh e58_7) (Ym (iV x29) (eh e58_8) (YH wn rfl (rLt (n := 1) (l := [x29]) hst SL_22 [iV x29] (bp1 e0) rfl rfl (mks1 (cs := [iV x29]) rfl mkI mks0)) ?_))))
   intro h68 w hst
   obtain ⟨x70, gx70, hM9⟩ := bs hM9
   replace hst := hst.pk 4 [3, 0, 0, 0] rfl
   refine YH wn rfl (rAp hst SL_22 e0 e0 rO1 gx70) ?_
   intro h69 w hst
   exact Ya h69.v e0 (wN (j13 _ _ _ _ e58_4 e58_5 rfl e58_11 e58_12 e58_13 (hst.pk 4 [2, 2, 0] rfl) hM9))
  ·exact condF (eh e58_28) (bfalse c67) (wp_skip (j13 _ _ _ _ e58_4 e58_5 e58_7 e58_11 e58_12 e58_13 hst hM9))
 ·refine cF e0 c53 (wp_exit (z20 _ _ _ rfl ?_))
  obtain rfl := someI hM9
  exact zz9 _ _ _ _ rfl rfl (je9_0 _ _ _ _ e9_7 (hst.pk 3 [2] rfl) (ho9 _ rfl))
theorem matrix_within_ok {x1 x2 x3 : Int} {out : Bool} (hM : matrix_within x1 x2 x3 = some out) (hst : St w0 ros rs w) :
  Calls Tryz.prog 135 #[iV x1, iV x2, iV x3] w (fun e w => e = .returned (.bool out) ∧ St w0 ros rs w) := by
 refine enterQ Tryz.func135 rfl Tryz.ntmps135 rfl fun Q hQ => sR fun _ k1 => Ya (.bool false) rfl (wK k1 (sR fun _ k2 => Ym (iV x1) e0 (Ym (iV x2) e0 (yY (ygeq e0 e0) (Ym (.bool (decide (x2 ≤ x1))) e0 ?_)))))
 refine joinW 4 (fun f w => f 14 = .bool ((decide (x2 ≤ x1)) && (decide (x1 ≤ x3))) ∧ St w0 ros rs w) (fun j1 => ?_) ?_
 ·rcases Bool.eq_false_or_eq_true (decide (x2 ≤ x1)) with c5 | c5
  ·exact yG c5 (m_ (iV x1) e0) (yG c5 (m_ (iV x3) e0) (yG c5 (yleq e0 e0) (yY (pt_ (.bool (decide (x1 ≤ x3))) e0 c5 e0) (j1 _ _ ⟨(congrArg Value.bool (andT c5)), hst⟩))))
  ·exact gN c5 (gN c5 (gN c5 (yY (pf_ (.bool false) e0 c5 rfl) (j1 _ _ ⟨(congrArg Value.bool (andF c5)), hst⟩))))
 rintro f w ⟨e4_14, hst⟩
 refine Ya (.bool ((decide (x2 ≤ x1)) && (decide (x1 ≤ x3)))) (eh e4_14) (wK k2 (wp_ret ?_))
 obtain rfl := someI hM
 exact hQ _ _ _ (fin1r Tryz.results135 ⟨rfl, rfl⟩ ⟨rfl, hst⟩)
theorem slices_IsSorted_int_ok {x1 : LI} {h2 : Hdr} {out : Bool} (hM : slices_IsSorted_int x1 = some out) (q1 : imm I1 h2.v x1 ∈ ros) (hst : St w0 ros rs w) :
  Calls Tryz.prog 153 #[h2.v] w (fun e w => e = .returned (.bool out) ∧ St w0 ros rs w) := by
 refine enterQ Tryz.func153 rfl Tryz.ntmps153 rfl fun Q hQ => sR fun _ k1 => Ya (.bool false) rfl (wK k1 (seqQ fun Q2 k2 z2 => sR fun _ k3 => Ym h2.v e0 (yY (yLen SL_22 e0 hst (rdI q1)) (yY (ysub e0 rfl) (Ya (iV (ws .i64 (x1.length : Int) 1)) e0 (wN ?_))))))
 refine k3 _ _ (blockQ fun Q4 qb4 => ?_)
 obtain ⟨o1, go1, hM⟩ := bs hM
 have je1_0 : ∀ (f : FV) (w : World), St w0 ros rs w → .inl () = o1 → Q4 (.exit 0) (fr 21 f) w := by
  intro f w hst ho
  subst ho
  refine qb4 _ _ _ (k2 _ _ (sR fun _ k17 => Ya (.bool true) rfl (wK k17 (wp_ret ?_))))
  obtain rfl := someI hM
  exact hQ _ _ _ (fin1r Tryz.results153 ⟨rfl, rfl⟩ ⟨rfl, hst⟩)
 have je1_1 : ∀ (f : FV) (w : World), f 2 = .bool false → St w0 ros rs w → .inr () = o1 → Q4 .ret (fr 21 f) w := by
  intro f w eje1_1_2 hst ho
  subst ho
  refine qb4 _ _ _ (z2 _ _ _ rfl ?_)
  obtain rfl := someI hM
  exact hQ _ _ _ (fin1r Tryz.results153 ⟨rfl, eje1_1_2⟩ ⟨rfl, hst⟩)
 refine loopQ (fun s a w => ∃ (x8 : Int) (f : FV), x8 = s ∧ a = fr 21 f ∧ f 0 = h2.v ∧ f 3 = iV x8 ∧ St w0 ros rs w) go1 ⟨_, _, rfl, rfl, rfl, rfl, hst⟩ ?_
 rintro _ _ w r1_ ⟨x8, f, rfl, rfl, e1_0, e1_3, hst⟩ hM1 ho1 Q100001 n1 zz1
 refine seqQ fun Q18 k18 z18 => sR fun _ k19 => Ym (iV x8) (eh e1_3) (yY (ygtr e0 rfl) (wK k19 ?_))
 rcases iteS hM1 with ⟨c15, hM1⟩ | ⟨c15, hM1⟩
 ·refine cT e0 c15 (wp_skip (k18 _ _ (seqQ fun Q20 k20 z20 => blockQ fun _ qb21 => sQ fun _ k22 => ?_)))
  obtain ⟨x16, gx16, hM1⟩ := bs hM1
  obtain ⟨x17, gx17, hM1⟩ := bs hM1
  obtain ⟨r18, gr18, hM1⟩ := bs hM1
  refine dR [0, 0, 3, 7, 0, 0, 32, 112, 240, 511] [9] 1 folM ?_
  replace hst := hst.drew
  refine Dn [0, 1, 2, 3, 4, 5, 6, 7, 8] [] [9] (yR rfl (m_ h2.v (eh e1_0)) (yR rfl (m_ (iV x8) (eh e1_3)) (yR rfl (yIa SL_22 e0 e0 hst (rdI q1) gx16) (yR rfl (yI O_3 e0 hst (rdI q1) gx16) (yR rfl (m_ h2.v (eh e1_0)) (yR rfl (m_ (iV x8) (eh e1_3)) (yR rfl (ysub e0 rfl) (yR rfl (yIa SL_22 e0 e0 hst (rdI q1) gx17) (yR rfl (yI O_3 e0 hst (rdI q1) gx17) (Rn QSn ?_))))))))))
  refine Lc1 rfl ?_
  refine Lk wn (yCall FN_101 (a2 e0 e0)) (cmp_Less_int_ok gr18 hst) ?_
  rintro _ w ⟨rfl, hst⟩
  refine ⟨_, rfl, ?_⟩
  refine Dz [] [] (Rn QSn (k22 _ _ ?_))
  rcases iteS hM1 with ⟨c19, hM1⟩ | ⟨c19, hM1⟩
  ·refine condT e0 c19 (sR fun _ k23 => Ya (.bool false) rfl (wK k23 (wp_ret (qb21 _ _ _ (z20 _ _ _ rfl ?_)))))
   obtain rfl := someI hM1
   exact zz1 _ _ _ _ rfl rfl (je1_1 _ _ rfl hst (ho1 _ rfl))
  ·refine condF e0 (bfalse c19) (wp_skip (qb21 _ _ _ (k20 _ _ (wR (Ym (iV x8) (eh e1_3) (yY (ysub e0 rfl) (Ya (iV (ws .i64 x8 1)) e0 (wN ?_))))))))
   obtain rfl := someI hM1
   exact n1 _ _ _ rfl ⟨_, _, rfl, rfl, e1_0, rfl, hst⟩
 ·refine cF e0 c15 (wp_exit (z18 _ _ _ rfl ?_))
  obtain rfl := someI hM1
  exact zz1 _ _ _ _ rfl rfl (je1_0 _ _ hst (ho1 _ rfl))
theorem matrix_columns_ok {x1 x2 : Int} {x3 x5 x7 : LI} {h4 h6 h8 : Hdr} {out : Bool} (hM : matrix_columns x1 x2 x3 x5 x7 = some out) (q1 : imm I1 h4.v x3 ∈ ros) (q2 : imm I1 h6.v x5 ∈ ros) (q3 : imm (rI .u64) h8.v x7 ∈ ros) (hst : St w0 ros rs w) :
  Calls Tryz.prog 136 #[.agg #[iV x1, iV x2, h4.v, h6.v, h8.v]] w (fun e w => e = .returned (.bool out) ∧ St w0 ros rs w) := by
 refine enterQ Tryz.func136 rfl Tryz.ntmps136 rfl fun Q hQ => sR fun _ k1 => YB wn rfl (r_box (vals := [iV x1, iV x2, h4.v, h6.v, h8.v]) hst e0 rfl) ?_
 intro b9 w hst
 refine Ya (.bool false) rfl (wK k1 (seqQ fun Q2 k2 z2 => sQ fun _ k3 => ?_))
 obtain ⟨r10, gr10, hM⟩ := bs hM
 obtain ⟨r11, gr11, hM⟩ := bs hM
 obtain ⟨r12, gr12, hM⟩ := bs hM
 obtain ⟨r13, gr13, hM⟩ := bs hM
 refine joinN (n := 84) (fun f w => f 1 = (pB b9) ∧ f 47 = .bool r13 ∧ St w0 ros (box b9 91 [iV x1, iV x2, h4.v, h6.v, h8.v] :: rs) w) (fun j1 => ?_) ?_
 ·rcases iteS gr10 with ⟨c19, gr10⟩ | ⟨c19, gr10⟩
  ·obtain ⟨x20, gx20, gr10⟩ := bs gr10
   have hr2 := someI gr10
   rcases iteS gr11 with ⟨c21, gr11⟩ | ⟨c21, gr11⟩
   ·have hr3 := someI gr11
    have c22 : r11 = true := hr3.symm
    rw [if_pos c22] at gr12
    have hr4 := someI gr12
    have c23 : r12 = true := hr4.symm
    rw [if_pos c23] at gr13
    have hr5 := someI gr13
    refine dR [0, 1, 3, 0, 8, 24, 63, 127, 255, 511, 1023, 2047, 4095, 8191, 16383, 32767, 65535, 131071, 262143, 524287, 1048575, 2097151, 4194303, 2097151, 10485759, 33554431, 67108863, 2097151, 136314879, 404750335, 1073741823, 2147483647, 4294967295, 8589934591, 17179869183, 34359738367, 8589934591, 77309411327, 214748364799, 549755813887, 1099511627775] [17] 1 folM ?_
    replace hst := hst.drew
    refine Dn [0, 1, 2, 3, 4, 5, 6, 7, 8, 9, 10, 11, 12, 13, 14, 15, 16] [] [17] (yR rfl (yFb FL_91_2 e0) (yR rfl (lb_ h4.v O_22 e0 hst R0) (yR rfl (yLen SL_22 e0 hst (rdI q1)) (yR rfl (yFb FL_91_1 e0) (yR rfl (lb_ (iV x2) O_3 e0 hst R0) (yR rfl (yadd e0 rfl) (yR rfl (yneq e0 e0) (yR rfl (m_ (.bool (!(decide ((x3.length : Int) = (wa .i64 x2 1))))) e0) (Ry rfl rfl (wG (nF (dT c19))) (yFb FL_91_2 e0) (Ry rfl rfl (wG (nF (dT c19))) (lb_ h4.v O_22 e0 hst R0) (Ry rfl rfl (wG (nF (dT c19))) (yIa SL_22 e0 rfl hst (rdI q1) gx20) (Ry rfl rfl (wG (nF (dT c19))) (yI O_3 e0 hst (rdI q1) gx20) (Ry rfl rfl (wG (nF (dT c19))) (yneq e0 rfl) ?_)))))))))))))
    refine yR rfl (pf_ (.bool r10) e0 (nF (dT c19)) (eqv hr2 e0)) (yR rfl (m_ (.bool r10) e0) (Rx rfl rfl (wX c21) (Rx rfl rfl (wX c21) (Rn QSn ?_))))
    refine Lc1 rfl ?_
    refine Lx (wX c21) (Dz [18, 19, 20, 21, 22, 23, 24, 25, 26, 27, 28, 29, 30, 31, 32, 33, 34, 35, 36, 37, 38, 39, 40] [] (Rx rfl rfl (wX c21) (yR rfl (pt_ (.bool r11) e0 c21 (eqv hr3 rfl)) (yR rfl (m_ (.bool r11) e0) (Rx rfl rfl (wX c22) (Rx rfl rfl (wX c22) (Rx rfl rfl (wX c22) (Rx rfl rfl (wX c22) (Rx rfl rfl (wX c22) (Rx rfl rfl (wX c22) (Rx rfl rfl (wX c22) (Rx rfl rfl (wX c22) (Rx rfl rfl (wX c22) ?_)))))))))))))
    exact Rx rfl rfl (wX c22) (yR rfl (pt_ (.bool r12) e0 c22 (eqv hr4 rfl)) (yR rfl (m_ (.bool r12) e0) (Rx rfl rfl (wX c23) (Rx rfl rfl (wX c23) (Rx rfl rfl (wX c23) (Rx rfl rfl (wX c23) (Rx rfl rfl (wX c23) (Rx rfl rfl (wX c23) (Rx rfl rfl (wX c23) (yR rfl (pt_ (.bool r13) e0 c23 (eqv hr5 rfl)) (Rn QSn (j1 _ _ ⟨rfl, rfl, hst⟩))))))))))))
   ·obtain ⟨r24, gr24, gr11⟩ := bs gr11
    have hr6 := someI gr11
    rcases iteS gr12 with ⟨c25, gr12⟩ | ⟨c25, gr12⟩
    ·have hr7 := someI gr12
     have c26 : r12 = true := hr7.symm
     rw [if_pos c26] at gr13
     have hr8 := someI gr13
     refine dR [0, 1, 3, 0, 8, 24, 63, 127, 255, 511, 1023, 2047, 4095, 8191, 16383, 32767, 65535, 131071, 262143, 524287, 1048575, 2097151, 4194303, 2097151, 10485759, 33554431, 67108863, 2097151, 136314879, 404750335, 1073741823, 2147483647, 4294967295, 8589934591, 17179869183, 34359738367, 8589934591, 77309411327, 214748364799, 549755813887, 1099511627775] [17] 1 folM ?_
     replace hst := hst.drew
     refine Dn [0, 1, 2, 3, 4, 5, 6, 7, 8, 9, 10, 11, 12, 13, 14, 15, 16] [] [17] (yR rfl (yFb FL_91_2 e0) (yR rfl (lb_ h4.v O_22 e0 hst R0) (yR rfl (yLen SL_22 e0 hst (rdI q1)) (yR rfl (yFb FL_91_1 e0) (yR rfl (lb_ (iV x2) O_3 e0 hst R0) (yR rfl (yadd e0 rfl) (yR rfl (yneq e0 e0) (yR rfl (m_ (.bool (!(decide ((x3.length : Int) = (wa .i64 x2 1))))) e0) (Ry rfl rfl (wG (nF (dT c19))) (yFb FL_91_2 e0) (Ry rfl rfl (wG (nF (dT c19))) (lb_ h4.v O_22 e0 hst R0) (Ry rfl rfl (wG (nF (dT c19))) (yIa SL_22 e0 rfl hst (rdI q1) gx20) (Ry rfl rfl (wG (nF (dT c19))) (yI O_3 e0 hst (rdI q1) gx20) (Ry rfl rfl (wG (nF (dT c19))) (yneq e0 rfl) ?_)))))))))))))
     refine yR rfl (pf_ (.bool r10) e0 (nF (dT c19)) (eqv hr2 e0)) (yR rfl (m_ (.bool r10) e0) (Ry rfl rfl (wG (bfalse c21)) (yFb FL_91_2 e0) (Ry rfl rfl (wG (bfalse c21)) (lb_ h4.v O_22 e0 hst R0) (Rn QSn ?_))))
     refine Lc1 rfl ?_
     refine Lk (wG (bfalse c21)) (yCall FN_153 (a1 e0)) (slices_IsSorted_int_ok gr24 q1 hst) ?_
     rintro _ w ⟨rfl, hst⟩
     refine ⟨_, rfl, ?_⟩
     refine Dz [18, 19, 20, 21, 22, 23, 24, 25, 26, 27, 28, 29, 30, 31, 32, 33, 34, 35, 36, 37, 38, 39, 40] [] (Ry rfl rfl (wG (bfalse c21)) (ynot e0) (yR rfl (pf_ (.bool r11) e0 (bfalse c21) (eqv hr6 e0)) (yR rfl (m_ (.bool r11) e0) (Rx rfl rfl (wX c25) (Rx rfl rfl (wX c25) (Rx rfl rfl (wX c25) (Rx rfl rfl (wX c25) (Rx rfl rfl (wX c25) (Rx rfl rfl (wX c25) (Rx rfl rfl (wX c25) (Rx rfl rfl (wX c25) (Rx rfl rfl (wX c25) (Rx rfl rfl (wX c25) ?_)))))))))))))
     exact yR rfl (pt_ (.bool r12) e0 c25 (eqv hr7 rfl)) (yR rfl (m_ (.bool r12) e0) (Rx rfl rfl (wX c26) (Rx rfl rfl (wX c26) (Rx rfl rfl (wX c26) (Rx rfl rfl (wX c26) (Rx rfl rfl (wX c26) (Rx rfl rfl (wX c26) (Rx rfl rfl (wX c26) (yR rfl (pt_ (.bool r13) e0 c26 (eqv hr8 rfl)) (Rn QSn (j1 _ _ ⟨rfl, rfl, hst⟩)))))))))))
    ·obtain ⟨x27, gx27, gr12⟩ := bs gr12
     have hr9 := someI gr12
     rcases iteS gr13 with ⟨c28, gr13⟩ | ⟨c28, gr13⟩
     ·have hr10 := someI gr13
      refine dR [0, 1, 3, 0, 8, 24, 63, 127, 255, 511, 1023, 2047, 4095, 8191, 16383, 32767, 65535, 131071, 262143, 524287, 1048575, 2097151, 4194303, 2097151, 10485759, 33554431, 67108863, 2097151, 136314879, 404750335, 1073741823, 2147483647, 4294967295, 8589934591, 17179869183, 34359738367, 8589934591, 77309411327, 214748364799, 549755813887, 1099511627775] [17] 1 folM ?_
      replace hst := hst.drew
      refine Dn [0, 1, 2, 3, 4, 5, 6, 7, 8, 9, 10, 11, 12, 13, 14, 15, 16] [] [17] (yR rfl (yFb FL_91_2 e0) (yR rfl (lb_ h4.v O_22 e0 hst R0) (yR rfl (yLen SL_22 e0 hst (rdI q1)) (yR rfl (yFb FL_91_1 e0) (yR rfl (lb_ (iV x2) O_3 e0 hst R0) (yR rfl (yadd e0 rfl) (yR rfl (yneq e0 e0) (yR rfl (m_ (.bool (!(decide ((x3.length : Int) = (wa .i64 x2 1))))) e0) (Ry rfl rfl (wG (nF (dT c19))) (yFb FL_91_2 e0) (Ry rfl rfl (wG (nF (dT c19))) (lb_ h4.v O_22 e0 hst R0) (Ry rfl rfl (wG (nF (dT c19))) (yIa SL_22 e0 rfl hst (rdI q1) gx20) (Ry rfl rfl (wG (nF (dT c19))) (yI O_3 e0 hst (rdI q1) gx20) (Ry rfl rfl (wG (nF (dT c19))) (yneq e0 rfl) ?_)))))))))))))
      refine yR rfl (pf_ (.bool r10) e0 (nF (dT c19)) (eqv hr2 e0)) (yR rfl (m_ (.bool r10) e0) (Ry rfl rfl (wG (bfalse c21)) (yFb FL_91_2 e0) (Ry rfl rfl (wG (bfalse c21)) (lb_ h4.v O_22 e0 hst R0) (Rn QSn ?_))))
      refine Lc1 rfl ?_
      refine Lk (wG (bfalse c21)) (yCall FN_153 (a1 e0)) (slices_IsSorted_int_ok gr24 q1 hst) ?_
      rintro _ w ⟨rfl, hst⟩
      refine ⟨_, rfl, ?_⟩
      refine Dz [18, 19, 20, 21, 22, 23, 24, 25, 26, 27, 28, 29, 30, 31, 32, 33, 34, 35, 36, 37, 38, 39, 40] [] (Ry rfl rfl (wG (bfalse c21)) (ynot e0) (yR rfl (pf_ (.bool r11) e0 (bfalse c21) (eqv hr6 e0)) (yR rfl (m_ (.bool r11) e0) (Ry rfl rfl (wG (bfalse c25)) (yFb FL_91_2 e0) (Ry rfl rfl (wG (bfalse c25)) (lb_ h4.v O_22 e0 hst R0) (Ry rfl rfl (wG (bfalse c25)) (yFb FL_91_1 e0) (Ry rfl rfl (wG (bfalse c25)) (lb_ (iV x2) O_3 e0 hst R0) (Ry rfl rfl (wG (bfalse c25)) (yIa SL_22 e0 e0 hst (rdI q1) gx27) (Ry rfl rfl (wG (bfalse c25)) (yI O_3 e0 hst (rdI q1) gx27) (Ry rfl rfl (wG (bfalse c25)) (yFb FL_91_3 e0) (Ry rfl rfl (wG (bfalse c25)) (lb_ h6.v O_22 e0 hst R0) (Ry rfl rfl (wG (bfalse c25)) (yLen SL_22 e0 hst (rdI q2)) (Ry rfl rfl (wG (bfalse c25)) (yneq e0 e0) ?_)))))))))))))
      exact yR rfl (pf_ (.bool r12) e0 (bfalse c25) (eqv hr9 e0)) (yR rfl (m_ (.bool r12) e0) (Rx rfl rfl (wX c28) (Rx rfl rfl (wX c28) (Rx rfl rfl (wX c28) (Rx rfl rfl (wX c28) (Rx rfl rfl (wX c28) (Rx rfl rfl (wX c28) (Rx rfl rfl (wX c28) (yR rfl (pt_ (.bool r13) e0 c28 (eqv hr10 rfl)) (Rn QSn (j1 _ _ ⟨rfl, rfl, hst⟩)))))))))))
     ·have hr11 := someI gr13
      refine dR [0, 1, 3, 0, 8, 24, 63, 127, 255, 511, 1023, 2047, 4095, 8191, 16383, 32767, 65535, 131071, 262143, 524287, 1048575, 2097151, 4194303, 2097151, 10485759, 33554431, 67108863, 2097151, 136314879, 404750335, 1073741823, 2147483647, 4294967295, 8589934591, 17179869183, 34359738367, 8589934591, 77309411327, 214748364799, 549755813887, 1099511627775] [17] 1 folM ?_
      replace hst := hst.drew
      refine Dn [0, 1, 2, 3, 4, 5, 6, 7, 8, 9, 10, 11, 12, 13, 14, 15, 16] [] [17] (yR rfl (yFb FL_91_2 e0) (yR rfl (lb_ h4.v O_22 e0 hst R0) (yR rfl (yLen SL_22 e0 hst (rdI q1)) (yR rfl (yFb FL_91_1 e0) (yR rfl (lb_ (iV x2) O_3 e0 hst R0) (yR rfl (yadd e0 rfl) (yR rfl (yneq e0 e0) (yR rfl (m_ (.bool (!(decide ((x3.length : Int) = (wa .i64 x2 1))))) e0) (Ry rfl rfl (wG (nF (dT c19))) (yFb FL_91_2 e0) (Ry rfl rfl (wG (nF (dT c19))) (lb_ h4.v O_22 e0 hst R0) (Ry rfl rfl (wG (nF (dT c19))) (yIa SL_22 e0 rfl hst (rdI q1) gx20) (Ry rfl rfl (wG (nF (dT c19))) (yI O_3 e0 hst (rdI q1) gx20) (Ry rfl rfl (wG (nF (dT c19))) (yneq e0 rfl) ?_)))))))))))))
      refine yR rfl (pf_ (.bool r10) e0 (nF (dT c19)) (eqv hr2 e0)) (yR rfl (m_ (.bool r10) e0) (Ry rfl rfl (wG (bfalse c21)) (yFb FL_91_2 e0) (Ry rfl rfl (wG (bfalse c21)) (lb_ h4.v O_22 e0 hst R0) (Rn QSn ?_))))
      refine Lc1 rfl ?_
      refine Lk (wG (bfalse c21)) (yCall FN_153 (a1 e0)) (slices_IsSorted_int_ok gr24 q1 hst) ?_
      rintro _ w ⟨rfl, hst⟩
      refine ⟨_, rfl, ?_⟩
      refine Dz [18, 19, 20, 21, 22, 23, 24, 25, 26, 27, 28, 29, 30, 31, 32, 33, 34, 35, 36, 37, 38, 39, 40] [] (Ry rfl rfl (wG (bfalse c21)) (ynot e0) (yR rfl (pf_ (.bool r11) e0 (bfalse c21) (eqv hr6 e0)) (yR rfl (m_ (.bool r11) e0) (Ry rfl rfl (wG (bfalse c25)) (yFb FL_91_2 e0) (Ry rfl rfl (wG (bfalse c25)) (lb_ h4.v O_22 e0 hst R0) (Ry rfl rfl (wG (bfalse c25)) (yFb FL_91_1 e0) (Ry rfl rfl (wG (bfalse c25)) (lb_ (iV x2) O_3 e0 hst R0) (Ry rfl rfl (wG (bfalse c25)) (yIa SL_22 e0 e0 hst (rdI q1) gx27) (Ry rfl rfl (wG (bfalse c25)) (yI O_3 e0 hst (rdI q1) gx27) (Ry rfl rfl (wG (bfalse c25)) (yFb FL_91_3 e0) (Ry rfl rfl (wG (bfalse c25)) (lb_ h6.v O_22 e0 hst R0) (Ry rfl rfl (wG (bfalse c25)) (yLen SL_22 e0 hst (rdI q2)) (Ry rfl rfl (wG (bfalse c25)) (yneq e0 e0) ?_)))))))))))))
      exact yR rfl (pf_ (.bool r12) e0 (bfalse c25) (eqv hr9 e0)) (yR rfl (m_ (.bool r12) e0) (Ry rfl rfl (wG (bfalse c28)) (yFb FL_91_3 e0) (Ry rfl rfl (wG (bfalse c28)) (lb_ h6.v O_22 e0 hst R0) (Ry rfl rfl (wG (bfalse c28)) (yLen SL_22 e0 hst (rdI q2)) (Ry rfl rfl (wG (bfalse c28)) (yFb FL_91_4 e0) (Ry rfl rfl (wG (bfalse c28)) (lb_ h8.v O_89 e0 hst R0) (Ry rfl rfl (wG (bfalse c28)) (yLen SL_89 e0 hst (rdI q3)) (Ry rfl rfl (wG (bfalse c28)) (yneq e0 e0) (yR rfl (pf_ (.bool r13) e0 (bfalse c28) (eqv hr11 e0)) (Rn QSn (j1 _ _ ⟨rfl, rfl, hst⟩)))))))))))
  ·have hr12 := someI gr10
   have c29 : r10 = true := hr12.symm
   rw [if_pos c29] at gr11
   have hr13 := someI gr11
   have c30 : r11 = true := hr13.symm
   rw [if_pos c30] at gr12
   have hr14 := someI gr12
   have c31 : r12 = true := hr14.symm
   rw [if_pos c31] at gr13
   have hr15 := someI gr13
   refine dR [0, 1, 3, 0, 8, 24, 63, 127, 255, 511, 1023, 2047, 4095, 8191, 16383, 32767, 65535, 131071, 262143, 524287, 1048575, 2097151, 4194303, 2097151, 10485759, 33554431, 67108863, 2097151, 136314879, 404750335, 1073741823, 2147483647, 4294967295, 8589934591, 17179869183, 34359738367, 8589934591, 77309411327, 214748364799, 549755813887, 1099511627775] [17] 1 folM ?_
   replace hst := hst.drew
   refine Dn [0, 1, 2, 3, 4, 5, 6, 7, 8, 9, 10, 11, 12, 13, 14, 15, 16] [] [17] (yR rfl (yFb FL_91_2 e0) (yR rfl (lb_ h4.v O_22 e0 hst R0) (yR rfl (yLen SL_22 e0 hst (rdI q1)) (yR rfl (yFb FL_91_1 e0) (yR rfl (lb_ (iV x2) O_3 e0 hst R0) (yR rfl (yadd e0 rfl) (yR rfl (yneq e0 e0) (yR rfl (m_ (.bool (!(decide ((x3.length : Int) = (wa .i64 x2 1))))) e0) (Rx rfl rfl (wX (nT (dF c19))) (Rx rfl rfl (wX (nT (dF c19))) (Rx rfl rfl (wX (nT (dF c19))) (Rx rfl rfl (wX (nT (dF c19))) (Rx rfl rfl (wX (nT (dF c19))) ?_)))))))))))))
   refine yR rfl (pt_ (.bool r10) e0 (nT (dF c19)) (eqv hr12 rfl)) (yR rfl (m_ (.bool r10) e0) (Rx rfl rfl (wX c29) (Rx rfl rfl (wX c29) (Rn QSn ?_))))
   refine Lc1 rfl ?_
   refine Lx (wX c29) (Dz [18, 19, 20, 21, 22, 23, 24, 25, 26, 27, 28, 29, 30, 31, 32, 33, 34, 35, 36, 37, 38, 39, 40] [] (Rx rfl rfl (wX c29) (yR rfl (pt_ (.bool r11) e0 c29 (eqv hr13 rfl)) (yR rfl (m_ (.bool r11) e0) (Rx rfl rfl (wX c30) (Rx rfl rfl (wX c30) (Rx rfl rfl (wX c30) (Rx rfl rfl (wX c30) (Rx rfl rfl (wX c30) (Rx rfl rfl (wX c30) (Rx rfl rfl (wX c30) (Rx rfl rfl (wX c30) (Rx rfl rfl (wX c30) ?_)))))))))))))
   exact Rx rfl rfl (wX c30) (yR rfl (pt_ (.bool r12) e0 c30 (eqv hr14 rfl)) (yR rfl (m_ (.bool r12) e0) (Rx rfl rfl (wX c31) (Rx rfl rfl (wX c31) (Rx rfl rfl (wX c31) (Rx rfl rfl (wX c31) (Rx rfl rfl (wX c31) (Rx rfl rfl (wX c31) (Rx rfl rfl (wX c31) (yR rfl (pt_ (.bool r13) e0 c31 (eqv hr15 rfl)) (Rn QSn (j1 _ _ ⟨rfl, rfl, hst⟩))))))))))))
 rintro f w ⟨e14_1, e14_47, hst⟩
 refine k3 _ _ ?_
 rcases iteS hM with ⟨c32, hM⟩ | ⟨c32, hM⟩
 ·refine condT (eh e14_47) c32 (sR fun _ k4 => Ya (.bool false) rfl (wK k4 (wp_ret (z2 _ _ _ rfl ?_))))
  obtain rfl := someI hM
  exact hQ _ _ _ (fin1r Tryz.results136 ⟨rfl, rfl⟩ ⟨rfl, (hst.pk 1 [] rfl)⟩)
 ·refine condF (eh e14_47) (bfalse c32) (wp_skip (k2 _ _ (seqQ fun Q5 k5 z5 => sR fun _ k6 => yY (yFb FL_91_1 (eh e14_1)) (yY (lb_ (iV x2) O_3 e0 hst R0) (Ym (iV 0) rfl (wK k6 (blockQ fun Q7 qb7 => ?_)))))))
  obtain ⟨o24, go24, hM⟩ := bs hM
  have je24_0 : ∀ (f : FV) (w : World), St w0 ros rs w → .inl () = o24 → Q7 (.exit 0) (fr 84 f) w := by
   intro f w hst ho
   subst ho
   refine qb7 _ _ _ (k5 _ _ (sR fun _ k72 => Ya (.bool true) rfl (wK k72 (wp_ret ?_))))
   obtain rfl := someI hM
   exact hQ _ _ _ (fin1r Tryz.results136 ⟨rfl, rfl⟩ ⟨rfl, hst⟩)
  have je24_1 : ∀ (f : FV) (w : World), f 2 = .bool false → St w0 ros rs w → .inr () = o24 → Q7 .ret (fr 84 f) w := by
   intro f w eje24_1_2 hst ho
   subst ho
   refine qb7 _ _ _ (z5 _ _ _ rfl ?_)
   obtain rfl := someI hM
   exact hQ _ _ _ (fin1r Tryz.results136 ⟨rfl, eje24_1_2⟩ ⟨rfl, hst⟩)
  refine loopQ (fun s a w => ∃ (x56 : Int) (f : FV), x56 = s ∧ a = fr 84 f ∧ f 1 = (pB b9) ∧ f 49 = iV x2 ∧ f 50 = iV x56 ∧ St w0 ros (box b9 91 [iV x1, iV x2, h4.v, h6.v, h8.v] :: rs) w) go24 ⟨_, _, rfl, rfl, e14_1, rfl, rfl, hst⟩ ?_
  rintro _ _ w r24_ ⟨x56, f, rfl, rfl, e24_1, e24_49, e24_50, hst⟩ hM24 ho24 Q100024 n24 zz24
  refine sR fun _ k73 => yY (ylss (eh e24_50) (eh e24_49)) (wK k73 (seqQ fun Q74 k74 z74 => ?_))
  rcases iteS hM24 with ⟨c81, hM24⟩ | ⟨c81, hM24⟩
  ·refine cT e0 c81 (wp_skip (k74 _ _ (seqQ fun Q75 k75 z75 => blockQ fun _ qb76 => sR fun _ k77 => Ym (iV x56) (eh e24_50) (Ya (iV x56) e0 (wK k77 (sR fun _ k78 => Ya (iV (-1)) rfl ?_))))))
   refine wK k78 (sQ fun _ k79 => ?_)
   obtain ⟨x82, gx82, hM24⟩ := bs hM24
   obtain ⟨x83, gx83, hM24⟩ := bs hM24
   obtain ⟨x84, gx84, hM24⟩ := bs hM24
   refine dR [0, 1, 0, 4, 0, 28, 60, 0, 128, 0, 512, 1920, 3968, 8191, 16383, 0] [] 0 folM ?_
   replace hst := hst.drew
   refine Dz [0, 1, 2, 3, 4, 5, 6, 7, 8, 9, 10, 11, 12, 13, 14, 15] [] (yR rfl (yFb FL_91_3 (eh e24_1)) (yR rfl (lb_ h6.v O_22 e0 hst R0) (yR rfl (yFb FL_91_2 (eh e24_1)) (yR rfl (lb_ h4.v O_22 e0 hst R0) (yR rfl (m_ (iV x56) e0) (yR rfl (yIa SL_22 e0 e0 hst (rdI q1) gx82) (yR rfl (yI O_3 e0 hst (rdI q1) gx82) (yR rfl (yFb FL_91_2 (eh e24_1)) (yR rfl (lb_ h4.v O_22 e0 hst R0) (yR rfl (m_ (iV x56) e0) (yR rfl (yadd e0 rfl) (yR rfl (yIa SL_22 e0 e0 hst (rdI q1) gx83) (yR rfl (yI O_3 e0 hst (rdI q1) gx83) ?_)))))))))))))
   refine yR rfl (ySl SL_22 e0 hst (rdI q2) (.inl (congrArg some e0)) (.inl (congrArg some e0)) gx84) ?_
   replace hst := hst.sub q2 gx84
   refine yR rfl (yLen SL_22 e0 hst (rdI F0)) (yR rfl (m_ (iV 0) rfl) (Rn QSn (k79 _ _ (blockQ fun Q80 qb80 => ?_))))
   obtain ⟨o27, go27, hM24⟩ := bs hM24
   have je27_0 : ∀ (f : FV) (w : World), f 1 = (pB b9) → f 49 = iV x2 → f 50 = iV x56 → St w0 ros (box b9 91 [iV x1, iV x2, h4.v, h6.v, h8.v] :: rs) w → .inl () = o27 → Q80 (.exit 2) (fr 84 f) w := by
    intro f w eje27_0_1 eje27_0_49 eje27_0_50 hst ho
    subst ho
    refine qb80 _ _ _ (qb76 _ _ _ (k75 _ _ (wR (yY (yadd (eh eje27_0_50) rfl) (Ym (iV (wa .i64 x56 1)) e0 (wN ?_))))))
    obtain rfl := someI hM24
    exact n24 _ _ _ rfl ⟨_, _, rfl, rfl, eje27_0_1, eje27_0_49, rfl, hst⟩
   have je27_1 : ∀ (f : FV) (w : World), f 2 = .bool false → St w0 ros rs w → .inr () = o27 → Q80 .ret (fr 84 f) w := by
    intro f w eje27_1_2 hst ho
    subst ho
    refine qb80 _ _ _ (qb76 _ _ _ (z75 _ _ _ rfl ?_))
    obtain rfl := someI hM24
    exact zz24 _ _ _ _ rfl rfl (je24_1 _ _ eje27_1_2 hst (ho24 _ rfl))
   refine loopQ (fun s a w => ∃ (x90 x91 : Int) (f : FV), (x90, x91) = s ∧ a = fr 84 f ∧ f 1 = (pB b9) ∧ f 4 = iV x90 ∧ f 49 = iV x2 ∧ f 50 = iV x56 ∧ f 66 = (subH h6 1 x82 x83).v ∧ f 67 = iV (x84.length : Int) ∧ f 68 = iV x91 ∧ St w0 (imm I1 (subH h6 1 x82 x83).v x84 :: ros) (box b9 91 [iV x1, iV x2, h4.v, h6.v, h8.v] :: rs) w) go27 ⟨_, _, _, rfl, rfl, e24_1, rfl, e24_49, e24_50, rfl, rfl, rfl, hst⟩ ?_
   rintro _ _ w r27_ ⟨x90, x91, f, rfl, rfl, e27_1, e27_4, e27_49, e27_50, e27_66, e27_67, e27_68, hst⟩ hM27 ho27 Q100027 n27 zz27
   refine sR fun _ k97 => yY (ylss (eh e27_68) (eh e27_67)) (wK k97 (seqQ fun Q98 k98 z98 => ?_))
   rcases iteS hM27 with ⟨c99, hM27⟩ | ⟨c99, hM27⟩
   ·refine cT e0 c99 (wp_skip (k98 _ _ (seqQ fun Q99 k99 z99 => blockQ fun _ qb100 => sR fun _ k101 => ?_)))
    obtain ⟨x100, gx100, hM27⟩ := bs hM27
    refine yY (yIa SL_22 (eh e27_66) (eh e27_68) hst (rdI F0) gx100) (yY (yI O_3 e0 hst (rdI F0) gx100) (Ya (iV x100) e0 (wK k101 (seqQ fun Q102 k102 z102 => sR fun _ k103 => Ym (iV x100) e0 (Ym (iV x90) (eh e27_4) (yY (yleq e0 e0) (Ym (.bool (decide (x100 ≤ x90))) e0 ?_)))))))
    refine joinW 5 (fun f w => f 1 = (pB b9) ∧ f 6 = iV x100 ∧ f 49 = iV x2 ∧ f 50 = iV x56 ∧ f 66 = (subH h6 1 x82 x83).v ∧ f 67 = iV (x84.length : Int) ∧ f 68 = iV x91 ∧ f 80 = .bool ((decide (x100 ≤ x90)) || (decide (x1 ≤ x100))) ∧ St w0 (imm I1 (subH h6 1 x82 x83).v x84 :: ros) (box b9 91 [iV x1, iV x2, h4.v, h6.v, h8.v] :: rs) w) (fun j28 => ?_) ?_
    ·rcases Bool.eq_false_or_eq_true (decide (x100 ≤ x90)) with c102 | c102
     ·exact gN c102 (gN c102 (gN c102 (gN c102 (yY (pt_ (.bool true) e0 c102 rfl) (j28 _ _ ⟨e27_1, rfl, e27_49, e27_50, e27_66, e27_67, e27_68, (congrArg Value.bool (orT c102)), hst⟩)))))
     ·exact yG c102 (m_ (iV x100) e0) (yG c102 (yFb FL_91_0 (eh e27_1)) (yG c102 (lb_ (iV x1) O_3 e0 hst R0) (yG c102 (ygeq e0 e0) (yY (pf_ (.bool (decide (x1 ≤ x100))) e0 c102 e0) (j28 _ _ ⟨e27_1, rfl, e27_49, e27_50, e27_66, e27_67, e27_68, (congrArg Value.bool (orF c102)), hst⟩)))))
    rintro f w ⟨e101_1, e101_6, e101_49, e101_50, e101_66, e101_67, e101_68, e101_80, hst⟩
    refine wK k103 ?_
    rcases iteS hM27 with ⟨c103, hM27⟩ | ⟨c103, hM27⟩
    ·refine condT (eh e101_80) c103 (sR fun _ k104 => Ya (.bool false) rfl (wK k104 (wp_ret (z102 _ _ _ rfl (qb100 _ _ _ (z99 _ _ _ rfl ?_))))))
     obtain rfl := someI hM27
     exact zz27 _ _ _ _ rfl rfl (je27_1 _ _ rfl ((hst.pk 1 [] rfl).facts (allT allI)) (ho27 _ rfl))
    ·refine condF (eh e101_80) (bfalse c103) (wp_skip (k102 _ _ (wR (Ym (iV x100) (eh e101_6) (Ya (iV x100) e0 (wN (qb100 _ _ _ (k99 _ _ (wR (yY (yadd (eh e101_68) rfl) (Ym (iV (wa .i64 x91 1)) e0 (wN ?_))))))))))))
     obtain rfl := someI hM27
     exact n27 _ _ _ rfl ⟨_, _, _, rfl, rfl, e101_1, rfl, e101_49, e101_50, e101_66, e101_67, rfl, hst⟩
   ·refine cF e0 c99 (wp_exit (z98 _ _ _ rfl ?_))
    obtain rfl := someI hM27
    exact zz27 _ _ _ _ rfl rfl (je27_0 _ _ e27_1 e27_49 e27_50 (hst.facts (allT allI)) (ho27 _ rfl))
  ·refine cF e0 c81 (wp_exit (z74 _ _ _ rfl ?_))
   obtain rfl := someI hM24
   exact zz24 _ _ _ _ rfl rfl (je24_0 _ _ (hst.pk 1 [] rfl) (ho24 _ rfl))
theorem float_parts_ok {x1 : Int} {out : Int × Int} (hM : float_parts x1 = some out) (hst : St w0 ros rs w) :
  Calls Tryz.prog 155 #[.int .u64 x1] w (fun e w => e = .returned (.tuple #[iV out.1, .int .u64 out.2]) ∧ St w0 ros rs w) := by
 refine enterQ Tryz.func155 rfl Tryz.ntmps155 rfl fun Q hQ => sR fun _ k1 => Ya (iV 0) rfl (Ya (.int .u64 0) rfl (wK k1 (sR fun _ k2 => Ym (.int .u64 x1) e0 (yY (yshrc e0 rfl) (yY (yand e0 rfl) (yY (ycv (k' := .i64) (by kernel_rfl) (by kernel_rfl) e0) (Ym (.int .u64 x1) e0 ?_)))))))
 refine yY (yand e0 rfl) (Ya (iV (wc .i64 (wand .u64 (wsrc .u64 x1 52) 2047))) e0 (Ya (.int .u64 (wand .u64 x1 4503599627370495)) e0 (wK k2 (wp_ret ?_))))
 obtain rfl := someI hM
 exact hQ _ _ _ (fin2r Tryz.results155 ⟨rfl, rfl⟩ ⟨rfl, rfl⟩ ⟨rfl, hst⟩)
theorem float_IsFinite_ok {x1 : Int} {out : Bool} (hM : float_IsFinite x1 = some out) (hst : St w0 ros rs w) :
  Calls Tryz.prog 139 #[.int .u64 x1] w (fun e w => e = .returned (.bool out) ∧ St w0 ros rs w) := by
 refine enterQ Tryz.func139 rfl Tryz.ntmps139 rfl fun Q hQ => sR fun _ k1 => Ya (.bool false) rfl (wK k1 (sR fun _ k2 => Ym (.int .u64 x1) e0 ?_))
 obtain ⟨r2, gr2, hM⟩ := bs hM
 refine Yc wn rfl (yCall FN_155 (a1 e0)) (float_parts_ok gr2 hst) ?_
 rintro _ w ⟨rfl, hst⟩
 refine ⟨_, rfl, ?_⟩
 refine Ym (.tuple #[iV r2.1, .int .u64 r2.2]) e0 (yY (x_ (iV r2.1) e0) (yY (x_ (.int .u64 r2.2) e0) (Ya (iV r2.1) e0 (Ya (.int .u64 r2.2) e0 (wK k2 (sR fun _ k3 => Ym (iV r2.1) e0 (yY (yneq e0 rfl) (Ya (.bool (!(decide (r2.1 = 2047)))) e0 (wK k3 ?_)))))))))
 refine wp_ret ?_
 obtain rfl := someI hM
 exact hQ _ _ _ (fin1r Tryz.results139 ⟨rfl, rfl⟩ ⟨rfl, hst⟩)
theorem matrix_Check_1_ok {x1 : Int} {out : Bool} (hM : matrix_Check_1 x1 = some out) (hst : St w0 ros rs w) :
  Calls Tryz.prog 138 #[.int .u64 x1] w (fun e w => e = .returned (.bool out) ∧ St w0 ros rs w) := by
 refine enterQ Tryz.func138 rfl Tryz.ntmps138 rfl fun Q hQ => sR fun _ k1 => Ya (.bool false) rfl (wK k1 (sR fun _ k2 => Ym (.int .u64 x1) e0 ?_))
 obtain ⟨r2, gr2, hM⟩ := bs hM
 refine Yc wn rfl (yCall FN_139 (a1 e0)) (float_IsFinite_ok gr2 hst) ?_
 rintro _ w ⟨rfl, hst⟩
 refine ⟨_, rfl, ?_⟩
 refine yY (ynot e0) (Ya (.bool (!r2)) e0 (wK k2 (wp_ret ?_)))
 obtain rfl := someI hM
 exact hQ _ _ _ (fin1r Tryz.results138 ⟨rfl, rfl⟩ ⟨rfl, hst⟩)
theorem slices_IndexFunc_apiFloat_ok {x1 : LI} {h2 : Hdr} {out : Int} (hM : slices_IndexFunc_apiFloat x1 = some out) (q1 : imm (rI .u64) h2.v x1 ∈ ros) (hst : St w0 ros rs w) :
  Calls Tryz.prog 154 #[h2.v, .func (.func 138) #[] #[]] w (fun e w => e = .returned (iV out) ∧ St w0 ros rs w) := by
 refine enterQ Tryz.func154 rfl Tryz.ntmps154 rfl fun Q hQ => sR fun _ k1 => Ya (iV 0) rfl (wK k1 (seqQ fun Q2 k2 z2 => sR fun _ k3 => Ym h2.v e0 (yY (yLen SL_89 e0 hst (rdI q1)) (Ym (iV 0) rfl (wK k3 ?_)))))
 refine blockQ fun Q4 qb4 => ?_
 obtain ⟨o1, go1, hM⟩ := bs hM
 have je1_0 : ∀ (f : FV) (w : World), St w0 ros rs w → .inl () = o1 → Q4 (.exit 0) (fr 19 f) w := by
  intro f w hst ho
  subst ho
  refine qb4 _ _ _ (k2 _ _ (sR fun _ k19 => Ya (iV (-1)) rfl (wK k19 (wp_ret ?_))))
  obtain rfl := someI hM
  exact hQ _ _ _ (fin1r Tryz.results154 ⟨rfl, rfl⟩ ⟨rfl, hst⟩)
 have je1_1 : ∀ (x13 : Int) (f : FV) (w : World), f 4 = iV x13 → St w0 ros rs w → .inr x13 = o1 → Q4 .ret (fr 19 f) w := by
  intro x13 f w eje1_1_4 hst ho
  subst ho
  refine qb4 _ _ _ (z2 _ _ _ rfl ?_)
  obtain rfl := someI hM
  exact hQ _ _ _ (fin1r Tryz.results154 ⟨rfl, eje1_1_4⟩ ⟨rfl, hst⟩)
 refine loopQ (fun s a w => ∃ (x7 : Int) (f : FV), x7 = s ∧ a = fr 19 f ∧ f 0 = h2.v ∧ f 1 = .func (.func 138) #[] #[] ∧ f 7 = iV (x1.length : Int) ∧ f 8 = iV x7 ∧ St w0 ros rs w) go1 ⟨_, _, rfl, rfl, rfl, rfl, rfl, rfl, hst⟩ ?_
 rintro _ _ w r1_ ⟨x7, f, rfl, rfl, e1_0, e1_1, e1_7, e1_8, hst⟩ hM1 ho1 Q100001 n1 zz1
 refine sR fun _ k20 => yY (ylss (eh e1_8) (eh e1_7)) (wK k20 (seqQ fun Q21 k21 z21 => ?_))
 rcases iteS hM1 with ⟨c14, hM1⟩ | ⟨c14, hM1⟩
 ·refine cT e0 c14 (wp_skip (k21 _ _ (seqQ fun Q22 k22 z22 => blockQ fun _ qb23 => sR fun _ k24 => Ym (iV x7) (eh e1_8) (Ya (iV x7) e0 (wK k24 (sR fun _ k25 => Ym (.func (.func 138) #[] #[]) (eh e1_1) ?_))))))
  refine Ym h2.v (eh e1_0) (Ym (iV x7) e0 ?_)
  obtain ⟨x15, gx15, hM1⟩ := bs hM1
  refine yY (yIa SL_89 e0 e0 hst (rdI q1) gx15) (yY (yI O_82 e0 hst (rdI q1) gx15) ?_)
  obtain ⟨r16, gr16, hM1⟩ := bs hM1
  refine Yc wn rfl (yCallw FN_138 e0 (a1 e0)) (matrix_Check_1_ok gr16 hst) ?_
  rintro _ w ⟨rfl, hst⟩
  refine ⟨_, rfl, ?_⟩
  refine wK k25 ?_
  rcases iteS hM1 with ⟨c17, hM1⟩ | ⟨c17, hM1⟩
  ·refine condT e0 c17 (sR fun _ k26 => Ym (iV x7) e0 (Ya (iV x7) e0 (wK k26 (wp_ret (qb23 _ _ _ (z22 _ _ _ rfl ?_))))))
   obtain rfl := someI hM1
   exact zz1 _ _ _ _ rfl rfl (je1_1 _ _ _ rfl hst (ho1 _ rfl))
  ·refine condF e0 (bfalse c17) (wp_skip (qb23 _ _ _ (k22 _ _ (wR (yY (yadd (eh e1_8) rfl) (Ym (iV (wa .i64 x7 1)) e0 (wN ?_)))))))
   obtain rfl := someI hM1
   exact n1 _ _ _ rfl ⟨_, _, rfl, rfl, e1_0, e1_1, e1_7, rfl, hst⟩
 ·refine cF e0 c14 (wp_exit (z21 _ _ _ rfl ?_))
  obtain rfl := someI hM1
  exact zz1 _ _ _ _ rfl rfl (je1_0 _ _ hst (ho1 _ rfl))
theorem slices_ContainsFunc_apiFloat_ok {x1 : LI} {h2 : Hdr} {out : Bool} (hM : slices_ContainsFunc_apiFloat x1 = some out) (q1 : imm (rI .u64) h2.v x1 ∈ ros) (hst : St w0 ros rs w) :
  Calls Tryz.prog 137 #[h2.v, .func (.func 138) #[] #[]] w (fun e w => e = .returned (.bool out) ∧ St w0 ros rs w) := by
 refine enterQ Tryz.func137 rfl Tryz.ntmps137 rfl fun Q hQ => sR fun _ k1 => Ya (.bool false) rfl (wK k1 (sR fun _ k2 => Ym h2.v e0 (Ym (.func (.func 138) #[] #[]) e0 ?_)))
 obtain ⟨r3, gr3, hM⟩ := bs hM
 refine Yc wn rfl (yCall FN_154 (a2 e0 e0)) (slices_IndexFunc_apiFloat_ok gr3 q1 hst) ?_
 rintro _ w ⟨rfl, hst⟩
 refine ⟨_, rfl, ?_⟩
 refine yY (ygeq e0 rfl) (Ya (.bool (decide ((0 : Int) ≤ r3))) e0 (wK k2 (wp_ret ?_)))
 obtain rfl := someI hM
 exact hQ _ _ _ (fin1r Tryz.results137 ⟨rfl, rfl⟩ ⟨rfl, hst⟩)
end Go.Proofs.YthpeajepbffinaaGreat
