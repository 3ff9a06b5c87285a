/- Walks: each function computes its model, printed. -/
import Derived.Test.YthpeajepbffinaaGreatW5
namespace Go.Proofs.YthpeajepbffinaaGreat
open Go Sx M
set_option maxRecDepth 100000
set_option maxHeartbeats 4000000
set_option linter.unusedVariables false
attribute [local irreducible] wpList Code.wp Calls DR QR QS LA LS St
variable {w0 : World} {ros : List Fact} {rs : List Res} {w : World}
theorem sparsekit_Graph_ok {x1 : List (List Int)} {x3 : List (List Int)} {h2 : Hdr} {h4 : Hdr} {out : Bool} (hM : sparsekit_Graph x1 x3 = some out) (q1 : imm (rS (rI .i64)) h2.v x1 ∈ ros) (q2 : imm (rS (rI .i64)) h4.v x3 ∈ ros) (hst : St w0 ros (rs) w) :
  Calls Tryz.prog 34 #[.agg #[h2.v], .agg #[h4.v]] w (fun e w => e = .returned (.bool out) ∧ St w0 (ros) (rs) w) := by
 refine enterQ Tryz.func34 rfl Tryz.ntmps34 rfl fun Q hQ => seqQ fun Q1 k1 z1 => wR (YB wn rfl (r_box (vals := [h2.v]) hst (e0 rfl) rfl) ?_)
 intro b5 w hst
 refine YB wn rfl (r_box (vals := [h4.v]) hst (e0 rfl) rfl) ?_
 intro b6 w hst
 refine Y wn rfl (ya (v := .bool false) rfl) (wN (k1 _ _ (seqQ fun Q2 k2 z2 => wR (Y wn rfl (yFb FL_26_0 (e0 rfl)) (Y wn rfl (yLb (u := h2.v) O_24 (e0 rfl) hst (mtR mhR) rfl) (Y wn rfl (yFb FL_26_0 (e0 rfl)) (Y wn rfl (yLb (u := h4.v) O_24 (e0 rfl) hst mhR rfl) ?_)))))))
 obtain ⟨r7, gr7, hM⟩ := bs hM
 refine Yc wn rfl (yCall FN_46 (a2 (e0 rfl) (e0 rfl))) (sparsekit_Lists_ok (hM := gr7) (hst := hst) (q1 := q1) (q2 := q2)) ?_
 rintro _ w ⟨rfl, hst⟩
 refine ⟨_, rfl, ?_⟩
 refine Y wn rfl (ya (v := .bool r7) (e0 rfl)) (wN (k2 _ _ (wp_ret ?_)))
 obtain rfl := someI hM
 exact hQ _ _ _ (fin1r Tryz.results34 ⟨rfl, rfl⟩ ⟨rfl, (hst.pk 2 [] rfl)⟩)

theorem sparsekit_Weighted_ok {x1 : List (List Int)} {x3 : List Int} {x5 : List (List Int)} {x7 : List (List Int)} {x9 : List Int} {x11 : List (List Int)} {h2 : Hdr} {h4 : Hdr} {h6 : Hdr} {h8 : Hdr} {h10 : Hdr} {h12 : Hdr} {out : Bool} (hM : sparsekit_Weighted x1 x3 x5 x7 x9 x11 = some out) (q1 : imm (rS (rI .i64)) h2.v x1 ∈ ros) (q2 : imm (rI .i64) h4.v x3 ∈ ros) (q3 : imm (rS (rI .i64)) h6.v x5 ∈ ros) (q4 : imm (rS (rI .i64)) h8.v x7 ∈ ros) (q5 : imm (rI .i64) h10.v x9 ∈ ros) (q6 : imm (rS (rI .i64)) h12.v x11 ∈ ros) (hst : St w0 ros (rs) w) :
  Calls Tryz.prog 18 #[.agg #[h2.v, h4.v, h6.v], .agg #[h8.v, h10.v, h12.v]] w (fun e w => e = .returned (.bool out) ∧ St w0 (ros) (rs) w) := by
 refine enterQ Tryz.func18 rfl Tryz.ntmps18 rfl fun Q hQ => seqQ fun Q1 k1 z1 => wR (YB wn rfl (r_box (vals := [h2.v, h4.v, h6.v]) hst (e0 rfl) rfl) ?_)
 intro b13 w hst
 refine YB wn rfl (r_box (vals := [h8.v, h10.v, h12.v]) hst (e0 rfl) rfl) ?_
 intro b14 w hst
 refine Y wn rfl (ya (v := .bool false) rfl) (wN (k1 _ _ (seqQ fun Q2 k2 z2 => wR (Y wn rfl (yFb FL_28_0 (e0 rfl)) (Y wn rfl (yLbs (us := [h2.v]) ST_26 (e0 rfl) hst (mtR mhR) rfl rfl) (Y wn rfl (yFb FL_28_0 (e0 rfl)) (Y wn rfl (yLbs (us := [h8.v]) ST_26 (e0 rfl) hst mhR rfl rfl) ?_)))))))
 obtain ⟨r15, gr15, hM⟩ := bs hM
 refine Yc wn rfl (yCall FN_34 (a2 (e0 rfl) (e0 rfl))) (sparsekit_Graph_ok (hM := gr15) (hst := hst) (q1 := q1) (q2 := q4)) ?_
 rintro _ w ⟨rfl, hst⟩
 refine ⟨_, rfl, ?_⟩
 refine Y wn rfl (ym (v := .bool r15) (e0 rfl)) ?_
 obtain ⟨r17, gr17, hM⟩ := bs hM
 refine joinW 6 (fun f w => f 2 = (pB b13) ∧ f 3 = (pB b14) ∧ f 16 = .bool r17 ∧ St w0 (ros) (box b13 28 [h2.v, h4.v, h6.v] :: box b14 28 [h8.v, h10.v, h12.v] :: rs) w) (fun j1 => ?_) ?_
 ·rcases iteS gr17 with ⟨c19, gr17⟩ | ⟨c19, gr17⟩
  ·refine Y (wg rfl rfl rfl c19) rfl (yFb FL_28_1 (e0 rfl)) (Y (wg rfl rfl rfl c19) rfl (yLb (u := h4.v) O_22 (e0 rfl) hst (mtR mhR) rfl) (Y (wg rfl rfl rfl c19) rfl (yFb FL_28_1 (e0 rfl)) (Y (wg rfl rfl rfl c19) rfl (yLb (u := h10.v) O_22 (e0 rfl) hst mhR rfl) ?_)))
   obtain ⟨r20, gr20, gr17⟩ := bs gr17
   refine Yc (wg rfl rfl rfl c19) rfl (yCall FN_13 (a2 (e0 rfl) (e0 rfl))) (sparsekit_Ints_ok (hM := gr20) (hst := hst) (q1 := q2) (q2 := q5)) ?_
   rintro _ w ⟨rfl, hst⟩
   refine ⟨_, rfl, ?_⟩
   refine Y wn rfl (ypt (v := .bool r20) (e0 rfl) c19 (e0 rfl)) ?_
   obtain rfl := someI gr17
   exact j1 _ _ ⟨rfl, rfl, rfl, (hst.pk 2 [1, 0] rfl)⟩
  ·refine Gn (wx rfl rfl rfl (bfalse c19)) rfl (Gn (wx rfl rfl rfl (bfalse c19)) rfl (Gn (wx rfl rfl rfl (bfalse c19)) rfl (Gn (wx rfl rfl rfl (bfalse c19)) rfl (Gn (wx rfl rfl rfl (bfalse c19)) rfl (Y wn rfl (ypf (v := .bool false) (e0 rfl) (bfalse c19) rfl) ?_)))))
   obtain rfl := someI gr17
   exact j1 _ _ ⟨rfl, rfl, rfl, (hst.pk 2 [1, 0] rfl)⟩
 rintro f w ⟨e18_2, e18_3, e18_16, hst⟩
 refine Y wn rfl (ym (v := .bool r17) (et rfl e18_16)) ?_
 obtain ⟨r22, gr22, hM⟩ := bs hM
 refine joinW 6 (fun f w => f 23 = .bool r22 ∧ St w0 (ros) (rs) w) (fun j2 => ?_) ?_
 ·rcases iteS gr22 with ⟨c24, gr22⟩ | ⟨c24, gr22⟩
  ·refine Y (wg rfl rfl rfl c24) rfl (yFb FL_28_2 (et rfl e18_2)) (Y (wg rfl rfl rfl c24) rfl (yLb (u := h6.v) O_24 (e0 rfl) hst mhR rfl) (Y (wg rfl rfl rfl c24) rfl (yFb FL_28_2 (et rfl e18_3)) (Y (wg rfl rfl rfl c24) rfl (yLb (u := h12.v) O_24 (e0 rfl) hst (mtR mhR) rfl) ?_)))
   obtain ⟨r25, gr25, gr22⟩ := bs gr22
   refine Yc (wg rfl rfl rfl c24) rfl (yCall FN_46 (a2 (e0 rfl) (e0 rfl))) (sparsekit_Lists_ok (hM := gr25) (hst := hst) (q1 := q3) (q2 := q6)) ?_
   rintro _ w ⟨rfl, hst⟩
   refine ⟨_, rfl, ?_⟩
   refine Y wn rfl (ypt (v := .bool r25) (e0 rfl) c24 (e0 rfl)) ?_
   obtain rfl := someI gr22
   exact j2 _ _ ⟨rfl, (hst.pk 2 [] rfl)⟩
  ·refine Gn (wx rfl rfl rfl (bfalse c24)) rfl (Gn (wx rfl rfl rfl (bfalse c24)) rfl (Gn (wx rfl rfl rfl (bfalse c24)) rfl (Gn (wx rfl rfl rfl (bfalse c24)) rfl (Gn (wx rfl rfl rfl (bfalse c24)) rfl (Y wn rfl (ypf (v := .bool false) (e0 rfl) (bfalse c24) rfl) ?_)))))
   obtain rfl := someI gr22
   exact j2 _ _ ⟨rfl, (hst.pk 2 [] rfl)⟩
 rintro f w ⟨e23_23, hst⟩
 refine Y wn rfl (ya (v := .bool r22) (et rfl e23_23)) (wN (k2 _ _ (wp_ret ?_)))
 obtain rfl := someI hM
 exact hQ _ _ _ (fin1r Tryz.results18 ⟨rfl, rfl⟩ ⟨rfl, hst⟩)

theorem sparselaw18_DissectMade_ok {x1 : Int} {x2 : List Int} {x4 : List Int} {h3 : Hdr} {h5 : Hdr} {out : Bool} (hM : sparselaw18_DissectMade x1 x2 x4 = some out) (q1 : imm (rI .i64) h3.v x2 ∈ ros) (q2 : imm (rI .i64) h5.v x4 ∈ ros) (hst : St w0 ros (rs) w) :
  Calls Tryz.prog 3 #[iV x1, h3.v, h5.v] w (fun e w => e = .returned (.bool out) ∧ St w0 (ros) (rs) w) := by
 refine enterQ Tryz.func3 rfl Tryz.ntmps3 rfl fun Q hQ => seqQ fun Q1 k1 z1 => wR (Y wn rfl (ya (v := .bool false) rfl) (wN (k1 _ _ (seqQ fun Q2 k2 z2 => seqQ fun Q3 k3 z3 => wR (Y wn rfl (ym (v := h3.v) (e0 rfl)) (Y wn rfl (yLen SL_22 (e0 rfl) hst (rdI q1)) (Y wn rfl (ygtr (e0 rfl) rfl) (Y wn rfl (ym (v := .bool (decide ((90 : Int) < (x2.length : Int)))) (e0 rfl)) ?_))))))))
 refine joinW 4 (fun f w => f 0 = iV x1 ∧ f 1 = h3.v ∧ f 2 = h5.v ∧ f 29 = .bool ((decide ((90 : Int) < (x2.length : Int))) || (decide ((60 : Int) < (x4.length : Int)))) ∧ St w0 (ros) (rs) w) (fun j1 => ?_) ?_
 ·rcases Bool.eq_false_or_eq_true (decide ((90 : Int) < (x2.length : Int))) with c7 | c7
  ·exact Gn (wx rfl rfl rfl c7) rfl (Gn (wx rfl rfl rfl c7) rfl (Gn (wx rfl rfl rfl c7) rfl (Y wn rfl (ypt (v := .bool true) (e0 rfl) c7 rfl) (j1 _ _ ⟨rfl, rfl, rfl, (congrArg Value.bool (orT c7)), hst⟩))))
  ·exact Y (wg rfl rfl rfl c7) rfl (ym (v := h5.v) (e0 rfl)) (Y (wg rfl rfl rfl c7) rfl (yLen SL_22 (e0 rfl) hst (rdI q2)) (Y (wg rfl rfl rfl c7) rfl (ygtr (e0 rfl) rfl) (Y wn rfl (ypf (v := .bool (decide ((60 : Int) < (x4.length : Int)))) (e0 rfl) c7 (e0 rfl)) (j1 _ _ ⟨rfl, rfl, rfl, (congrArg Value.bool (orF c7)), hst⟩))))
 rintro f w ⟨e6_0, e6_1, e6_2, e6_29, hst⟩
 refine wN (k3 _ _ ?_)
 rcases iteS hM with ⟨c8, hM⟩ | ⟨c8, hM⟩
 ·refine condT (et rfl e6_29) c8 (seqQ fun Q4 k4 z4 => wR ?_)
  obtain ⟨r9, gr9, hM⟩ := bs hM
  refine Yc wn rfl (yCall FN_8 a0) (sparselaw18_awake_ok (hM := gr9) (hst := hst) ) ?_
  rintro _ w ⟨rfl, hst⟩
  refine ⟨_, rfl, ?_⟩
  refine Y wn rfl (ya (v := .bool r9) (e0 rfl)) (wN (k4 _ _ (wp_ret (z2 _ _ _ rfl ?_))))
  obtain rfl := someI hM
  exact hQ _ _ _ (fin1r Tryz.results3 ⟨rfl, rfl⟩ ⟨rfl, hst⟩)
 ·refine condF (et rfl e6_29) (bfalse c8) (wp_skip (k2 _ _ (seqQ fun Q5 k5 z5 => wR (Y wn rfl (ym (v := iV x1) (et rfl e6_0)) ?_))))
  obtain ⟨r10, gr10, hM⟩ := bs hM
  refine Yc wn rfl (yCall FN_10 (a2 (e0 rfl) rfl)) (sparsekit_Place_ok (hM := gr10) (hst := hst) ) ?_
  rintro _ w ⟨rfl, hst⟩
  refine ⟨_, rfl, ?_⟩
  refine Y wn rfl (ym (v := h3.v) (et rfl e6_1)) (Y wn rfl (ym (v := h5.v) (et rfl e6_2)) ?_)
  obtain ⟨r11, gr11, hM⟩ := bs hM
  refine Yc wn rfl (yCall FN_9 (a3 (e0 rfl) (e0 rfl) (e0 rfl))) (sparsemake_Weighted_ok (hM := gr11) (hst := hst) (q1 := q1) (q2 := q2)) ?_
  rintro _ w ⟨h12, h13, h14, rfl, hst⟩
  refine ⟨_, rfl, ?_⟩
  refine YB wn rfl (rAl hst ZT_28) ?_
  intro b15 w hst
  refine YT wn rfl (r_stbn (vals' := [h12.v, h13.v, h14.v]) (us := [h12.v, h13.v, h14.v]) hst ST_28 (e0 rfl) (e0 rfl) rfl rfl (one_of rfl) rfl) ?_
  intro w hst
  refine wN (k5 _ _ (seqQ fun Q6 k6 z6 => wR (Y wn rfl (yLbs (us := [h12.v, h13.v, h14.v]) ST_28 (e0 rfl) hst mhR rfl rfl) ?_)))
  obtain ⟨r16, gr16, hM⟩ := bs hM
  replace hst := hst.pk 2 [1, 0] rfl
  replace hst := hst.fz
  replace hst := hst.pk 2 [1, 0] rfl
  replace hst := hst.fz
  replace hst := hst.pk 2 [1, 0] rfl
  replace hst := hst.fz
  refine Yc wn rfl (yCall FN_11 (a1 (e0 rfl))) (dissect_Match_ok (hM := gr16) (hst := hst) (q1 := (mtF (mtF mhF))) (q2 := (mtF mhF)) (q3 := mhF)) ?_
  rintro _ w ⟨h17, rfl, hst⟩
  refine ⟨_, rfl, ?_⟩
  refine Y wn rfl (ym (v := .tuple #[h17.v, iV r16.2]) (e0 rfl)) (Y wn rfl (yx (v := h17.v) (e0 rfl) rfl) (Y wn rfl (yx (v := iV r16.2) (e0 rfl) rfl) (Y wn rfl (ya (v := h17.v) (e0 rfl)) (Y wn rfl (ya (v := iV r16.2) (e0 rfl)) (wN (k6 _ _ (seqQ fun Q7 k7 z7 => wR (Y wn rfl (yLbs (us := [h12.v, h13.v, h14.v]) ST_28 (e0 rfl) hst (mtR mhR) rfl rfl) ?_))))))))
  obtain ⟨r18, gr18, hM⟩ := bs hM
  refine Yc wn rfl (yCall FN_12 (a1 (e0 rfl))) (sparseref18_Match_ok (hM := gr18) (hst := hst) (q1 := (mtF (mtF mhF))) (q2 := (mtF mhF)) (q3 := mhF)) ?_
  rintro _ w ⟨h19, rfl, hst⟩
  refine ⟨_, rfl, ?_⟩
  refine Y wn rfl (ym (v := .tuple #[h19.v, iV r18.2]) (e0 rfl)) (Y wn rfl (yx (v := h19.v) (e0 rfl) rfl) (Y wn rfl (yx (v := iV r18.2) (e0 rfl) rfl) (Y wn rfl (ya (v := h19.v) (e0 rfl)) (Y wn rfl (ya (v := iV r18.2) (e0 rfl)) (wN (k7 _ _ (seqQ fun Q8 k8 z8 => seqQ fun Q9 k9 z9 => wR (Y wn rfl (ym (v := iV r16.2) (e0 rfl)) (Y wn rfl (yneq (e0 rfl) rfl) (Y wn rfl (ym (v := .bool (!(decide (r16.2 = 0)))) (e0 rfl)) ?_))))))))))
  obtain ⟨r21, gr21, hM⟩ := bs hM
  refine joinW 5 (fun f w => f 7 = (pB b15) ∧ f 8 = h17.v ∧ f 10 = h19.v ∧ f 53 = .bool r21 ∧ St w0 (imm (rS (rI .i64)) h12.v r11.1 :: imm (rI .i64) h13.v r11.2.1 :: imm (rS (rI .i64)) h14.v r11.2.2 :: imm (rI .i64) h17.v r16.1 :: imm (rI .i64) h19.v r18.1 :: ros) (box b15 28 [h12.v, h13.v, h14.v] :: rs) w) (fun j2 => ?_) ?_
  ·rcases iteS gr21 with ⟨c23, gr21⟩ | ⟨c23, gr21⟩
   ·refine Y (wg rfl rfl rfl (nF (dT c23))) rfl (ym (v := h17.v) (e0 rfl)) (Y (wg rfl rfl rfl (nF (dT c23))) rfl (ym (v := h19.v) (e0 rfl)) ?_)
    obtain ⟨r24, gr24, gr21⟩ := bs gr21
    replace hst := hst.pk 2 [1, 0] rfl
    replace hst := hst.fz
    replace hst := hst.fz
    refine Yc (wg rfl rfl rfl (nF (dT c23))) rfl (yCall FN_13 (a2 (e0 rfl) (e0 rfl))) (sparsekit_Ints_ok (hM := gr24) (hst := hst) (q1 := (mtF mhF)) (q2 := mhF)) ?_
    rintro _ w ⟨rfl, hst⟩
    refine ⟨_, rfl, ?_⟩
    refine Y (wg rfl rfl rfl (nF (dT c23))) rfl (ynot (e0 rfl)) (Y wn rfl (ypf (v := .bool (!(r24))) (e0 rfl) (nF (dT c23)) (e0 rfl)) ?_)
    obtain rfl := someI gr21
    exact j2 _ _ ⟨rfl, rfl, rfl, rfl, (hst.facts (allC (mtF (mtF (mtF (mtF mhF)))) (allC (mtF (mtF (mtF mhF))) (allC (mtF (mtF mhF)) (allC (mtF mhF) (allC mhF (allT (allT (allT (allT (allT allI)))))))))))⟩
   ·refine Gn (wx rfl rfl rfl (nT (dF c23))) rfl (Gn (wx rfl rfl rfl (nT (dF c23))) rfl (Gn (wx rfl rfl rfl (nT (dF c23))) rfl (Gn (wx rfl rfl rfl (nT (dF c23))) rfl (Y wn rfl (ypt (v := .bool true) (e0 rfl) (nT (dF c23)) rfl) ?_))))
    obtain rfl := someI gr21
    replace hst := hst.pk 2 [1, 0] rfl
    replace hst := hst.fz
    replace hst := hst.fz
    exact j2 _ _ ⟨rfl, rfl, rfl, rfl, (hst.facts (allC (mtF (mtF (mtF (mtF mhF)))) (allC (mtF (mtF (mtF mhF))) (allC (mtF (mtF mhF)) (allC (mtF mhF) (allC mhF (allT (allT (allT (allT (allT allI)))))))))))⟩
  rintro f w ⟨e22_7, e22_8, e22_10, e22_53, hst⟩
  refine wN (k9 _ _ ?_)
  rcases iteS hM with ⟨c25, hM⟩ | ⟨c25, hM⟩
  ·refine condT (et rfl e22_53) c25 (seqQ fun Q10 k10 z10 => wR (Y wn rfl (ya (v := .bool false) rfl) (wN (k10 _ _ (wp_ret (z8 _ _ _ rfl ?_))))))
   obtain rfl := someI hM
   exact hQ _ _ _ (fin1r Tryz.results3 ⟨rfl, rfl⟩ ⟨rfl, ((hst.pk 1 [] rfl).facts (allT (allT (allT (allT (allT allI))))))⟩)
  ·refine condF (et rfl e22_53) (bfalse c25) (wp_skip (k8 _ _ (seqQ fun Q11 k11 z11 => wR (Y wn rfl (yLbs (us := [h12.v, h13.v, h14.v]) ST_28 (et rfl e22_7) hst mhR rfl rfl) (Y wn rfl (ym (v := h17.v) (et rfl e22_8)) ?_)))))
   obtain ⟨r26, gr26, hM⟩ := bs hM
   refine Yc wn rfl (yCall FN_14 (a2 (e0 rfl) (e0 rfl))) (dissect_Coarsen_ok (hM := gr26) (hst := hst) (q1 := mhF) (q2 := (mtF mhF)) (q3 := (mtF (mtF mhF))) (q4 := (mtF (mtF (mtF mhF))))) ?_
   rintro _ w ⟨h27, y28, h29, h30, y31, h32, rfl, hst⟩
   refine ⟨_, rfl, ?_⟩
   refine Y wn rfl (ym (v := .tuple #[.agg #[h27.v, h29.v, h30.v], h32.v, iV r26.2.2.2.2]) (e0 rfl)) (Y wn rfl (yx (v := .agg #[h27.v, h29.v, h30.v]) (e0 rfl) rfl) (Y wn rfl (yx (v := h32.v) (e0 rfl) rfl) (Y wn rfl (yx (v := iV r26.2.2.2.2) (e0 rfl) rfl) (YB wn rfl (rAl hst ZT_28) ?_))))
   intro b33 w hst
   refine YT wn rfl (r_stbn (vals' := [h27.v, h29.v, h30.v]) (us := [h27.v, h29.v, h30.v]) hst ST_28 (e0 rfl) (e0 rfl) rfl rfl (one_of rfl) rfl) ?_
   intro w hst
   refine Y wn rfl (ya (v := h32.v) (e0 rfl)) (Y wn rfl (ya (v := iV r26.2.2.2.2) (e0 rfl)) (wN (k11 _ _ (seqQ fun Q12 k12 z12 => wR (Y wn rfl (yLbs (us := [h12.v, h13.v, h14.v]) ST_28 (et rfl e22_7) hst (mtR (mtR (mtR (mtR (mtR (mtR mhR)))))) rfl rfl) (Y wn rfl (ym (v := h19.v) (et rfl e22_10)) ?_))))))
   obtain ⟨r34, gr34, hM⟩ := bs hM
   refine Yc wn rfl (yCall FN_15 (a2 (e0 rfl) (e0 rfl))) (sparseref18_Coarsen_ok (hM := gr34) (hst := hst) (q1 := (mtF mhF)) (q2 := (mtF (mtF mhF))) (q3 := (mtF (mtF (mtF mhF)))) (q4 := (mtF (mtF (mtF (mtF (mtF mhF))))))) ?_
   rintro _ w ⟨h35, y36, h37, h38, y39, h40, rfl, hst⟩
   refine ⟨_, rfl, ?_⟩
   refine Y wn rfl (ym (v := .tuple #[.agg #[h35.v, h37.v, h38.v], h40.v, iV r34.2.2.2.2]) (e0 rfl)) (Y wn rfl (yx (v := .agg #[h35.v, h37.v, h38.v]) (e0 rfl) rfl) (Y wn rfl (yx (v := h40.v) (e0 rfl) rfl) (Y wn rfl (yx (v := iV r34.2.2.2.2) (e0 rfl) rfl) (YB wn rfl (rAl hst ZT_28) ?_))))
   intro b41 w hst
   refine YT wn rfl (r_stbn (vals' := [h35.v, h37.v, h38.v]) (us := [h35.v, h37.v, h38.v]) hst ST_28 (e0 rfl) (e0 rfl) rfl rfl (one_of rfl) rfl) ?_
   intro w hst
   refine Y wn rfl (ya (v := h40.v) (e0 rfl)) (Y wn rfl (ya (v := iV r34.2.2.2.2) (e0 rfl)) (wN (k12 _ _ (seqQ fun Q13 k13 z13 => wR (Y wn rfl (yLbs (us := [h12.v, h13.v, h14.v]) ST_28 (et rfl e22_7) hst (mtR (mtR (mtR (mtR (mtR (mtR (mtR (mtR (mtR (mtR (mtR (mtR (mtR mhR))))))))))))) rfl rfl) ?_)))))
   obtain ⟨r42, gr42, hM⟩ := bs hM
   refine Yc wn rfl (yCall FN_16 (a1 (e0 rfl))) (dissect_Bisect_ok (hM := gr42) (hst := hst) (q1 := (mtF mhF)) (q2 := (mtF (mtF mhF))) (q3 := (mtF (mtF (mtF mhF))))) ?_
   rintro _ w ⟨h43, rfl, hst⟩
   refine ⟨_, rfl, ?_⟩
   refine Y wn rfl (ym (v := .tuple #[h43.v, iV r42.2]) (e0 rfl)) (Y wn rfl (yx (v := h43.v) (e0 rfl) rfl) (Y wn rfl (yx (v := iV r42.2) (e0 rfl) rfl) (Y wn rfl (ya (v := h43.v) (e0 rfl)) (Y wn rfl (ya (v := iV r42.2) (e0 rfl)) (wN (k13 _ _ (seqQ fun Q14 k14 z14 => wR (Y wn rfl (yLbs (us := [h12.v, h13.v, h14.v]) ST_28 (et rfl e22_7) hst (mtR (mtR (mtR (mtR (mtR (mtR (mtR (mtR (mtR (mtR (mtR (mtR (mtR (mtR mhR)))))))))))))) rfl rfl) ?_))))))))
   obtain ⟨r44, gr44, hM⟩ := bs hM
   refine Yc wn rfl (yCall FN_17 (a1 (e0 rfl))) (sparseref18_Bisect_ok (hM := gr44) (hst := hst) (q1 := (mtF mhF)) (q2 := (mtF (mtF mhF))) (q3 := (mtF (mtF (mtF mhF))))) ?_
   rintro _ w ⟨h45, rfl, hst⟩
   refine ⟨_, rfl, ?_⟩
   refine Y wn rfl (ym (v := .tuple #[h45.v, iV r44.2]) (e0 rfl)) (Y wn rfl (yx (v := h45.v) (e0 rfl) rfl) (Y wn rfl (yx (v := iV r44.2) (e0 rfl) rfl) (Y wn rfl (ya (v := h45.v) (e0 rfl)) (Y wn rfl (ya (v := iV r44.2) (e0 rfl)) (wN (k14 _ _ (seqQ fun Q15 k15 z15 => wR (Y wn rfl (ym (v := iV r26.2.2.2.2) (e0 rfl)) (Y wn rfl (yeql (e0 rfl) rfl) (Y wn rfl (ym (v := .bool (decide (r26.2.2.2.2 = 0))) (e0 rfl)) ?_))))))))))
   refine joinW 3 (fun f w => f 12 = (pB b33) ∧ f 13 = h32.v ∧ f 15 = (pB b41) ∧ f 16 = h40.v ∧ f 18 = h43.v ∧ f 20 = h45.v ∧ f 83 = .bool ((decide (r26.2.2.2.2 = 0)) && (decide (r42.2 = 0))) ∧ St w0 (imm (rI .i64) h29.v r26.2.1 :: ros) (row 22 rH h27.v y28 :: fam 3 (rI .i64) y28 r26.1 :: row 22 rH h30.v y31 :: fam 3 (rI .i64) y31 r26.2.2.1 :: box b33 28 [h27.v, h29.v, h30.v] :: row 3 (rI .i64) h32.v r26.2.2.2.1 :: row 22 rH h35.v y36 :: fam 3 (rI .i64) y36 r34.1 :: row 3 (rI .i64) h37.v r34.2.1 :: row 22 rH h38.v y39 :: fam 3 (rI .i64) y39 r34.2.2.1 :: box b41 28 [h35.v, h37.v, h38.v] :: row 3 (rI .i64) h40.v r34.2.2.2.1 :: row 3 (rI .i64) h43.v r42.1 :: row 3 (rI .i64) h45.v r44.1 :: rs) w) (fun j3 => ?_) ?_
   ·rcases Bool.eq_false_or_eq_true (decide (r26.2.2.2.2 = 0)) with c47 | c47
    ·exact Y (wg rfl rfl rfl c47) rfl (ym (v := iV r42.2) (e0 rfl)) (Y (wg rfl rfl rfl c47) rfl (yeql (e0 rfl) rfl) (Y wn rfl (ypt (v := .bool (decide (r42.2 = 0))) (e0 rfl) c47 (e0 rfl)) (j3 _ _ ⟨rfl, rfl, rfl, rfl, rfl, rfl, (congrArg Value.bool (andT c47)), ((hst.pk 16 [10, 10, 10, 10, 9, 9, 3, 3, 3, 3, 3, 2, 2, 1, 0] rfl).facts (allC mhF (allT (allT (allT (allT (allT (allT allI))))))))⟩)))
    ·exact Gn (wx rfl rfl rfl c47) rfl (Gn (wx rfl rfl rfl c47) rfl (Y wn rfl (ypf (v := .bool false) (e0 rfl) c47 rfl) (j3 _ _ ⟨rfl, rfl, rfl, rfl, rfl, rfl, (congrArg Value.bool (andF c47)), ((hst.pk 16 [10, 10, 10, 10, 9, 9, 3, 3, 3, 3, 3, 2, 2, 1, 0] rfl).facts (allC mhF (allT (allT (allT (allT (allT (allT allI))))))))⟩)))
   rintro f w ⟨e46_12, e46_13, e46_15, e46_16, e46_18, e46_20, e46_83, hst⟩
   refine Y wn rfl (ym (v := .bool ((decide (r26.2.2.2.2 = 0)) && (decide (r42.2 = 0)))) (et rfl e46_83)) ?_
   obtain ⟨r49, gr49, hM⟩ := bs hM
   refine joinW 4 (fun f w => f 13 = h32.v ∧ f 16 = h40.v ∧ f 18 = h43.v ∧ f 20 = h45.v ∧ f 88 = .bool r49 ∧ St w0 (ros) (row 3 (rI .i64) h32.v r26.2.2.2.1 :: row 3 (rI .i64) h40.v r34.2.2.2.1 :: row 3 (rI .i64) h43.v r42.1 :: row 3 (rI .i64) h45.v r44.1 :: rs) w) (fun j4 => ?_) ?_
   ·rcases iteS gr49 with ⟨c51, gr49⟩ | ⟨c51, gr49⟩
    ·refine Y (wg rfl rfl rfl c51) rfl (yLbs (us := [h27.v, h29.v, h30.v]) ST_28 (et rfl e46_12) hst (mtR (mtR (mtR (mtR mhR)))) rfl rfl) (Y (wg rfl rfl rfl c51) rfl (yLbs (us := [h35.v, h37.v, h38.v]) ST_28 (et rfl e46_15) hst (mtR (mtR (mtR (mtR (mtR (mtR (mtR (mtR (mtR (mtR (mtR mhR))))))))))) rfl rfl) ?_)
     obtain ⟨r52, gr52, gr49⟩ := bs gr49
     replace hst := hst.ffz
     replace hst := hst.ffz
     replace hst := hst.pk 4 [2, 2, 0, 0] rfl
     replace hst := hst.ffz
     replace hst := hst.pk 3 [2, 0, 0] rfl
     replace hst := hst.fz
     replace hst := hst.pk 4 [2, 2, 0, 0] rfl
     replace hst := hst.ffz
     refine Yc (wg rfl rfl rfl c51) rfl (yCall FN_18 (a2 (e0 rfl) (e0 rfl))) (sparsekit_Weighted_ok (hM := gr52) (hst := hst) (q1 := (mtF (mtF (mtF (mtF mhF))))) (q2 := (mtF (mtF (mtF (mtF (mtF mhF)))))) (q3 := (mtF (mtF (mtF mhF)))) (q4 := (mtF (mtF mhF))) (q5 := (mtF mhF)) (q6 := mhF)) ?_
     rintro _ w ⟨rfl, hst⟩
     refine ⟨_, rfl, ?_⟩
     refine Y wn rfl (ypt (v := .bool r52) (e0 rfl) c51 (e0 rfl)) ?_
     obtain rfl := someI gr49
     exact j4 _ _ ⟨e46_13, e46_16, e46_18, e46_20, rfl, ((hst.pk 6 [1, 2, 2, 2] rfl).facts (allT (allT (allT (allT (allT (allT allI)))))))⟩
    ·refine Gn (wx rfl rfl rfl (bfalse c51)) rfl (Gn (wx rfl rfl rfl (bfalse c51)) rfl (Gn (wx rfl rfl rfl (bfalse c51)) rfl (Y wn rfl (ypf (v := .bool false) (e0 rfl) (bfalse c51) rfl) ?_)))
     obtain rfl := someI gr49
     exact j4 _ _ ⟨e46_13, e46_16, e46_18, e46_20, rfl, ((hst.pk 15 [5, 11, 11, 11] rfl).facts (allT allI))⟩
   rintro f w ⟨e50_13, e50_16, e50_18, e50_20, e50_88, hst⟩
   refine Y wn rfl (ym (v := .bool r49) (et rfl e50_88)) ?_
   obtain ⟨r54, gr54, hM⟩ := bs hM
   refine joinW 4 (fun f w => f 18 = h43.v ∧ f 20 = h45.v ∧ f 93 = .bool r54 ∧ St w0 (ros) (row 3 (rI .i64) h43.v r42.1 :: row 3 (rI .i64) h45.v r44.1 :: rs) w) (fun j5 => ?_) ?_
   ·rcases iteS gr54 with ⟨c56, gr54⟩ | ⟨c56, gr54⟩
    ·refine Y (wg rfl rfl rfl c56) rfl (ym (v := h32.v) (et rfl e50_13)) (Y (wg rfl rfl rfl c56) rfl (ym (v := h40.v) (et rfl e50_16)) ?_)
     obtain ⟨r57, gr57, gr54⟩ := bs gr54
     replace hst := hst.fz
     replace hst := hst.fz
     refine Yc (wg rfl rfl rfl c56) rfl (yCall FN_13 (a2 (e0 rfl) (e0 rfl))) (sparsekit_Ints_ok (hM := gr57) (hst := hst) (q1 := (mtF mhF)) (q2 := mhF)) ?_
     rintro _ w ⟨rfl, hst⟩
     refine ⟨_, rfl, ?_⟩
     refine Y wn rfl (ypt (v := .bool r57) (e0 rfl) c56 (e0 rfl)) ?_
     obtain rfl := someI gr54
     exact j5 _ _ ⟨e50_18, e50_20, rfl, (hst.facts (allT (allT allI)))⟩
    ·refine Gn (wx rfl rfl rfl (bfalse c56)) rfl (Gn (wx rfl rfl rfl (bfalse c56)) rfl (Gn (wx rfl rfl rfl (bfalse c56)) rfl (Y wn rfl (ypf (v := .bool false) (e0 rfl) (bfalse c56) rfl) ?_)))
     obtain rfl := someI gr54
     exact j5 _ _ ⟨e50_18, e50_20, rfl, (hst.pk 4 [2, 2] rfl)⟩
   rintro f w ⟨e55_18, e55_20, e55_93, hst⟩
   refine Y wn rfl (ym (v := .bool r54) (et rfl e55_93)) ?_
   obtain ⟨r59, gr59, hM⟩ := bs hM
   refine joinW 4 (fun f w => f 98 = .bool r59 ∧ St w0 (ros) (rs) w) (fun j6 => ?_) ?_
   ·rcases iteS gr59 with ⟨c61, gr59⟩ | ⟨c61, gr59⟩
    ·refine Y (wg rfl rfl rfl c61) rfl (ym (v := h43.v) (et rfl e55_18)) (Y (wg rfl rfl rfl c61) rfl (ym (v := h45.v) (et rfl e55_20)) ?_)
     obtain ⟨r62, gr62, gr59⟩ := bs gr59
     replace hst := hst.fz
     replace hst := hst.fz
     refine Yc (wg rfl rfl rfl c61) rfl (yCall FN_13 (a2 (e0 rfl) (e0 rfl))) (sparsekit_Ints_ok (hM := gr62) (hst := hst) (q1 := (mtF mhF)) (q2 := mhF)) ?_
     rintro _ w ⟨rfl, hst⟩
     refine ⟨_, rfl, ?_⟩
     refine Y wn rfl (ypt (v := .bool r62) (e0 rfl) c61 (e0 rfl)) ?_
     obtain rfl := someI gr59
     exact j6 _ _ ⟨rfl, (hst.facts (allT (allT allI)))⟩
    ·refine Gn (wx rfl rfl rfl (bfalse c61)) rfl (Gn (wx rfl rfl rfl (bfalse c61)) rfl (Gn (wx rfl rfl rfl (bfalse c61)) rfl (Y wn rfl (ypf (v := .bool false) (e0 rfl) (bfalse c61) rfl) ?_)))
     obtain rfl := someI gr59
     exact j6 _ _ ⟨rfl, (hst.pk 2 [] rfl)⟩
   rintro f w ⟨e60_98, hst⟩
   refine Y wn rfl (ym (v := .bool r59) (et rfl e60_98)) ?_
   obtain ⟨r64, gr64, hM⟩ := bs hM
   refine joinW 2 (fun f w => f 101 = .bool r64 ∧ St w0 (ros) (rs) w) (fun j7 => ?_) ?_
   ·rcases iteS gr64 with ⟨c66, gr64⟩ | ⟨c66, gr64⟩
    ·obtain ⟨r67, gr67, gr64⟩ := bs gr64
     refine Yc (wg rfl rfl rfl c66) rfl (yCall FN_8 a0) (sparselaw18_awake_ok (hM := gr67) (hst := hst) ) ?_
     rintro _ w ⟨rfl, hst⟩
     refine ⟨_, rfl, ?_⟩
     refine Y wn rfl (ypt (v := .bool r67) (e0 rfl) c66 (e0 rfl)) ?_
     obtain rfl := someI gr64
     exact j7 _ _ ⟨rfl, hst⟩
    ·refine Gn (wx rfl rfl rfl (bfalse c66)) rfl (Y wn rfl (ypf (v := .bool false) (e0 rfl) (bfalse c66) rfl) ?_)
     obtain rfl := someI gr64
     exact j7 _ _ ⟨rfl, hst⟩
   rintro f w ⟨e65_101, hst⟩
   refine Y wn rfl (ya (v := .bool r64) (et rfl e65_101)) (wN (k15 _ _ (wp_ret ?_)))
   obtain rfl := someI hM
   exact hQ _ _ _ (fin1r Tryz.results3 ⟨rfl, rfl⟩ ⟨rfl, hst⟩)
end Go.Proofs.YthpeajepbffinaaGreat
