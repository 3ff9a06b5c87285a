/- Walks: each function computes its model, printed. -/
import Derived.Test.YtoelidgkfpmgnaaW2
namespace Go.Proofs.Ytoelidgkfpmgnaa
open Go Sx M
set_option maxRecDepth 100000
set_option maxHeartbeats 400000
set_option linter.unusedVariables false
attribute [local irreducible] wpList Code.wp Calls DR QR QS LA LS St
theorem sparselaw19_EtreeSubtrees_ok {w0 : World} {ros : List Fact} {rs : List Res} {w : World} {x1 : Int} {x2 : List Int} {h3 : Hdr} {out : Bool} (hM : sparselaw19_EtreeSubtrees x1 x2 = some out) (q1 : imm (rI .i64) h3.v x2 ∈ ros) (hst : St w0 ros (rs) w) :
    Calls Try.prog 6 #[.int .i64 x1, h3.v] w (fun e w => e = .returned (.bool out) ∧ St w0 (ros) (rs) w) := by
  refine enterQ Try.func6 rfl Try.ntmps6 rfl fun Q hQ => ?_
  refine seqQ fun Q1 k1 z1 => ?_
  refine wp_region_lit ?_
  refine Y wn rfl (ya (v := .bool false) rfl) ?_
  refine wpList_nil ?_
  refine k1 _ _ ?_
  refine seqQ fun Q2 k2 z2 => ?_
  refine wp_region_lit ?_
  refine Y wn rfl (ym (v := .int .i64 x1) (et rfl rfl)) ?_
  obtain ⟨r4, gr4, hM⟩ := bs hM
  refine Yc wn rfl (yCall FN_11 (a2 (et rfl rfl) rfl)) (sparsekit_Place_ok (hM := gr4) (hst := hst) ) ?_
  clear hst
  rintro _ w ⟨rfl, hst⟩
  refine ⟨_, rfl, ?_⟩
  refine Y wn rfl (ya (v := .int .i64 r4) (et rfl rfl)) ?_
  refine wpList_nil ?_
  refine k2 _ _ ?_
  refine seqQ fun Q3 k3 z3 => ?_
  refine seqQ fun Q4 k4 z4 => ?_
  refine wp_region_lit ?_
  refine Y wn rfl (ym (v := h3.v) (et rfl rfl)) ?_
  refine Y wn rfl (yLen SL_22 (et rfl rfl) hst (rdI q1)) ?_
  refine Y wn rfl (ygtr (et rfl rfl) rfl) ?_
  refine wpList_nil ?_
  refine k4 _ _ ?_
  rcases iteS hM with ⟨c5, hM⟩ | ⟨c5, hM⟩
  · refine condT (et rfl rfl) (decide_eq_true c5) ?_
    refine seqQ fun Q5 k5 z5 => ?_
    refine wp_region_lit ?_
    obtain ⟨r6, gr6, hM⟩ := bs hM
    refine Yc wn rfl (yCall FN_10 a0) (sparselaw19_awake_ok (hM := gr6) (hst := hst) ) ?_
    clear hst
    rintro _ w ⟨rfl, hst⟩
    refine ⟨_, rfl, ?_⟩
    refine Y wn rfl (ya (v := .bool r6) (et rfl rfl)) ?_
    refine wpList_nil ?_
    refine k5 _ _ ?_
    refine wp_ret ?_
    refine z3 _ _ _ rfl ?_
    obtain rfl := someI hM
    exact hQ _ _ _ (fin1r Try.results6 ⟨rfl, rfl⟩ ⟨rfl, hst⟩)
  · refine condF (et rfl rfl) (decide_eq_false c5) ?_
    refine wp_skip ?_
    refine k3 _ _ ?_
    refine seqQ fun Q6 k6 z6 => ?_
    refine wp_region_lit ?_
    refine Y wn rfl (ym (v := .int .i64 r4) (et rfl rfl)) ?_
    refine Y wn rfl (ym (v := h3.v) (et rfl rfl)) ?_
    obtain ⟨r7, gr7, hM⟩ := bs hM
    refine Yc wn rfl (yCall FN_25 (a2 (et rfl rfl) (et rfl rfl))) (sparsemake_Tree_ok (hM := gr7) (hst := hst) (q1 := q1)) ?_
    clear hst
    rintro _ w ⟨h8, rfl, hst⟩
    refine ⟨_, rfl, ?_⟩
    refine Y wn rfl (ya (v := h8.v) (et rfl rfl)) ?_
    refine wpList_nil ?_
    refine k6 _ _ ?_
    refine seqQ fun Q7 k7 z7 => ?_
    refine wp_region_lit ?_
    refine Y wn rfl (ym (v := h8.v) (et rfl rfl)) ?_
    obtain ⟨r9, gr9, hM⟩ := bs hM
    replace hst := hst.fz
    refine Yc wn rfl (yCall FN_17 (a1 (et rfl rfl))) (etree_Postorder_ok (hM := gr9) (hst := hst) (q1 := mhF)) ?_
    clear hst
    rintro _ w ⟨h10, rfl, hst⟩
    refine ⟨_, rfl, ?_⟩
    refine Y wn rfl (ym (v := .tuple #[h10.v, .int .i64 r9.2]) (et rfl rfl)) ?_
    refine Y wn rfl (yx (v := h10.v) (et rfl rfl) rfl) ?_
    refine Y wn rfl (yx (v := .int .i64 r9.2) (et rfl rfl) rfl) ?_
    refine Y wn rfl (ya (v := h10.v) (et rfl rfl)) ?_
    refine Y wn rfl (ya (v := .int .i64 r9.2) (et rfl rfl)) ?_
    refine wpList_nil ?_
    refine k7 _ _ ?_
    refine seqQ fun Q8 k8 z8 => ?_
    refine wp_region_lit ?_
    refine Y wn rfl (ym (v := h8.v) (et rfl rfl)) ?_
    obtain ⟨r11, gr11, hM⟩ := bs hM
    refine Yc wn rfl (yCall FN_19 (a1 (et rfl rfl))) (etree_Depths_ok (hM := gr11) (hst := hst) (q1 := mhF)) ?_
    clear hst
    rintro _ w ⟨h12, rfl, hst⟩
    refine ⟨_, rfl, ?_⟩
    refine Y wn rfl (ym (v := .tuple #[h12.v, .int .i64 r11.2]) (et rfl rfl)) ?_
    refine Y wn rfl (yx (v := h12.v) (et rfl rfl) rfl) ?_
    refine Y wn rfl (yx (v := .int .i64 r11.2) (et rfl rfl) rfl) ?_
    refine Y wn rfl (ya (v := h12.v) (et rfl rfl)) ?_
    refine Y wn rfl (ya (v := .int .i64 r11.2) (et rfl rfl)) ?_
    refine wpList_nil ?_
    refine k8 _ _ ?_
    refine seqQ fun Q9 k9 z9 => ?_
    refine wp_region_lit ?_
    refine Y wn rfl (ym (v := h8.v) (et rfl rfl)) ?_
    obtain ⟨r13, gr13, hM⟩ := bs hM
    refine Yc wn rfl (yCall FN_21 (a1 (et rfl rfl))) (etree_Sizes_ok (hM := gr13) (hst := hst) (q1 := mhF)) ?_
    clear hst
    rintro _ w ⟨h14, rfl, hst⟩
    refine ⟨_, rfl, ?_⟩
    refine Y wn rfl (ym (v := .tuple #[h14.v, .int .i64 r13.2]) (et rfl rfl)) ?_
    refine Y wn rfl (yx (v := h14.v) (et rfl rfl) rfl) ?_
    refine Y wn rfl (yx (v := .int .i64 r13.2) (et rfl rfl) rfl) ?_
    refine Y wn rfl (ya (v := h14.v) (et rfl rfl)) ?_
    refine Y wn rfl (ya (v := .int .i64 r13.2) (et rfl rfl)) ?_
    refine wpList_nil ?_
    refine k9 _ _ ?_
    refine seqQ fun Q10 k10 z10 => ?_
    refine seqQ fun Q11 k11 z11 => ?_
    refine wp_region_lit ?_
    refine Y wn rfl (ym (v := .int .i64 r9.2) (et rfl rfl)) ?_
    refine Y wn rfl (yneq (et rfl rfl) rfl) ?_
    refine Y wn rfl (ym (v := .bool (!(decide (r9.2 = 0)))) (et rfl rfl)) ?_
    refine joinW 3 (fun f w => f 0 = .int .i64 r4 ∧ f 5 = h8.v ∧ f 6 = h10.v ∧ f 8 = h12.v ∧ f 10 = h14.v ∧ f 11 = .int .i64 r13.2 ∧ f 44 = .bool ((!(decide (r9.2 = 0))) || (!(decide (r11.2 = 0)))) ∧ St w0 (imm (rI .i64) h8.v r7 :: ros) (row 3 (rI .i64) h10.v r9.1 :: row 3 (rI .i64) h12.v r11.1 :: row 3 (rI .i64) h14.v r13.1 :: rs) w) (fun j1 => ?_) ?_
    · rcases Bool.eq_false_or_eq_true (!(decide (r9.2 = 0))) with c16 | c16
      · refine Gn (wx rfl rfl rfl c16) rfl ?_
        refine Gn (wx rfl rfl rfl c16) rfl ?_
        refine Y wn rfl (ypt (v := .bool true) (et rfl rfl) c16 rfl) ?_
        exact j1 _ _ ⟨rfl, rfl, rfl, rfl, rfl, rfl, (congrArg Value.bool (orT c16)), (hst.pk 3 [2, 1, 0] rfl)⟩
      · refine Y (wg rfl rfl rfl c16) rfl (ym (v := .int .i64 r11.2) (et rfl rfl)) ?_
        refine Y (wg rfl rfl rfl c16) rfl (yneq (et rfl rfl) rfl) ?_
        refine Y wn rfl (ypf (v := .bool (!(decide (r11.2 = 0)))) (et rfl rfl) c16 (et rfl rfl)) ?_
        exact j1 _ _ ⟨rfl, rfl, rfl, rfl, rfl, rfl, (congrArg Value.bool (orF c16)), (hst.pk 3 [2, 1, 0] rfl)⟩
    clear hst
    rintro f w ⟨e15_0, e15_5, e15_6, e15_8, e15_10, e15_11, e15_44, hst⟩
    refine Y wn rfl (ym (v := .bool ((!(decide (r9.2 = 0))) || (!(decide (r11.2 = 0))))) (et rfl e15_44)) ?_
    refine joinW 3 (fun f w => f 0 = .int .i64 r4 ∧ f 5 = h8.v ∧ f 6 = h10.v ∧ f 8 = h12.v ∧ f 10 = h14.v ∧ f 48 = .bool (((!(decide (r9.2 = 0))) || (!(decide (r11.2 = 0)))) || (!(decide (r13.2 = 0)))) ∧ St w0 (imm (rI .i64) h8.v r7 :: ros) (row 3 (rI .i64) h10.v r9.1 :: row 3 (rI .i64) h12.v r11.1 :: row 3 (rI .i64) h14.v r13.1 :: rs) w) (fun j2 => ?_) ?_
    · rcases Bool.eq_false_or_eq_true (((!(decide (r9.2 = 0))) || (!(decide (r11.2 = 0))))) with c18 | c18
      · refine Gn (wx rfl rfl rfl c18) rfl ?_
        refine Gn (wx rfl rfl rfl c18) rfl ?_
        refine Y wn rfl (ypt (v := .bool true) (et rfl rfl) c18 rfl) ?_
        exact j2 _ _ ⟨e15_0, e15_5, e15_6, e15_8, e15_10, (congrArg Value.bool (orT c18)), hst⟩
      · refine Y (wg rfl rfl rfl c18) rfl (ym (v := .int .i64 r13.2) (et rfl e15_11)) ?_
        refine Y (wg rfl rfl rfl c18) rfl (yneq (et rfl rfl) rfl) ?_
        refine Y wn rfl (ypf (v := .bool (!(decide (r13.2 = 0)))) (et rfl rfl) c18 (et rfl rfl)) ?_
        exact j2 _ _ ⟨e15_0, e15_5, e15_6, e15_8, e15_10, (congrArg Value.bool (orF c18)), hst⟩
    clear hst
    rintro f w ⟨e17_0, e17_5, e17_6, e17_8, e17_10, e17_48, hst⟩
    refine Y wn rfl (ym (v := .bool (((!(decide (r9.2 = 0))) || (!(decide (r11.2 = 0)))) || (!(decide (r13.2 = 0))))) (et rfl e17_48)) ?_
    obtain ⟨r20, gr20, hM⟩ := bs hM
    refine joinW 5 (fun f w => f 0 = .int .i64 r4 ∧ f 5 = h8.v ∧ f 6 = h10.v ∧ f 8 = h12.v ∧ f 10 = h14.v ∧ f 54 = .bool r20 ∧ St w0 (imm (rI .i64) h8.v r7 :: imm (rI .i64) h10.v r9.1 :: ros) (row 3 (rI .i64) h12.v r11.1 :: row 3 (rI .i64) h14.v r13.1 :: rs) w) (fun j3 => ?_) ?_
    · rcases iteS gr20 with ⟨c22, gr20⟩ | ⟨c22, gr20⟩
      · refine Gn (wx rfl rfl rfl c22) rfl ?_
        refine Gn (wx rfl rfl rfl c22) rfl ?_
        refine Gn (wx rfl rfl rfl c22) rfl ?_
        refine Gn (wx rfl rfl rfl c22) rfl ?_
        refine Y wn rfl (ypt (v := .bool true) (et rfl rfl) c22 rfl) ?_
        obtain rfl := someI gr20
        replace hst := hst.fz
        exact j3 _ _ ⟨e17_0, e17_5, e17_6, e17_8, e17_10, rfl, (hst.facts (allC (mtF mhF) (allC mhF (allT (allT allI)))))⟩
      · refine Y (wg rfl rfl rfl (bfalse c22)) rfl (ym (v := h10.v) (et rfl e17_6)) ?_
        refine Y (wg rfl rfl rfl (bfalse c22)) rfl (ym (v := .int .i64 r4) (et rfl e17_0)) ?_
        obtain ⟨r23, gr23, gr20⟩ := bs gr20
        replace hst := hst.fz
        refine Yc (wg rfl rfl rfl (bfalse c22)) rfl (yCall FN_26 (a2 (et rfl rfl) (et rfl rfl))) (sparsekit_Perm_ok (hM := gr23) (hst := hst) (q1 := mhF)) ?_
        clear hst
        rintro _ w ⟨rfl, hst⟩
        refine ⟨_, rfl, ?_⟩
        refine Y (wg rfl rfl rfl (bfalse c22)) rfl (ynot (et rfl rfl)) ?_
        refine Y wn rfl (ypf (v := .bool (!(r23))) (et rfl rfl) (bfalse c22) (et rfl rfl)) ?_
        obtain rfl := someI gr20
        exact j3 _ _ ⟨e17_0, e17_5, e17_6, e17_8, e17_10, rfl, (hst.facts (allC (mtF mhF) (allC mhF (allT (allT allI)))))⟩
    clear hst
    rintro f w ⟨e21_0, e21_5, e21_6, e21_8, e21_10, e21_54, hst⟩
    refine Y wn rfl (ym (v := .bool r20) (et rfl e21_54)) ?_
    refine joinW 5 (fun f w => f 0 = .int .i64 r4 ∧ f 5 = h8.v ∧ f 6 = h10.v ∧ f 8 = h12.v ∧ f 10 = h14.v ∧ f 60 = .bool (r20 || (!(decide ((r11.1.length : Int) = r4)))) ∧ St w0 (imm (rI .i64) h8.v r7 :: imm (rI .i64) h10.v r9.1 :: ros) (row 3 (rI .i64) h12.v r11.1 :: row 3 (rI .i64) h14.v r13.1 :: rs) w) (fun j4 => ?_) ?_
    · rcases Bool.eq_false_or_eq_true (r20) with c25 | c25
      · refine Gn (wx rfl rfl rfl c25) rfl ?_
        refine Gn (wx rfl rfl rfl c25) rfl ?_
        refine Gn (wx rfl rfl rfl c25) rfl ?_
        refine Gn (wx rfl rfl rfl c25) rfl ?_
        refine Y wn rfl (ypt (v := .bool true) (et rfl rfl) c25 rfl) ?_
        exact j4 _ _ ⟨e21_0, e21_5, e21_6, e21_8, e21_10, (congrArg Value.bool (orT c25)), hst⟩
      · refine Y (wg rfl rfl rfl c25) rfl (ym (v := h12.v) (et rfl e21_8)) ?_
        refine Y (wg rfl rfl rfl c25) rfl (yLen SL_22 (et rfl rfl) hst (rdO mhR)) ?_
        refine Y (wg rfl rfl rfl c25) rfl (ym (v := .int .i64 r4) (et rfl e21_0)) ?_
        refine Y (wg rfl rfl rfl c25) rfl (yneq (et rfl rfl) (et rfl rfl)) ?_
        refine Y wn rfl (ypf (v := .bool (!(decide ((r11.1.length : Int) = r4)))) (et rfl rfl) c25 (et rfl rfl)) ?_
        exact j4 _ _ ⟨e21_0, e21_5, e21_6, e21_8, e21_10, (congrArg Value.bool (orF c25)), hst⟩
    clear hst
    rintro f w ⟨e24_0, e24_5, e24_6, e24_8, e24_10, e24_60, hst⟩
    refine Y wn rfl (ym (v := .bool (r20 || (!(decide ((r11.1.length : Int) = r4))))) (et rfl e24_60)) ?_
    refine joinW 5 (fun f w => f 0 = .int .i64 r4 ∧ f 5 = h8.v ∧ f 6 = h10.v ∧ f 8 = h12.v ∧ f 10 = h14.v ∧ f 66 = .bool ((r20 || (!(decide ((r11.1.length : Int) = r4)))) || (!(decide ((r13.1.length : Int) = r4)))) ∧ St w0 (imm (rI .i64) h8.v r7 :: imm (rI .i64) h10.v r9.1 :: ros) (row 3 (rI .i64) h12.v r11.1 :: row 3 (rI .i64) h14.v r13.1 :: rs) w) (fun j5 => ?_) ?_
    · rcases Bool.eq_false_or_eq_true ((r20 || (!(decide ((r11.1.length : Int) = r4))))) with c27 | c27
      · refine Gn (wx rfl rfl rfl c27) rfl ?_
        refine Gn (wx rfl rfl rfl c27) rfl ?_
        refine Gn (wx rfl rfl rfl c27) rfl ?_
        refine Gn (wx rfl rfl rfl c27) rfl ?_
        refine Y wn rfl (ypt (v := .bool true) (et rfl rfl) c27 rfl) ?_
        exact j5 _ _ ⟨e24_0, e24_5, e24_6, e24_8, e24_10, (congrArg Value.bool (orT c27)), hst⟩
      · refine Y (wg rfl rfl rfl c27) rfl (ym (v := h14.v) (et rfl e24_10)) ?_
        refine Y (wg rfl rfl rfl c27) rfl (yLen SL_22 (et rfl rfl) hst (rdO (mtR mhR))) ?_
        refine Y (wg rfl rfl rfl c27) rfl (ym (v := .int .i64 r4) (et rfl e24_0)) ?_
        refine Y (wg rfl rfl rfl c27) rfl (yneq (et rfl rfl) (et rfl rfl)) ?_
        refine Y wn rfl (ypf (v := .bool (!(decide ((r13.1.length : Int) = r4)))) (et rfl rfl) c27 (et rfl rfl)) ?_
        exact j5 _ _ ⟨e24_0, e24_5, e24_6, e24_8, e24_10, (congrArg Value.bool (orF c27)), hst⟩
    clear hst
    rintro f w ⟨e26_0, e26_5, e26_6, e26_8, e26_10, e26_66, hst⟩
    refine wpList_nil ?_
    refine k11 _ _ ?_
    rcases iteS hM with ⟨c28, hM⟩ | ⟨c28, hM⟩
    · refine condT (et rfl e26_66) c28 ?_
      refine seqQ fun Q12 k12 z12 => ?_
      refine wp_region_lit ?_
      refine Y wn rfl (ya (v := .bool false) rfl) ?_
      refine wpList_nil ?_
      refine k12 _ _ ?_
      refine wp_ret ?_
      refine z10 _ _ _ rfl ?_
      obtain rfl := someI hM
      exact hQ _ _ _ (fin1r Try.results6 ⟨rfl, rfl⟩ ⟨rfl, ((hst.pk 2 [] rfl).facts (allT (allT allI)))⟩)
    · refine condF (et rfl e26_66) (bfalse c28) ?_
      refine wp_skip ?_
      refine k10 _ _ ?_
      refine seqQ fun Q13 k13 z13 => ?_
      refine wp_region_lit ?_
      refine Y wn rfl (ym (v := h10.v) (et rfl e26_6)) ?_
      obtain ⟨r29, gr29, hM⟩ := bs hM
      refine Yc wn rfl (yCall FN_27 (a1 (et rfl rfl))) (sparsekit_Invert_ok (hM := gr29) (hst := hst) (q1 := (mtF mhF))) ?_
      clear hst
      rintro _ w ⟨h30, rfl, hst⟩
      refine ⟨_, rfl, ?_⟩
      refine Y wn rfl (ya (v := h30.v) (et rfl rfl)) ?_
      refine wpList_nil ?_
      refine k13 _ _ ?_
      refine seqQ fun Q14 k14 z14 => ?_
      refine wp_region_lit ?_
      refine Y wn rfl (ya (v := .int .i64 0) rfl) ?_
      refine wpList_nil ?_
      refine k14 _ _ ?_
      refine seqQ fun Q15 k15 z15 => ?_
      refine seqQ fun Q16 k16 z16 => ?_
      refine wp_region_lit ?_
      refine Y wn rfl (ya (v := .int .i64 0) rfl) ?_
      refine wpList_nil ?_
      refine k16 _ _ ?_
      refine blockQ fun Q17 q17 => ?_
      obtain ⟨o50, go50, hM⟩ := bs hM
      have je50_0 : ∀ (x219 : Int) (f : Nat → Value) (w : World), f 0 = .int .i64 r4 → f 13 = .int .i64 x219 → St w0 (ros) (rs) w → .inl x219 = o50 → Q17 (.exit 0) (fr 150 f) w := by
        intro x219 f w eje50_0_0 eje50_0_13 hst ho
        subst ho
        refine q17 _ _ _ ?_
        refine k15 _ _ ?_
        refine seqQ fun Q78 k78 z78 => ?_
        refine wp_region_lit ?_
        refine Y wn rfl (ym (v := .int .i64 x219) (et rfl eje50_0_13)) ?_
        refine Y wn rfl (ym (v := .int .i64 r4) (et rfl eje50_0_0)) ?_
        refine Y wn rfl (yeql (et rfl rfl) (et rfl rfl)) ?_
        refine Y wn rfl (ym (v := .bool (decide (x219 = r4))) (et rfl rfl)) ?_
        obtain ⟨r221, gr221, hM⟩ := bs hM
        refine joinW 2 (fun f w => f 149 = .bool r221 ∧ St w0 (ros) (rs) w) (fun j51 => ?_) ?_
        · rcases iteS gr221 with ⟨c223, gr221⟩ | ⟨c223, gr221⟩
          · obtain ⟨r224, gr224, gr221⟩ := bs gr221
            refine Yc (wg rfl rfl rfl (decide_eq_true c223)) rfl (yCall FN_10 a0) (sparselaw19_awake_ok (hM := gr224) (hst := hst) ) ?_
            clear hst
            rintro _ w ⟨rfl, hst⟩
            refine ⟨_, rfl, ?_⟩
            refine Y wn rfl (ypt (v := .bool r224) (et rfl rfl) (decide_eq_true c223) (et rfl rfl)) ?_
            obtain rfl := someI gr221
            exact j51 _ _ ⟨rfl, hst⟩
          · refine Gn (wx rfl rfl rfl (decide_eq_false c223)) rfl ?_
            refine Y wn rfl (ypf (v := .bool false) (et rfl rfl) (decide_eq_false c223) rfl) ?_
            obtain rfl := someI gr221
            exact j51 _ _ ⟨rfl, hst⟩
        clear hst
        rintro f w ⟨e222_149, hst⟩
        refine Y wn rfl (ya (v := .bool r221) (et rfl e222_149)) ?_
        refine wpList_nil ?_
        refine k78 _ _ ?_
        refine wp_ret ?_
        obtain rfl := someI hM
        exact hQ _ _ _ (fin1r Try.results6 ⟨rfl, rfl⟩ ⟨rfl, hst⟩)
      have je50_1 : ∀ (f : Nat → Value) (w : World), f 4 = .bool false → St w0 (ros) (rs) w → .inr () = o50 → Q17 .ret (fr 150 f) w := by
        intro f w eje50_1_4 hst ho
        subst ho
        refine q17 _ _ _ ?_
        refine z15 _ _ _ rfl ?_
        obtain rfl := someI hM
        exact hQ _ _ _ (fin1r Try.results6 ⟨rfl, eje50_1_4⟩ ⟨rfl, hst⟩)
      refine loopQ (fun s a w => ∃ (x123 : Int) (x124 : Int) (f : Nat → Value), (x123, x124) = s ∧ a = fr 150 f ∧ f 0 = .int .i64 r4 ∧ f 5 = h8.v ∧ f 8 = h12.v ∧ f 10 = h14.v ∧ f 12 = h30.v ∧ f 13 = .int .i64 x123 ∧ f 14 = .int .i64 x124 ∧ St w0 (imm (rI .i64) h8.v r7 :: ros) (row 3 (rI .i64) h12.v r11.1 :: row 3 (rI .i64) h14.v r13.1 :: row 3 (rI .i64) h30.v r29 :: rs) w) go50 ⟨_, _, _, rfl, rfl, e26_0, e26_5, e26_8, e26_10, rfl, rfl, rfl, ((hst.pk 3 [1, 1, 0] rfl).facts (allC mhF (allT (allT allI))))⟩ ?_
      clear hst
      rintro _ _ w r50_ ⟨x123, x124, f, rfl, rfl, e50_0, e50_5, e50_8, e50_10, e50_12, e50_13, e50_14, hst⟩ hM50 ho50 Q100050 n50 zz50
      refine seqQ fun Q79 k79 z79 => ?_
      refine seqQ fun Q80 k80 z80 => ?_
      refine wp_region_lit ?_
      refine Y wn rfl (ym (v := .int .i64 x124) (et rfl e50_14)) ?_
      refine Y wn rfl (ym (v := .int .i64 r4) (et rfl e50_0)) ?_
      refine Y wn rfl (ylss (et rfl rfl) (et rfl rfl)) ?_
      refine wpList_nil ?_
      refine k80 _ _ ?_
      rcases iteS hM50 with ⟨c225, hM50⟩ | ⟨c225, hM50⟩
      · refine condT (et rfl rfl) (decide_eq_true c225) ?_
        refine wp_skip ?_
        refine k79 _ _ ?_
        refine seqQ fun Q81 k81 z81 => ?_
        have j66 : ∀ (x286 : Int) (f : Nat → Value) (w : World), f 0 = .int .i64 r4 → f 5 = h8.v → f 8 = h12.v → f 10 = h14.v → f 12 = h30.v → f 13 = .int .i64 x286 → f 14 = .int .i64 x124 → St w0 (imm (rI .i64) h8.v r7 :: ros) (row 3 (rI .i64) h12.v r11.1 :: row 3 (rI .i64) h14.v r13.1 :: row 3 (rI .i64) h30.v r29 :: rs) w → sparselaw19_EtreeSubtrees_j66 x124 x286 = some r50_ → Q81 .normal (fr 150 f) w := by
          intro x286 f w ej66_0 ej66_5 ej66_8 ej66_10 ej66_12 ej66_13 ej66_14 hst hM
          refine k81 _ _ ?_
          refine wp_region_lit ?_
          refine Y wn rfl (ym (v := .int .i64 x124) (et rfl ej66_14)) ?_
          refine Y wn rfl (yadd (et rfl rfl) rfl) ?_
          refine Y wn rfl (ya (v := .int .i64 (wa .i64 x124 1)) (et rfl rfl)) ?_
          refine wpList_nil ?_
          obtain rfl := someI hM
          exact n50 _ _ _ rfl ⟨_, _, _, rfl, rfl, ej66_0, ej66_5, ej66_8, ej66_10, ej66_12, ej66_13, rfl, hst⟩
        refine blockQ fun Q100 q100 => ?_
        refine seqQ fun Q101 k101 z101 => ?_
        refine seqQ fun Q102 k102 z102 => ?_
        refine wp_region_lit ?_
        refine Y wn rfl (ym (v := h8.v) (et rfl e50_5)) ?_
        refine Y wn rfl (ym (v := .int .i64 x124) (et rfl e50_14)) ?_
        obtain ⟨x287, gx287, hM50⟩ := bs hM50
        refine Y wn rfl (yIa SL_22 (et rfl rfl) (et rfl rfl) hst (rdI mhF) gx287) ?_
        refine Y wn rfl (yI O_3 (et rfl rfl) hst (rdI mhF) gx287) ?_
        refine Y wn rfl (ylss (et rfl rfl) rfl) ?_
        refine wpList_nil ?_
        refine k102 _ _ ?_
        rcases iteS hM50 with ⟨c288, hM50⟩ | ⟨c288, hM50⟩
        · refine condT (et rfl rfl) (decide_eq_true c288) ?_
          refine seqQ fun Q103 k103 z103 => ?_
          refine wp_region_lit ?_
          refine Y wn rfl (ym (v := .int .i64 x123) (et rfl e50_13)) ?_
          refine Y wn rfl (ym (v := h14.v) (et rfl e50_10)) ?_
          refine Y wn rfl (ym (v := .int .i64 x124) (et rfl e50_14)) ?_
          obtain ⟨x289, gx289, hM50⟩ := bs hM50
          refine Y wn rfl (yIa SL_22 (et rfl rfl) (et rfl rfl) hst (rdO (mtR mhR)) gx289) ?_
          refine Y wn rfl (yI O_3 (et rfl rfl) hst (rdO (mtR mhR)) gx289) ?_
          refine Y wn rfl (yadd (et rfl rfl) (et rfl rfl)) ?_
          refine Y wn rfl (ya (v := .int .i64 (wa .i64 x123 x289)) (et rfl rfl)) ?_
          refine wpList_nil ?_
          refine k103 _ _ ?_
          refine seqQ fun Q104 k104 z104 => ?_
          refine seqQ fun Q105 k105 z105 => ?_
          refine wp_region_lit ?_
          refine Y wn rfl (ym (v := h12.v) (et rfl e50_8)) ?_
          refine Y wn rfl (ym (v := .int .i64 x124) (et rfl e50_14)) ?_
          obtain ⟨x290, gx290, hM50⟩ := bs hM50
          refine Y wn rfl (yIa SL_22 (et rfl rfl) (et rfl rfl) hst (rdO mhR) gx290) ?_
          refine Y wn rfl (yI O_3 (et rfl rfl) hst (rdO mhR) gx290) ?_
          refine Y wn rfl (yneq (et rfl rfl) rfl) ?_
          refine wpList_nil ?_
          refine k105 _ _ ?_
          rcases iteS hM50 with ⟨c291, hM50⟩ | ⟨c291, hM50⟩
          · refine condF (et rfl rfl) (nF (decide_eq_true c291)) ?_
            refine wp_skip ?_
            refine k104 _ _ ?_
            refine wp_exit ?_
            refine z101 _ _ _ rfl ?_
            refine q100 _ _ _ ?_
            exact j66 _ _ _ e50_0 e50_5 e50_8 e50_10 e50_12 rfl e50_14 hst hM50
          · refine condT (et rfl rfl) (nT (decide_eq_false c291)) ?_
            refine seqQ fun Q106 k106 z106 => ?_
            refine wp_region_lit ?_
            refine Y wn rfl (ya (v := .bool false) rfl) ?_
            refine wpList_nil ?_
            refine k106 _ _ ?_
            refine wp_ret ?_
            refine z104 _ _ _ rfl ?_
            refine z101 _ _ _ rfl ?_
            refine q100 _ _ _ ?_
            refine z81 _ _ _ rfl ?_
            obtain rfl := someI hM50
            refine zz50 _ _ _ _ rfl rfl ?_
            exact je50_1 _ _ rfl ((hst.pk 3 [] rfl).facts (allT allI)) (ho50 _ rfl)
        · refine condF (et rfl rfl) (decide_eq_false c288) ?_
          refine wp_skip ?_
          refine k101 _ _ ?_
          refine seqQ fun Q107 k107 z107 => ?_
          obtain ⟨x292, gx292, hM50⟩ := bs hM50
          obtain ⟨x293, gx293, hM50⟩ := bs hM50
          obtain ⟨x294, gx294, hM50⟩ := bs hM50
          obtain ⟨r295, gr295, hM50⟩ := bs hM50
          obtain ⟨r296, gr296, hM50⟩ := bs hM50
          refine joinN (n := 150) (fun f w => f 0 = .int .i64 r4 ∧ f 5 = h8.v ∧ f 8 = h12.v ∧ f 10 = h14.v ∧ f 12 = h30.v ∧ f 13 = .int .i64 x123 ∧ f 14 = .int .i64 x124 ∧ f 143 = .bool r296 ∧ St w0 (imm (rI .i64) h8.v r7 :: ros) (row 3 (rI .i64) h12.v r11.1 :: row 3 (rI .i64) h14.v r13.1 :: row 3 (rI .i64) h30.v r29 :: rs) w) (fun j67 => ?_) ?_
          · rcases iteS gr295 with ⟨c298, gr295⟩ | ⟨c298, gr295⟩
            · obtain ⟨x299, gx299, gr295⟩ := bs gr295
              obtain ⟨x300, gx300, gr295⟩ := bs gr295
              obtain ⟨x301, gx301, gr295⟩ := bs gr295
              have hr68 := someI gr295
              rcases iteS gr296 with ⟨c302, gr296⟩ | ⟨c302, gr296⟩
              · have hr69 := someI gr296
                refine wp_drawR [0, 0, 3, 7, 0, 0, 0, 96, 224, 496, 1008, 2032, 4095, 8191, 16383, 16383, 65535, 131071, 16383, 16383, 16383, 1589247, 3686399, 8142847, 16531455, 33554431, 67108863, 134217727, 268435455, 268435455, 1073741823, 2147483647, 268435455, 268435455, 13153337343, 30333206527, 68719476735, 268435455, 268435455, 268435455, 824902156287, 1924413784063, 4260875993087, 8658922504191, 268435455, 268435455, 268435455, 105553384701951, 246290873057279, 545358035812351, 1108307989233663, 2251662643167231, 4503599627370495, 9007199254740991] [] 0 folM (by kernel_rfl) (by kernel_rfl) (by kernel_rfl) ?_
                replace hst := hst.drew
                refine DRz (l1 := [0, 1, 2, 3, 4, 5, 6, 7, 8, 9, 10, 11, 12, 13, 14, 15, 16, 17, 18, 19, 20, 21, 22, 23, 24, 25, 26, 27, 28, 29, 30, 31, 32, 33, 34, 35, 36, 37, 38, 39, 40, 41, 42, 43, 44, 45, 46, 47, 48, 49, 50, 51, 52, 53]) (l2 := []) (by kernel_rfl) (by kernel_rfl) ?_
                refine Ry rfl rfl wn (ym (v := h12.v) (et rfl e50_8)) ?_
                refine Ry rfl rfl wn (ym (v := .int .i64 x124) (et rfl e50_14)) ?_
                refine Ry rfl rfl wn (yIa SL_22 (et rfl rfl) (et rfl rfl) hst (rdO mhR) gx292) ?_
                refine Ry rfl rfl wn (yI O_3 (et rfl rfl) hst (rdO mhR) gx292) ?_
                refine Ry rfl rfl wn (ym (v := h12.v) (et rfl e50_8)) ?_
                refine Ry rfl rfl wn (ym (v := h8.v) (et rfl e50_5)) ?_
                refine Ry rfl rfl wn (ym (v := .int .i64 x124) (et rfl e50_14)) ?_
                refine Ry rfl rfl wn (yIa SL_22 (et rfl rfl) (et rfl rfl) hst (rdI mhF) gx293) ?_
                refine Ry rfl rfl wn (yI O_3 (et rfl rfl) hst (rdI mhF) gx293) ?_
                refine Ry rfl rfl wn (yIa SL_22 (et rfl rfl) (et rfl rfl) hst (rdO mhR) gx294) ?_
                refine Ry rfl rfl wn (yI O_3 (et rfl rfl) hst (rdO mhR) gx294) ?_
                refine Ry rfl rfl wn (yadd (et rfl rfl) rfl) ?_
                refine Ry rfl rfl wn (yneq (et rfl rfl) (et rfl rfl)) ?_
                refine Ry rfl rfl wn (ym (v := .bool (!(decide (x292 = (wa .i64 x294 1))))) (et rfl rfl)) ?_
                refine Ry rfl rfl (wg rfl rfl rfl (nF (decide_eq_true c298))) (ym (v := h30.v) (et rfl e50_12)) ?_
                refine Ry rfl rfl (wg rfl rfl rfl (nF (decide_eq_true c298))) (ym (v := .int .i64 x124) (et rfl e50_14)) ?_
                refine Ry rfl rfl (wg rfl rfl rfl (nF (decide_eq_true c298))) (yIa SL_22 (et rfl rfl) (et rfl rfl) hst (rdO (mtR (mtR mhR))) gx299) ?_
                refine Ry rfl rfl (wg rfl rfl rfl (nF (decide_eq_true c298))) (yI O_3 (et rfl rfl) hst (rdO (mtR (mtR mhR))) gx299) ?_
                refine Ry rfl rfl (wg rfl rfl rfl (nF (decide_eq_true c298))) (ym (v := h30.v) (et rfl e50_12)) ?_
                refine Ry rfl rfl (wg rfl rfl rfl (nF (decide_eq_true c298))) (ym (v := h8.v) (et rfl e50_5)) ?_
                refine Ry rfl rfl (wg rfl rfl rfl (nF (decide_eq_true c298))) (ym (v := .int .i64 x124) (et rfl e50_14)) ?_
                refine Ry rfl rfl (wg rfl rfl rfl (nF (decide_eq_true c298))) (yIa SL_22 (et rfl rfl) (et rfl rfl) hst (rdI mhF) gx300) ?_
                refine Ry rfl rfl (wg rfl rfl rfl (nF (decide_eq_true c298))) (yI O_3 (et rfl rfl) hst (rdI mhF) gx300) ?_
                refine Ry rfl rfl (wg rfl rfl rfl (nF (decide_eq_true c298))) (yIa SL_22 (et rfl rfl) (et rfl rfl) hst (rdO (mtR (mtR mhR))) gx301) ?_
                refine Ry rfl rfl (wg rfl rfl rfl (nF (decide_eq_true c298))) (yI O_3 (et rfl rfl) hst (rdO (mtR (mtR mhR))) gx301) ?_
                refine Ry rfl rfl (wg rfl rfl rfl (nF (decide_eq_true c298))) (ygtr (et rfl rfl) (et rfl rfl)) ?_
                refine Ry rfl rfl wn (ypf (v := .bool r295) (et rfl rfl) (nF (decide_eq_true c298)) (eqv hr68 (et rfl rfl))) ?_
                refine Ry rfl rfl wn (ym (v := .bool r295) (et rfl rfl)) ?_
                refine Rx rfl rfl (wx rfl rfl rfl c302) ?_
                refine Rx rfl rfl (wx rfl rfl rfl c302) ?_
                refine Rx rfl rfl (wx rfl rfl rfl c302) ?_
                refine Rx rfl rfl (wx rfl rfl rfl c302) ?_
                refine Rx rfl rfl (wx rfl rfl rfl c302) ?_
                refine Rx rfl rfl (wx rfl rfl rfl c302) ?_
                refine Rx rfl rfl (wx rfl rfl rfl c302) ?_
                refine Rx rfl rfl (wx rfl rfl rfl c302) ?_
                refine Rx rfl rfl (wx rfl rfl rfl c302) ?_
                refine Rx rfl rfl (wx rfl rfl rfl c302) ?_
                refine Rx rfl rfl (wx rfl rfl rfl c302) ?_
                refine Rx rfl rfl (wx rfl rfl rfl c302) ?_
                refine Rx rfl rfl (wx rfl rfl rfl c302) ?_
                refine Rx rfl rfl (wx rfl rfl rfl c302) ?_
                refine Rx rfl rfl (wx rfl rfl rfl c302) ?_
                refine Rx rfl rfl (wx rfl rfl rfl c302) ?_
                refine Rx rfl rfl (wx rfl rfl rfl c302) ?_
                refine Rx rfl rfl (wx rfl rfl rfl c302) ?_
                refine Rx rfl rfl (wx rfl rfl rfl c302) ?_
                refine Rx rfl rfl (wx rfl rfl rfl c302) ?_
                refine Rx rfl rfl (wx rfl rfl rfl c302) ?_
                refine Rx rfl rfl (wx rfl rfl rfl c302) ?_
                refine Rx rfl rfl (wx rfl rfl rfl c302) ?_
                refine Rx rfl rfl (wx rfl rfl rfl c302) ?_
                refine Rx rfl rfl (wx rfl rfl rfl c302) ?_
                refine Ry rfl rfl wn (ypt (v := .bool r296) (et rfl rfl) c302 (eqv hr69 rfl)) ?_
                refine Rn QSn ?_
                exact j67 _ _ ⟨e50_0, e50_5, e50_8, e50_10, e50_12, e50_13, e50_14, rfl, hst⟩
              · obtain ⟨x303, gx303, gr296⟩ := bs gr296
                obtain ⟨x304, gx304, gr296⟩ := bs gr296
                obtain ⟨x305, gx305, gr296⟩ := bs gr296
                obtain ⟨x306, gx306, gr296⟩ := bs gr296
                obtain ⟨x307, gx307, gr296⟩ := bs gr296
                obtain ⟨x308, gx308, gr296⟩ := bs gr296
                have hr70 := someI gr296
                refine wp_drawR [0, 0, 3, 7, 0, 0, 0, 96, 224, 496, 1008, 2032, 4095, 8191, 16383, 16383, 65535, 131071, 16383, 16383, 16383, 1589247, 3686399, 8142847, 16531455, 33554431, 67108863, 134217727, 268435455, 268435455, 1073741823, 2147483647, 268435455, 268435455, 13153337343, 30333206527, 68719476735, 268435455, 268435455, 268435455, 824902156287, 1924413784063, 4260875993087, 8658922504191, 268435455, 268435455, 268435455, 105553384701951, 246290873057279, 545358035812351, 1108307989233663, 2251662643167231, 4503599627370495, 9007199254740991] [] 0 folM (by kernel_rfl) (by kernel_rfl) (by kernel_rfl) ?_
                replace hst := hst.drew
                refine DRz (l1 := [0, 1, 2, 3, 4, 5, 6, 7, 8, 9, 10, 11, 12, 13, 14, 15, 16, 17, 18, 19, 20, 21, 22, 23, 24, 25, 26, 27, 28, 29, 30, 31, 32, 33, 34, 35, 36, 37, 38, 39, 40, 41, 42, 43, 44, 45, 46, 47, 48, 49, 50, 51, 52, 53]) (l2 := []) (by kernel_rfl) (by kernel_rfl) ?_
                refine Ry rfl rfl wn (ym (v := h12.v) (et rfl e50_8)) ?_
                refine Ry rfl rfl wn (ym (v := .int .i64 x124) (et rfl e50_14)) ?_
                refine Ry rfl rfl wn (yIa SL_22 (et rfl rfl) (et rfl rfl) hst (rdO mhR) gx292) ?_
                refine Ry rfl rfl wn (yI O_3 (et rfl rfl) hst (rdO mhR) gx292) ?_
                refine Ry rfl rfl wn (ym (v := h12.v) (et rfl e50_8)) ?_
                refine Ry rfl rfl wn (ym (v := h8.v) (et rfl e50_5)) ?_
                refine Ry rfl rfl wn (ym (v := .int .i64 x124) (et rfl e50_14)) ?_
                refine Ry rfl rfl wn (yIa SL_22 (et rfl rfl) (et rfl rfl) hst (rdI mhF) gx293) ?_
                refine Ry rfl rfl wn (yI O_3 (et rfl rfl) hst (rdI mhF) gx293) ?_
                refine Ry rfl rfl wn (yIa SL_22 (et rfl rfl) (et rfl rfl) hst (rdO mhR) gx294) ?_
                refine Ry rfl rfl wn (yI O_3 (et rfl rfl) hst (rdO mhR) gx294) ?_
                refine Ry rfl rfl wn (yadd (et rfl rfl) rfl) ?_
                refine Ry rfl rfl wn (yneq (et rfl rfl) (et rfl rfl)) ?_
                refine Ry rfl rfl wn (ym (v := .bool (!(decide (x292 = (wa .i64 x294 1))))) (et rfl rfl)) ?_
                refine Ry rfl rfl (wg rfl rfl rfl (nF (decide_eq_true c298))) (ym (v := h30.v) (et rfl e50_12)) ?_
                refine Ry rfl rfl (wg rfl rfl rfl (nF (decide_eq_true c298))) (ym (v := .int .i64 x124) (et rfl e50_14)) ?_
                refine Ry rfl rfl (wg rfl rfl rfl (nF (decide_eq_true c298))) (yIa SL_22 (et rfl rfl) (et rfl rfl) hst (rdO (mtR (mtR mhR))) gx299) ?_
                refine Ry rfl rfl (wg rfl rfl rfl (nF (decide_eq_true c298))) (yI O_3 (et rfl rfl) hst (rdO (mtR (mtR mhR))) gx299) ?_
                refine Ry rfl rfl (wg rfl rfl rfl (nF (decide_eq_true c298))) (ym (v := h30.v) (et rfl e50_12)) ?_
                refine Ry rfl rfl (wg rfl rfl rfl (nF (decide_eq_true c298))) (ym (v := h8.v) (et rfl e50_5)) ?_
                refine Ry rfl rfl (wg rfl rfl rfl (nF (decide_eq_true c298))) (ym (v := .int .i64 x124) (et rfl e50_14)) ?_
                refine Ry rfl rfl (wg rfl rfl rfl (nF (decide_eq_true c298))) (yIa SL_22 (et rfl rfl) (et rfl rfl) hst (rdI mhF) gx300) ?_
                refine Ry rfl rfl (wg rfl rfl rfl (nF (decide_eq_true c298))) (yI O_3 (et rfl rfl) hst (rdI mhF) gx300) ?_
                refine Ry rfl rfl (wg rfl rfl rfl (nF (decide_eq_true c298))) (yIa SL_22 (et rfl rfl) (et rfl rfl) hst (rdO (mtR (mtR mhR))) gx301) ?_
                refine Ry rfl rfl (wg rfl rfl rfl (nF (decide_eq_true c298))) (yI O_3 (et rfl rfl) hst (rdO (mtR (mtR mhR))) gx301) ?_
                refine Ry rfl rfl (wg rfl rfl rfl (nF (decide_eq_true c298))) (ygtr (et rfl rfl) (et rfl rfl)) ?_
                refine Ry rfl rfl wn (ypf (v := .bool r295) (et rfl rfl) (nF (decide_eq_true c298)) (eqv hr68 (et rfl rfl))) ?_
                refine Ry rfl rfl wn (ym (v := .bool r295) (et rfl rfl)) ?_
                refine Ry rfl rfl (wg rfl rfl rfl (bfalse c302)) (ym (v := h30.v) (et rfl e50_12)) ?_
                refine Ry rfl rfl (wg rfl rfl rfl (bfalse c302)) (ym (v := .int .i64 x124) (et rfl e50_14)) ?_
                refine Ry rfl rfl (wg rfl rfl rfl (bfalse c302)) (yIa SL_22 (et rfl rfl) (et rfl rfl) hst (rdO (mtR (mtR mhR))) gx303) ?_
                refine Ry rfl rfl (wg rfl rfl rfl (bfalse c302)) (yI O_3 (et rfl rfl) hst (rdO (mtR (mtR mhR))) gx303) ?_
                refine Ry rfl rfl (wg rfl rfl rfl (bfalse c302)) (ym (v := h14.v) (et rfl e50_10)) ?_
                refine Ry rfl rfl (wg rfl rfl rfl (bfalse c302)) (ym (v := .int .i64 x124) (et rfl e50_14)) ?_
                refine Ry rfl rfl (wg rfl rfl rfl (bfalse c302)) (yIa SL_22 (et rfl rfl) (et rfl rfl) hst (rdO (mtR mhR)) gx304) ?_
                refine Ry rfl rfl (wg rfl rfl rfl (bfalse c302)) (yI O_3 (et rfl rfl) hst (rdO (mtR mhR)) gx304) ?_
                refine Ry rfl rfl (wg rfl rfl rfl (bfalse c302)) (ysub (et rfl rfl) (et rfl rfl)) ?_
                refine Ry rfl rfl (wg rfl rfl rfl (bfalse c302)) (ym (v := h30.v) (et rfl e50_12)) ?_
                refine Ry rfl rfl (wg rfl rfl rfl (bfalse c302)) (ym (v := h8.v) (et rfl e50_5)) ?_
                refine Ry rfl rfl (wg rfl rfl rfl (bfalse c302)) (ym (v := .int .i64 x124) (et rfl e50_14)) ?_
                refine Ry rfl rfl (wg rfl rfl rfl (bfalse c302)) (yIa SL_22 (et rfl rfl) (et rfl rfl) hst (rdI mhF) gx305) ?_
                refine Ry rfl rfl (wg rfl rfl rfl (bfalse c302)) (yI O_3 (et rfl rfl) hst (rdI mhF) gx305) ?_
                refine Ry rfl rfl (wg rfl rfl rfl (bfalse c302)) (yIa SL_22 (et rfl rfl) (et rfl rfl) hst (rdO (mtR (mtR mhR))) gx306) ?_
                refine Ry rfl rfl (wg rfl rfl rfl (bfalse c302)) (yI O_3 (et rfl rfl) hst (rdO (mtR (mtR mhR))) gx306) ?_
                refine Ry rfl rfl (wg rfl rfl rfl (bfalse c302)) (ym (v := h14.v) (et rfl e50_10)) ?_
                refine Ry rfl rfl (wg rfl rfl rfl (bfalse c302)) (ym (v := h8.v) (et rfl e50_5)) ?_
                refine Ry rfl rfl (wg rfl rfl rfl (bfalse c302)) (ym (v := .int .i64 x124) (et rfl e50_14)) ?_
                refine Ry rfl rfl (wg rfl rfl rfl (bfalse c302)) (yIa SL_22 (et rfl rfl) (et rfl rfl) hst (rdI mhF) gx307) ?_
                refine Ry rfl rfl (wg rfl rfl rfl (bfalse c302)) (yI O_3 (et rfl rfl) hst (rdI mhF) gx307) ?_
                refine Ry rfl rfl (wg rfl rfl rfl (bfalse c302)) (yIa SL_22 (et rfl rfl) (et rfl rfl) hst (rdO (mtR mhR)) gx308) ?_
                refine Ry rfl rfl (wg rfl rfl rfl (bfalse c302)) (yI O_3 (et rfl rfl) hst (rdO (mtR mhR)) gx308) ?_
                refine Ry rfl rfl (wg rfl rfl rfl (bfalse c302)) (ysub (et rfl rfl) (et rfl rfl)) ?_
                refine Ry rfl rfl (wg rfl rfl rfl (bfalse c302)) (ylss (et rfl rfl) (et rfl rfl)) ?_
                refine Ry rfl rfl wn (ypf (v := .bool r296) (et rfl rfl) (bfalse c302) (eqv hr70 (et rfl rfl))) ?_
                refine Rn QSn ?_
                exact j67 _ _ ⟨e50_0, e50_5, e50_8, e50_10, e50_12, e50_13, e50_14, rfl, hst⟩
            · have hr71 := someI gr295
              rcases iteS gr296 with ⟨c309, gr296⟩ | ⟨c309, gr296⟩
              · have hr72 := someI gr296
                refine wp_drawR [0, 0, 3, 7, 0, 0, 0, 96, 224, 496, 1008, 2032, 4095, 8191, 16383, 16383, 65535, 131071, 16383, 16383, 16383, 1589247, 3686399, 8142847, 16531455, 33554431, 67108863, 134217727, 268435455, 268435455, 1073741823, 2147483647, 268435455, 268435455, 13153337343, 30333206527, 68719476735, 268435455, 268435455, 268435455, 824902156287, 1924413784063, 4260875993087, 8658922504191, 268435455, 268435455, 268435455, 105553384701951, 246290873057279, 545358035812351, 1108307989233663, 2251662643167231, 4503599627370495, 9007199254740991] [] 0 folM (by kernel_rfl) (by kernel_rfl) (by kernel_rfl) ?_
                replace hst := hst.drew
                refine DRz (l1 := [0, 1, 2, 3, 4, 5, 6, 7, 8, 9, 10, 11, 12, 13, 14, 15, 16, 17, 18, 19, 20, 21, 22, 23, 24, 25, 26, 27, 28, 29, 30, 31, 32, 33, 34, 35, 36, 37, 38, 39, 40, 41, 42, 43, 44, 45, 46, 47, 48, 49, 50, 51, 52, 53]) (l2 := []) (by kernel_rfl) (by kernel_rfl) ?_
                refine Ry rfl rfl wn (ym (v := h12.v) (et rfl e50_8)) ?_
                refine Ry rfl rfl wn (ym (v := .int .i64 x124) (et rfl e50_14)) ?_
                refine Ry rfl rfl wn (yIa SL_22 (et rfl rfl) (et rfl rfl) hst (rdO mhR) gx292) ?_
                refine Ry rfl rfl wn (yI O_3 (et rfl rfl) hst (rdO mhR) gx292) ?_
                refine Ry rfl rfl wn (ym (v := h12.v) (et rfl e50_8)) ?_
                refine Ry rfl rfl wn (ym (v := h8.v) (et rfl e50_5)) ?_
                refine Ry rfl rfl wn (ym (v := .int .i64 x124) (et rfl e50_14)) ?_
                refine Ry rfl rfl wn (yIa SL_22 (et rfl rfl) (et rfl rfl) hst (rdI mhF) gx293) ?_
                refine Ry rfl rfl wn (yI O_3 (et rfl rfl) hst (rdI mhF) gx293) ?_
                refine Ry rfl rfl wn (yIa SL_22 (et rfl rfl) (et rfl rfl) hst (rdO mhR) gx294) ?_
                refine Ry rfl rfl wn (yI O_3 (et rfl rfl) hst (rdO mhR) gx294) ?_
                refine Ry rfl rfl wn (yadd (et rfl rfl) rfl) ?_
                refine Ry rfl rfl wn (yneq (et rfl rfl) (et rfl rfl)) ?_
                refine Ry rfl rfl wn (ym (v := .bool (!(decide (x292 = (wa .i64 x294 1))))) (et rfl rfl)) ?_
                refine Rx rfl rfl (wx rfl rfl rfl (nT (decide_eq_false c298))) ?_
                refine Rx rfl rfl (wx rfl rfl rfl (nT (decide_eq_false c298))) ?_
                refine Rx rfl rfl (wx rfl rfl rfl (nT (decide_eq_false c298))) ?_
                refine Rx rfl rfl (wx rfl rfl rfl (nT (decide_eq_false c298))) ?_
                refine Rx rfl rfl (wx rfl rfl rfl (nT (decide_eq_false c298))) ?_
                refine Rx rfl rfl (wx rfl rfl rfl (nT (decide_eq_false c298))) ?_
                refine Rx rfl rfl (wx rfl rfl rfl (nT (decide_eq_false c298))) ?_
                refine Rx rfl rfl (wx rfl rfl rfl (nT (decide_eq_false c298))) ?_
                refine Rx rfl rfl (wx rfl rfl rfl (nT (decide_eq_false c298))) ?_
                refine Rx rfl rfl (wx rfl rfl rfl (nT (decide_eq_false c298))) ?_
                refine Rx rfl rfl (wx rfl rfl rfl (nT (decide_eq_false c298))) ?_
                refine Rx rfl rfl (wx rfl rfl rfl (nT (decide_eq_false c298))) ?_
                refine Ry rfl rfl wn (ypt (v := .bool r295) (et rfl rfl) (nT (decide_eq_false c298)) (eqv hr71 rfl)) ?_
                refine Ry rfl rfl wn (ym (v := .bool r295) (et rfl rfl)) ?_
                refine Rx rfl rfl (wx rfl rfl rfl c309) ?_
                refine Rx rfl rfl (wx rfl rfl rfl c309) ?_
                refine Rx rfl rfl (wx rfl rfl rfl c309) ?_
                refine Rx rfl rfl (wx rfl rfl rfl c309) ?_
                refine Rx rfl rfl (wx rfl rfl rfl c309) ?_
                refine Rx rfl rfl (wx rfl rfl rfl c309) ?_
                refine Rx rfl rfl (wx rfl rfl rfl c309) ?_
                refine Rx rfl rfl (wx rfl rfl rfl c309) ?_
                refine Rx rfl rfl (wx rfl rfl rfl c309) ?_
                refine Rx rfl rfl (wx rfl rfl rfl c309) ?_
                refine Rx rfl rfl (wx rfl rfl rfl c309) ?_
                refine Rx rfl rfl (wx rfl rfl rfl c309) ?_
                refine Rx rfl rfl (wx rfl rfl rfl c309) ?_
                refine Rx rfl rfl (wx rfl rfl rfl c309) ?_
                refine Rx rfl rfl (wx rfl rfl rfl c309) ?_
                refine Rx rfl rfl (wx rfl rfl rfl c309) ?_
                refine Rx rfl rfl (wx rfl rfl rfl c309) ?_
                refine Rx rfl rfl (wx rfl rfl rfl c309) ?_
                refine Rx rfl rfl (wx rfl rfl rfl c309) ?_
                refine Rx rfl rfl (wx rfl rfl rfl c309) ?_
                refine Rx rfl rfl (wx rfl rfl rfl c309) ?_
                refine Rx rfl rfl (wx rfl rfl rfl c309) ?_
                refine Rx rfl rfl (wx rfl rfl rfl c309) ?_
                refine Rx rfl rfl (wx rfl rfl rfl c309) ?_
                refine Rx rfl rfl (wx rfl rfl rfl c309) ?_
                refine Ry rfl rfl wn (ypt (v := .bool r296) (et rfl rfl) c309 (eqv hr72 rfl)) ?_
                refine Rn QSn ?_
                exact j67 _ _ ⟨e50_0, e50_5, e50_8, e50_10, e50_12, e50_13, e50_14, rfl, hst⟩
              · obtain ⟨x310, gx310, gr296⟩ := bs gr296
                obtain ⟨x311, gx311, gr296⟩ := bs gr296
                obtain ⟨x312, gx312, gr296⟩ := bs gr296
                obtain ⟨x313, gx313, gr296⟩ := bs gr296
                obtain ⟨x314, gx314, gr296⟩ := bs gr296
                obtain ⟨x315, gx315, gr296⟩ := bs gr296
                have hr73 := someI gr296
                refine wp_drawR [0, 0, 3, 7, 0, 0, 0, 96, 224, 496, 1008, 2032, 4095, 8191, 16383, 16383, 65535, 131071, 16383, 16383, 16383, 1589247, 3686399, 8142847, 16531455, 33554431, 67108863, 134217727, 268435455, 268435455, 1073741823, 2147483647, 268435455, 268435455, 13153337343, 30333206527, 68719476735, 268435455, 268435455, 268435455, 824902156287, 1924413784063, 4260875993087, 8658922504191, 268435455, 268435455, 268435455, 105553384701951, 246290873057279, 545358035812351, 1108307989233663, 2251662643167231, 4503599627370495, 9007199254740991] [] 0 folM (by kernel_rfl) (by kernel_rfl) (by kernel_rfl) ?_
                replace hst := hst.drew
                refine DRz (l1 := [0, 1, 2, 3, 4, 5, 6, 7, 8, 9, 10, 11, 12, 13, 14, 15, 16, 17, 18, 19, 20, 21, 22, 23, 24, 25, 26, 27, 28, 29, 30, 31, 32, 33, 34, 35, 36, 37, 38, 39, 40, 41, 42, 43, 44, 45, 46, 47, 48, 49, 50, 51, 52, 53]) (l2 := []) (by kernel_rfl) (by kernel_rfl) ?_
                refine Ry rfl rfl wn (ym (v := h12.v) (et rfl e50_8)) ?_
                refine Ry rfl rfl wn (ym (v := .int .i64 x124) (et rfl e50_14)) ?_
                refine Ry rfl rfl wn (yIa SL_22 (et rfl rfl) (et rfl rfl) hst (rdO mhR) gx292) ?_
                refine Ry rfl rfl wn (yI O_3 (et rfl rfl) hst (rdO mhR) gx292) ?_
                refine Ry rfl rfl wn (ym (v := h12.v) (et rfl e50_8)) ?_
                refine Ry rfl rfl wn (ym (v := h8.v) (et rfl e50_5)) ?_
                refine Ry rfl rfl wn (ym (v := .int .i64 x124) (et rfl e50_14)) ?_
                refine Ry rfl rfl wn (yIa SL_22 (et rfl rfl) (et rfl rfl) hst (rdI mhF) gx293) ?_
                refine Ry rfl rfl wn (yI O_3 (et rfl rfl) hst (rdI mhF) gx293) ?_
                refine Ry rfl rfl wn (yIa SL_22 (et rfl rfl) (et rfl rfl) hst (rdO mhR) gx294) ?_
                refine Ry rfl rfl wn (yI O_3 (et rfl rfl) hst (rdO mhR) gx294) ?_
                refine Ry rfl rfl wn (yadd (et rfl rfl) rfl) ?_
                refine Ry rfl rfl wn (yneq (et rfl rfl) (et rfl rfl)) ?_
                refine Ry rfl rfl wn (ym (v := .bool (!(decide (x292 = (wa .i64 x294 1))))) (et rfl rfl)) ?_
                refine Rx rfl rfl (wx rfl rfl rfl (nT (decide_eq_false c298))) ?_
                refine Rx rfl rfl (wx rfl rfl rfl (nT (decide_eq_false c298))) ?_
                refine Rx rfl rfl (wx rfl rfl rfl (nT (decide_eq_false c298))) ?_
                refine Rx rfl rfl (wx rfl rfl rfl (nT (decide_eq_false c298))) ?_
                refine Rx rfl rfl (wx rfl rfl rfl (nT (decide_eq_false c298))) ?_
                refine Rx rfl rfl (wx rfl rfl rfl (nT (decide_eq_false c298))) ?_
                refine Rx rfl rfl (wx rfl rfl rfl (nT (decide_eq_false c298))) ?_
                refine Rx rfl rfl (wx rfl rfl rfl (nT (decide_eq_false c298))) ?_
                refine Rx rfl rfl (wx rfl rfl rfl (nT (decide_eq_false c298))) ?_
                refine Rx rfl rfl (wx rfl rfl rfl (nT (decide_eq_false c298))) ?_
                refine Rx rfl rfl (wx rfl rfl rfl (nT (decide_eq_false c298))) ?_
                refine Rx rfl rfl (wx rfl rfl rfl (nT (decide_eq_false c298))) ?_
                refine Ry rfl rfl wn (ypt (v := .bool r295) (et rfl rfl) (nT (decide_eq_false c298)) (eqv hr71 rfl)) ?_
                refine Ry rfl rfl wn (ym (v := .bool r295) (et rfl rfl)) ?_
                refine Ry rfl rfl (wg rfl rfl rfl (bfalse c309)) (ym (v := h30.v) (et rfl e50_12)) ?_
                refine Ry rfl rfl (wg rfl rfl rfl (bfalse c309)) (ym (v := .int .i64 x124) (et rfl e50_14)) ?_
                refine Ry rfl rfl (wg rfl rfl rfl (bfalse c309)) (yIa SL_22 (et rfl rfl) (et rfl rfl) hst (rdO (mtR (mtR mhR))) gx310) ?_
                refine Ry rfl rfl (wg rfl rfl rfl (bfalse c309)) (yI O_3 (et rfl rfl) hst (rdO (mtR (mtR mhR))) gx310) ?_
                refine Ry rfl rfl (wg rfl rfl rfl (bfalse c309)) (ym (v := h14.v) (et rfl e50_10)) ?_
                refine Ry rfl rfl (wg rfl rfl rfl (bfalse c309)) (ym (v := .int .i64 x124) (et rfl e50_14)) ?_
                refine Ry rfl rfl (wg rfl rfl rfl (bfalse c309)) (yIa SL_22 (et rfl rfl) (et rfl rfl) hst (rdO (mtR mhR)) gx311) ?_
                refine Ry rfl rfl (wg rfl rfl rfl (bfalse c309)) (yI O_3 (et rfl rfl) hst (rdO (mtR mhR)) gx311) ?_
                refine Ry rfl rfl (wg rfl rfl rfl (bfalse c309)) (ysub (et rfl rfl) (et rfl rfl)) ?_
                refine Ry rfl rfl (wg rfl rfl rfl (bfalse c309)) (ym (v := h30.v) (et rfl e50_12)) ?_
                refine Ry rfl rfl (wg rfl rfl rfl (bfalse c309)) (ym (v := h8.v) (et rfl e50_5)) ?_
                refine Ry rfl rfl (wg rfl rfl rfl (bfalse c309)) (ym (v := .int .i64 x124) (et rfl e50_14)) ?_
                refine Ry rfl rfl (wg rfl rfl rfl (bfalse c309)) (yIa SL_22 (et rfl rfl) (et rfl rfl) hst (rdI mhF) gx312) ?_
                refine Ry rfl rfl (wg rfl rfl rfl (bfalse c309)) (yI O_3 (et rfl rfl) hst (rdI mhF) gx312) ?_
                refine Ry rfl rfl (wg rfl rfl rfl (bfalse c309)) (yIa SL_22 (et rfl rfl) (et rfl rfl) hst (rdO (mtR (mtR mhR))) gx313) ?_
                refine Ry rfl rfl (wg rfl rfl rfl (bfalse c309)) (yI O_3 (et rfl rfl) hst (rdO (mtR (mtR mhR))) gx313) ?_
                refine Ry rfl rfl (wg rfl rfl rfl (bfalse c309)) (ym (v := h14.v) (et rfl e50_10)) ?_
                refine Ry rfl rfl (wg rfl rfl rfl (bfalse c309)) (ym (v := h8.v) (et rfl e50_5)) ?_
                refine Ry rfl rfl (wg rfl rfl rfl (bfalse c309)) (ym (v := .int .i64 x124) (et rfl e50_14)) ?_
                refine Ry rfl rfl (wg rfl rfl rfl (bfalse c309)) (yIa SL_22 (et rfl rfl) (et rfl rfl) hst (rdI mhF) gx314) ?_
                refine Ry rfl rfl (wg rfl rfl rfl (bfalse c309)) (yI O_3 (et rfl rfl) hst (rdI mhF) gx314) ?_
                refine Ry rfl rfl (wg rfl rfl rfl (bfalse c309)) (yIa SL_22 (et rfl rfl) (et rfl rfl) hst (rdO (mtR mhR)) gx315) ?_
                refine Ry rfl rfl (wg rfl rfl rfl (bfalse c309)) (yI O_3 (et rfl rfl) hst (rdO (mtR mhR)) gx315) ?_
                refine Ry rfl rfl (wg rfl rfl rfl (bfalse c309)) (ysub (et rfl rfl) (et rfl rfl)) ?_
                refine Ry rfl rfl (wg rfl rfl rfl (bfalse c309)) (ylss (et rfl rfl) (et rfl rfl)) ?_
                refine Ry rfl rfl wn (ypf (v := .bool r296) (et rfl rfl) (bfalse c309) (eqv hr73 (et rfl rfl))) ?_
                refine Rn QSn ?_
                exact j67 _ _ ⟨e50_0, e50_5, e50_8, e50_10, e50_12, e50_13, e50_14, rfl, hst⟩
          clear hst
          rintro f w ⟨e297_0, e297_5, e297_8, e297_10, e297_12, e297_13, e297_14, e297_143, hst⟩
          refine k107 _ _ ?_
          rcases iteS hM50 with ⟨c316, hM50⟩ | ⟨c316, hM50⟩
          · refine condT (et rfl e297_143) c316 ?_
            refine seqQ fun Q108 k108 z108 => ?_
            refine wp_region_lit ?_
            refine Y wn rfl (ya (v := .bool false) rfl) ?_
            refine wpList_nil ?_
            refine k108 _ _ ?_
            refine wp_ret ?_
            refine q100 _ _ _ ?_
            refine z81 _ _ _ rfl ?_
            obtain rfl := someI hM50
            refine zz50 _ _ _ _ rfl rfl ?_
            exact je50_1 _ _ rfl ((hst.pk 3 [] rfl).facts (allT allI)) (ho50 _ rfl)
          · refine condF (et rfl e297_143) (bfalse c316) ?_
            refine wp_skip ?_
            refine q100 _ _ _ ?_
            exact j66 _ _ _ e297_0 e297_5 e297_8 e297_10 e297_12 e297_13 e297_14 hst hM50
      · refine condF (et rfl rfl) (decide_eq_false c225) ?_
        refine wp_exit ?_
        refine z79 _ _ _ rfl ?_
        obtain rfl := someI hM50
        refine zz50 _ _ _ _ rfl rfl ?_
        exact je50_0 _ _ _ e50_0 e50_13 ((hst.pk 3 [] rfl).facts (allT allI)) (ho50 _ rfl)
end Go.Proofs.Ytoelidgkfpmgnaa
