/- Walks: each function computes its model, printed. -/
import Derived.Test.YtoelidgkfpmgnaaW1
namespace Go.Proofs.Ytoelidgkfpmgnaa
open Go Sx M
set_option maxRecDepth 100000
set_option maxHeartbeats 400000
set_option linter.unusedVariables false
attribute [local irreducible] wpList Code.wp Calls DR QR QS LA LS St
theorem sparsekit_Perm_ok {w0 : World} {ros : List Fact} {rs : List Res} {w : World} {x1 : List Int} {x3 : Int} {h2 : Hdr} {out : Bool} (hM : sparsekit_Perm x1 x3 = some out) (q1 : imm (rI .i64) h2.v x1 ∈ ros) (hst : St w0 ros (rs) w) :
    Calls Try.prog 26 #[h2.v, .int .i64 x3] w (fun e w => e = .returned (.bool out) ∧ St w0 (ros) (rs) w) := by
  refine enterQ Try.func26 rfl Try.ntmps26 rfl fun Q hQ => ?_
  refine seqQ fun Q1 k1 z1 => ?_
  refine wp_region_lit ?_
  refine Y wn rfl (ya (v := .bool false) rfl) ?_
  refine wpList_nil ?_
  refine k1 _ _ ?_
  refine seqQ fun Q2 k2 z2 => ?_
  refine seqQ fun Q3 k3 z3 => ?_
  refine wp_region_lit ?_
  refine Y wn rfl (ym (v := h2.v) (et rfl rfl)) ?_
  refine Y wn rfl (yLen SL_22 (et rfl rfl) hst (rdI q1)) ?_
  refine Y wn rfl (ym (v := .int .i64 x3) (et rfl rfl)) ?_
  refine Y wn rfl (yneq (et rfl rfl) (et rfl rfl)) ?_
  refine wpList_nil ?_
  refine k3 _ _ ?_
  rcases iteS hM with ⟨c4, hM⟩ | ⟨c4, hM⟩
  · refine condF (et rfl rfl) (nF (decide_eq_true c4)) ?_
    refine wp_skip ?_
    refine k2 _ _ ?_
    refine seqQ fun Q4 k4 z4 => ?_
    refine wp_region_lit ?_
    refine Y wn rfl (ym (v := .int .i64 x3) (et rfl rfl)) ?_
    obtain ⟨x7, gx7, hM⟩ := bs hM
    refine YH wn rfl (rMk hst SL_54 (et rfl rfl) gx7) ?_
    clear hst
    intro h5 w hst
    refine Y wn rfl (ya (v := h5.v) (et rfl rfl)) ?_
    refine wpList_nil ?_
    refine k4 _ _ ?_
    refine seqQ fun Q5 k5 z5 => ?_
    refine seqQ fun Q6 k6 z6 => ?_
    refine wp_region_lit ?_
    refine Y wn rfl (ya (v := .int .i64 0) rfl) ?_
    refine wpList_nil ?_
    refine k6 _ _ ?_
    refine blockQ fun Q7 qb7 => ?_
    obtain ⟨o5, go5, hM⟩ := bs hM
    have je5_0 : ∀ (f : Nat → Value) (w : World), St w0 (ros) (rs) w → .inl () = o5 → Q7 (.exit 0) (fr 46 f) w := by
      intro f w hst ho
      subst ho
      refine qb7 _ _ _ ?_
      refine k5 _ _ ?_
      refine seqQ fun Q22 k22 z22 => ?_
      refine wp_region_lit ?_
      refine Y wn rfl (ya (v := .bool true) rfl) ?_
      refine wpList_nil ?_
      refine k22 _ _ ?_
      refine wp_ret ?_
      obtain rfl := someI hM
      exact hQ _ _ _ (fin1r Try.results26 ⟨rfl, rfl⟩ ⟨rfl, hst⟩)
    have je5_1 : ∀ (f : Nat → Value) (w : World), f 4 = .bool false → St w0 (ros) (rs) w → .inr () = o5 → Q7 .ret (fr 46 f) w := by
      intro f w eje5_1_4 hst ho
      subst ho
      refine qb7 _ _ _ ?_
      refine z5 _ _ _ rfl ?_
      obtain rfl := someI hM
      exact hQ _ _ _ (fin1r Try.results26 ⟨rfl, eje5_1_4⟩ ⟨rfl, hst⟩)
    refine loopQ (fun s a w => ∃ (x25 : List Bool) (x26 : Int) (f : Nat → Value), (x25, x26) = s ∧ a = fr 46 f ∧ f 0 = h2.v ∧ f 1 = .int .i64 x3 ∧ f 5 = h5.v ∧ f 6 = .int .i64 x26 ∧ St w0 (ros) (row 4 rB h5.v x25 :: rs) w) go5 ⟨_, _, _, rfl, rfl, rfl, rfl, rfl, rfl, hst⟩ ?_
    clear hst
    rintro _ _ w r5_ ⟨x25, x26, f, rfl, rfl, e5_0, e5_1, e5_5, e5_6, hst⟩ hM5 ho5 Q100005 n5 zz5
    refine seqQ fun Q23 k23 z23 => ?_
    refine seqQ fun Q24 k24 z24 => ?_
    refine wp_region_lit ?_
    refine Y wn rfl (ym (v := .int .i64 x26) (et rfl e5_6)) ?_
    refine Y wn rfl (ym (v := .int .i64 x3) (et rfl e5_1)) ?_
    refine Y wn rfl (ylss (et rfl rfl) (et rfl rfl)) ?_
    refine wpList_nil ?_
    refine k24 _ _ ?_
    rcases iteS hM5 with ⟨c46, hM5⟩ | ⟨c46, hM5⟩
    · refine condT (et rfl rfl) (decide_eq_true c46) ?_
      refine wp_skip ?_
      refine k23 _ _ ?_
      refine seqQ fun Q25 k25 z25 => ?_
      refine blockQ fun Q26 qb26 => ?_
      refine seqQ fun Q27 k27 z27 => ?_
      refine seqQ fun Q28 k28 z28 => ?_
      refine wp_region_lit ?_
      refine Y wn rfl (ym (v := h2.v) (et rfl e5_0)) ?_
      refine Y wn rfl (ym (v := .int .i64 x26) (et rfl e5_6)) ?_
      obtain ⟨x47, gx47, hM5⟩ := bs hM5
      refine Y wn rfl (yIa SL_22 (et rfl rfl) (et rfl rfl) hst (rdI q1) gx47) ?_
      refine Y wn rfl (yI O_3 (et rfl rfl) hst (rdI q1) gx47) ?_
      refine Y wn rfl (ylss (et rfl rfl) rfl) ?_
      refine Y wn rfl (ym (v := .bool (decide (x47 < 0))) (et rfl rfl)) ?_
      obtain ⟨r49, gr49, hM5⟩ := bs hM5
      refine joinW 7 (fun f w => f 0 = h2.v ∧ f 1 = .int .i64 x3 ∧ f 5 = h5.v ∧ f 6 = .int .i64 x26 ∧ f 30 = .bool r49 ∧ St w0 (ros) (row 4 rB h5.v x25 :: rs) w) (fun j6 => ?_) ?_
      · rcases iteS gr49 with ⟨c51, gr49⟩ | ⟨c51, gr49⟩
        · refine Gn (wx rfl rfl rfl (decide_eq_true c51)) rfl ?_
          refine Gn (wx rfl rfl rfl (decide_eq_true c51)) rfl ?_
          refine Gn (wx rfl rfl rfl (decide_eq_true c51)) rfl ?_
          refine Gn (wx rfl rfl rfl (decide_eq_true c51)) rfl ?_
          refine Gn (wx rfl rfl rfl (decide_eq_true c51)) rfl ?_
          refine Gn (wx rfl rfl rfl (decide_eq_true c51)) rfl ?_
          refine Y wn rfl (ypt (v := .bool true) (et rfl rfl) (decide_eq_true c51) rfl) ?_
          obtain rfl := someI gr49
          exact j6 _ _ ⟨e5_0, e5_1, e5_5, e5_6, rfl, hst⟩
        · refine Y (wg rfl rfl rfl (decide_eq_false c51)) rfl (ym (v := h2.v) (et rfl e5_0)) ?_
          refine Y (wg rfl rfl rfl (decide_eq_false c51)) rfl (ym (v := .int .i64 x26) (et rfl e5_6)) ?_
          obtain ⟨x52, gx52, gr49⟩ := bs gr49
          refine Y (wg rfl rfl rfl (decide_eq_false c51)) rfl (yIa SL_22 (et rfl rfl) (et rfl rfl) hst (rdI q1) gx52) ?_
          refine Y (wg rfl rfl rfl (decide_eq_false c51)) rfl (yI O_3 (et rfl rfl) hst (rdI q1) gx52) ?_
          refine Y (wg rfl rfl rfl (decide_eq_false c51)) rfl (ym (v := .int .i64 x3) (et rfl e5_1)) ?_
          refine Y (wg rfl rfl rfl (decide_eq_false c51)) rfl (ygeq (et rfl rfl) (et rfl rfl)) ?_
          refine Y wn rfl (ypf (v := .bool (decide (x3 ≤ x52))) (et rfl rfl) (decide_eq_false c51) (et rfl rfl)) ?_
          obtain rfl := someI gr49
          exact j6 _ _ ⟨e5_0, e5_1, e5_5, e5_6, rfl, hst⟩
      clear hst
      rintro f w ⟨e50_0, e50_1, e50_5, e50_6, e50_30, hst⟩
      refine Y wn rfl (ym (v := .bool r49) (et rfl e50_30)) ?_
      obtain ⟨r55, gr55, hM5⟩ := bs hM5
      refine joinW 8 (fun f w => f 0 = h2.v ∧ f 1 = .int .i64 x3 ∧ f 5 = h5.v ∧ f 6 = .int .i64 x26 ∧ f 39 = .bool r55 ∧ St w0 (ros) (row 4 rB h5.v x25 :: rs) w) (fun j7 => ?_) ?_
      · rcases iteS gr55 with ⟨c57, gr55⟩ | ⟨c57, gr55⟩
        · refine Gn (wx rfl rfl rfl c57) rfl ?_
          refine Gn (wx rfl rfl rfl c57) rfl ?_
          refine Gn (wx rfl rfl rfl c57) rfl ?_
          refine Gn (wx rfl rfl rfl c57) rfl ?_
          refine Gn (wx rfl rfl rfl c57) rfl ?_
          refine Gn (wx rfl rfl rfl c57) rfl ?_
          refine Gn (wx rfl rfl rfl c57) rfl ?_
          refine Y wn rfl (ypt (v := .bool true) (et rfl rfl) c57 rfl) ?_
          obtain rfl := someI gr55
          exact j7 _ _ ⟨e50_0, e50_1, e50_5, e50_6, rfl, hst⟩
        · refine Y (wg rfl rfl rfl (bfalse c57)) rfl (ym (v := h5.v) (et rfl e50_5)) ?_
          refine Y (wg rfl rfl rfl (bfalse c57)) rfl (ym (v := h2.v) (et rfl e50_0)) ?_
          refine Y (wg rfl rfl rfl (bfalse c57)) rfl (ym (v := .int .i64 x26) (et rfl e50_6)) ?_
          obtain ⟨x58, gx58, gr55⟩ := bs gr55
          refine Y (wg rfl rfl rfl (bfalse c57)) rfl (yIa SL_22 (et rfl rfl) (et rfl rfl) hst (rdI q1) gx58) ?_
          refine Y (wg rfl rfl rfl (bfalse c57)) rfl (yI O_3 (et rfl rfl) hst (rdI q1) gx58) ?_
          obtain ⟨x59, gx59, gr55⟩ := bs gr55
          refine Y (wg rfl rfl rfl (bfalse c57)) rfl (yIa SL_54 (et rfl rfl) (et rfl rfl) hst (rdO mhR) gx59) ?_
          refine Y (wg rfl rfl rfl (bfalse c57)) rfl (yB O_4 (et rfl rfl) hst (rdO mhR) gx59) ?_
          refine Y wn rfl (ypf (v := .bool x59) (et rfl rfl) (bfalse c57) (et rfl rfl)) ?_
          obtain rfl := someI gr55
          exact j7 _ _ ⟨e50_0, e50_1, e50_5, e50_6, rfl, hst⟩
      clear hst
      rintro f w ⟨e56_0, e56_1, e56_5, e56_6, e56_39, hst⟩
      refine wpList_nil ?_
      refine k28 _ _ ?_
      rcases iteS hM5 with ⟨c60, hM5⟩ | ⟨c60, hM5⟩
      · refine condT (et rfl e56_39) c60 ?_
        refine seqQ fun Q29 k29 z29 => ?_
        refine wp_region_lit ?_
        refine Y wn rfl (ya (v := .bool false) rfl) ?_
        refine wpList_nil ?_
        refine k29 _ _ ?_
        refine wp_ret ?_
        refine z27 _ _ _ rfl ?_
        refine qb26 _ _ _ ?_
        refine z25 _ _ _ rfl ?_
        obtain rfl := someI hM5
        refine zz5 _ _ _ _ rfl rfl ?_
        exact je5_1 _ _ rfl (hst.pk 1 [] rfl) (ho5 _ rfl)
      · refine condF (et rfl e56_39) (bfalse c60) ?_
        refine wp_skip ?_
        refine k27 _ _ ?_
        refine wp_region_lit ?_
        refine Y wn rfl (ym (v := h5.v) (et rfl e56_5)) ?_
        refine Y wn rfl (ym (v := h2.v) (et rfl e56_0)) ?_
        refine Y wn rfl (ym (v := .int .i64 x26) (et rfl e56_6)) ?_
        obtain ⟨x61, gx61, hM5⟩ := bs hM5
        refine Y wn rfl (yIa SL_22 (et rfl rfl) (et rfl rfl) hst (rdI q1) gx61) ?_
        refine Y wn rfl (yI O_3 (et rfl rfl) hst (rdI q1) gx61) ?_
        obtain ⟨x62, gx62, hM5⟩ := bs hM5
        refine Y wn rfl (yIs SL_54 (et rfl rfl) (et rfl rfl) hst (rdO mhR) gx62) ?_
        refine YT wn rfl (r_sti (cs := [.bool true]) hst O_4 rfl (et rfl rfl) rfl rfl mkB gx62) ?_
        clear hst
        intro w hst
        refine wpList_nil ?_
        refine qb26 _ _ _ ?_
        refine k25 _ _ ?_
        refine wp_region_lit ?_
        refine Y wn rfl (ym (v := .int .i64 x26) (et rfl e56_6)) ?_
        refine Y wn rfl (yadd (et rfl rfl) rfl) ?_
        refine Y wn rfl (ya (v := .int .i64 (wa .i64 x26 1)) (et rfl rfl)) ?_
        refine wpList_nil ?_
        obtain rfl := someI hM5
        exact n5 _ _ _ rfl ⟨_, _, _, rfl, rfl, e56_0, e56_1, e56_5, rfl, hst⟩
    · refine condF (et rfl rfl) (decide_eq_false c46) ?_
      refine wp_exit ?_
      refine z23 _ _ _ rfl ?_
      obtain rfl := someI hM5
      refine zz5 _ _ _ _ rfl rfl ?_
      exact je5_0 _ _ (hst.pk 1 [] rfl) (ho5 _ rfl)
  · refine condT (et rfl rfl) (nT (decide_eq_false c4)) ?_
    refine seqQ fun Q30 k30 z30 => ?_
    refine wp_region_lit ?_
    refine Y wn rfl (ya (v := .bool false) rfl) ?_
    refine wpList_nil ?_
    refine k30 _ _ ?_
    refine wp_ret ?_
    refine z2 _ _ _ rfl ?_
    obtain rfl := someI hM
    exact hQ _ _ _ (fin1r Try.results26 ⟨rfl, rfl⟩ ⟨rfl, hst⟩)

theorem sparsekit_Invert_ok {w0 : World} {ros : List Fact} {rs : List Res} {w : World} {x1 : List Int} {h2 : Hdr} {out : (List Int)} (hM : sparsekit_Invert x1 = some out) (q1 : imm (rI .i64) h2.v x1 ∈ ros) (hst : St w0 ros (rs) w) :
    Calls Try.prog 27 #[h2.v] w (fun e w => ∃ (h100001 : Hdr), e = .returned (h100001.v) ∧ St w0 (ros) (row 3 (rI .i64) h100001.v out :: rs) w) := by
  refine enterQ Try.func27 rfl Try.ntmps27 rfl fun Q hQ => ?_
  refine seqQ fun Q1 k1 z1 => ?_
  refine wp_region_lit ?_
  refine Y wn rfl (ya (v := hnil.v) rfl) ?_
  refine wpList_nil ?_
  refine k1 _ _ ?_
  refine seqQ fun Q2 k2 z2 => ?_
  refine wp_region_lit ?_
  refine Y wn rfl (ym (v := h2.v) (et rfl rfl)) ?_
  refine Y wn rfl (yLen SL_22 (et rfl rfl) hst (rdI q1)) ?_
  obtain ⟨x5, gx5, hM⟩ := bs hM
  refine YH wn rfl (rMk hst SL_22 (et rfl rfl) gx5) ?_
  clear hst
  intro h3 w hst
  refine Y wn rfl (ya (v := h3.v) (et rfl rfl)) ?_
  refine wpList_nil ?_
  refine k2 _ _ ?_
  refine seqQ fun Q3 k3 z3 => ?_
  refine seqQ fun Q4 k4 z4 => ?_
  refine wp_region_lit ?_
  refine Y wn rfl (ya (v := .int .i64 0) rfl) ?_
  refine wpList_nil ?_
  refine k4 _ _ ?_
  refine blockQ fun Q5 qb5 => ?_
  obtain ⟨o1, go1, hM⟩ := bs hM
  have je1_0 : ∀ (x16 : List Int) (f : Nat → Value) (w : World), f 3 = h3.v → St w0 (ros) (row 3 (rI .i64) h3.v x16 :: rs) w → x16 = o1 → Q5 (.exit 0) (fr 22 f) w := by
    intro x16 f w eje1_0_3 hst ho
    subst ho
    refine qb5 _ _ _ ?_
    refine k3 _ _ ?_
    refine seqQ fun Q14 k14 z14 => ?_
    refine wp_region_lit ?_
    refine Y wn rfl (ym (v := h3.v) (et rfl eje1_0_3)) ?_
    refine Y wn rfl (ya (v := h3.v) (et rfl rfl)) ?_
    refine wpList_nil ?_
    refine k14 _ _ ?_
    refine wp_ret ?_
    obtain rfl := someI hM
    exact hQ _ _ _ (fin1r Try.results27 ⟨rfl, rfl⟩ ⟨_, rfl, hst⟩)
  refine loopQ (fun s a w => ∃ (x9 : List Int) (x10 : Int) (f : Nat → Value), (x9, x10) = s ∧ a = fr 22 f ∧ f 0 = h2.v ∧ f 3 = h3.v ∧ f 4 = .int .i64 x10 ∧ St w0 (ros) (row 3 (rI .i64) h3.v x9 :: rs) w) go1 ⟨_, _, _, rfl, rfl, rfl, rfl, rfl, hst⟩ ?_
  clear hst
  rintro _ _ w r1_ ⟨x9, x10, f, rfl, rfl, e1_0, e1_3, e1_4, hst⟩ hM1 ho1 Q100001 n1 zz1
  refine seqQ fun Q15 k15 z15 => ?_
  refine seqQ fun Q16 k16 z16 => ?_
  refine wp_region_lit ?_
  refine Y wn rfl (ym (v := .int .i64 x10) (et rfl e1_4)) ?_
  refine Y wn rfl (ym (v := h2.v) (et rfl e1_0)) ?_
  refine Y wn rfl (yLen SL_22 (et rfl rfl) hst (rdI q1)) ?_
  refine Y wn rfl (ylss (et rfl rfl) (et rfl rfl)) ?_
  refine wpList_nil ?_
  refine k16 _ _ ?_
  rcases iteS hM1 with ⟨c17, hM1⟩ | ⟨c17, hM1⟩
  · refine condT (et rfl rfl) (decide_eq_true c17) ?_
    refine wp_skip ?_
    refine k15 _ _ ?_
    refine seqQ fun Q17 k17 z17 => ?_
    refine blockQ fun Q18 qb18 => ?_
    refine wp_region_lit ?_
    refine Y wn rfl (ym (v := h3.v) (et rfl e1_3)) ?_
    refine Y wn rfl (ym (v := h2.v) (et rfl e1_0)) ?_
    refine Y wn rfl (ym (v := .int .i64 x10) (et rfl e1_4)) ?_
    obtain ⟨x18, gx18, hM1⟩ := bs hM1
    refine Y wn rfl (yIa SL_22 (et rfl rfl) (et rfl rfl) hst (rdI q1) gx18) ?_
    refine Y wn rfl (yI O_3 (et rfl rfl) hst (rdI q1) gx18) ?_
    refine Y wn rfl (ym (v := .int .i64 x10) (et rfl e1_4)) ?_
    obtain ⟨x19, gx19, hM1⟩ := bs hM1
    refine Y wn rfl (yIs SL_22 (et rfl rfl) (et rfl rfl) hst (rdO mhR) gx19) ?_
    refine YT wn rfl (r_sti (cs := [.int .i64 x10]) hst O_3 rfl (et rfl rfl) (et rfl rfl) rfl mkI gx19) ?_
    clear hst
    intro w hst
    refine wpList_nil ?_
    refine qb18 _ _ _ ?_
    refine k17 _ _ ?_
    refine wp_region_lit ?_
    refine Y wn rfl (ym (v := .int .i64 x10) (et rfl e1_4)) ?_
    refine Y wn rfl (yadd (et rfl rfl) rfl) ?_
    refine Y wn rfl (ya (v := .int .i64 (wa .i64 x10 1)) (et rfl rfl)) ?_
    refine wpList_nil ?_
    obtain rfl := someI hM1
    exact n1 _ _ _ rfl ⟨_, _, _, rfl, rfl, e1_0, e1_3, rfl, hst⟩
  · refine condF (et rfl rfl) (decide_eq_false c17) ?_
    refine wp_exit ?_
    refine z15 _ _ _ rfl ?_
    obtain rfl := someI hM1
    refine zz1 _ _ _ _ rfl rfl ?_
    exact je1_0 _ _ _ e1_3 hst (ho1 _ rfl)

theorem sparselaw19_EtreeSubtrees_ok {w0 : World} {ros : List Fact} {rs : List Res} {w : World} {x1 : Int} {x2 : List Int} {h3 : Hdr} {out : Bool} (hM : sparselaw19_EtreeSubtrees x1 x2 = some out) (q1 : imm (rI .i64) h3.v x2 ∈ ros) (hst : St w0 ros (rs) w) :
    Calls Try.prog 6 #[.int .i64 x1, h3.v] w (fun e w => e = .returned (.bool out) ∧ St w0 (ros) (rs) w) := by
  refine enterQ Try.func6 rfl Try.ntmps6 rfl fun Q hQ => ?_
  refine seqQ fun Q1 k1 z1 => ?_
  refine wp_region_lit ?_
  refine Y wn rfl (ya (v := .bool false) rfl) ?_
  refine wpList_nil ?_
  refine k1 _ _ ?_
  refine seqQ fun Q2 k2 z2 => ?_
  refine wp_region_lit ?_
  refine Y wn rfl (ym (v := .int .i64 x1) (et rfl rfl)) ?_
  obtain ⟨r4, gr4, hM⟩ := bs hM
  refine Yc wn rfl (yCall FN_11 (a2 (et rfl rfl) rfl)) (sparsekit_Place_ok (hM := gr4) (hst := hst) ) ?_
  clear hst
  rintro _ w ⟨rfl, hst⟩
  refine ⟨_, rfl, ?_⟩
  refine Y wn rfl (ya (v := .int .i64 r4) (et rfl rfl)) ?_
  refine wpList_nil ?_
  refine k2 _ _ ?_
  refine seqQ fun Q3 k3 z3 => ?_
  refine seqQ fun Q4 k4 z4 => ?_
  refine wp_region_lit ?_
  refine Y wn rfl (ym (v := h3.v) (et rfl rfl)) ?_
  refine Y wn rfl (yLen SL_22 (et rfl rfl) hst (rdI q1)) ?_
  refine Y wn rfl (ygtr (et rfl rfl) rfl) ?_
  refine wpList_nil ?_
  refine k4 _ _ ?_
  rcases iteS hM with ⟨c5, hM⟩ | ⟨c5, hM⟩
  · refine condT (et rfl rfl) (decide_eq_true c5) ?_
    refine seqQ fun Q5 k5 z5 => ?_
    refine wp_region_lit ?_
    obtain ⟨r6, gr6, hM⟩ := bs hM
    refine Yc wn rfl (yCall FN_10 a0) (sparselaw19_awake_ok (hM := gr6) (hst := hst) ) ?_
    clear hst
    rintro _ w ⟨rfl, hst⟩
    refine ⟨_, rfl, ?_⟩
    refine Y wn rfl (ya (v := .bool r6) (et rfl rfl)) ?_
    refine wpList_nil ?_
    refine k5 _ _ ?_
    refine wp_ret ?_
    refine z3 _ _ _ rfl ?_
    obtain rfl := someI hM
    exact hQ _ _ _ (fin1r Try.results6 ⟨rfl, rfl⟩ ⟨rfl, hst⟩)
  · refine condF (et rfl rfl) (decide_eq_false c5) ?_
    refine wp_skip ?_
    refine k3 _ _ ?_
    refine seqQ fun Q6 k6 z6 => ?_
    refine wp_region_lit ?_
    refine Y wn rfl (ym (v := .int .i64 r4) (et rfl rfl)) ?_
    refine Y wn rfl (ym (v := h3.v) (et rfl rfl)) ?_
    obtain ⟨r7, gr7, hM⟩ := bs hM
    refine Yc wn rfl (yCall FN_25 (a2 (et rfl rfl) (et rfl rfl))) (sparsemake_Tree_ok (hM := gr7) (hst := hst) (q1 := q1)) ?_
    clear hst
    rintro _ w ⟨h8, rfl, hst⟩
    refine ⟨_, rfl, ?_⟩
    refine Y wn rfl (ya (v := h8.v) (et rfl rfl)) ?_
    refine wpList_nil ?_
    refine k6 _ _ ?_
    refine seqQ fun Q7 k7 z7 => ?_
    refine wp_region_lit ?_
    refine Y wn rfl (ym (v := h8.v) (et rfl rfl)) ?_
    obtain ⟨r9, gr9, hM⟩ := bs hM
    replace hst := hst.fz
    refine Yc wn rfl (yCall FN_17 (a1 (et rfl rfl))) (etree_Postorder_ok (hM := gr9) (hst := hst) (q1 := mhF)) ?_
    clear hst
    rintro _ w ⟨h10, rfl, hst⟩
    refine ⟨_, rfl, ?_⟩
    refine Y wn rfl (ym (v := .tuple #[h10.v, .int .i64 r9.2]) (et rfl rfl)) ?_
    refine Y wn rfl (yx (v := h10.v) (et rfl rfl) rfl) ?_
    refine Y wn rfl (yx (v := .int .i64 r9.2) (et rfl rfl) rfl) ?_
    refine Y wn rfl (ya (v := h10.v) (et rfl rfl)) ?_
    refine Y wn rfl (ya (v := .int .i64 r9.2) (et rfl rfl)) ?_
    refine wpList_nil ?_
    refine k7 _ _ ?_
    refine seqQ fun Q8 k8 z8 => ?_
    refine wp_region_lit ?_
    refine Y wn rfl (ym (v := h8.v) (et rfl rfl)) ?_
    obtain ⟨r11, gr11, hM⟩ := bs hM
    refine Yc wn rfl (yCall FN_19 (a1 (et rfl rfl))) (etree_Depths_ok (hM := gr11) (hst := hst) (q1 := mhF)) ?_
    clear hst
    rintro _ w ⟨h12, rfl, hst⟩
    refine ⟨_, rfl, ?_⟩
    refine Y wn rfl (ym (v := .tuple #[h12.v, .int .i64 r11.2]) (et rfl rfl)) ?_
    refine Y wn rfl (yx (v := h12.v) (et rfl rfl) rfl) ?_
    refine Y wn rfl (yx (v := .int .i64 r11.2) (et rfl rfl) rfl) ?_
    refine Y wn rfl (ya (v := h12.v) (et rfl rfl)) ?_
    refine Y wn rfl (ya (v := .int .i64 r11.2) (et rfl rfl)) ?_
    refine wpList_nil ?_
    refine k8 _ _ ?_
    refine seqQ fun Q9 k9 z9 => ?_
    refine wp_region_lit ?_
    refine Y wn rfl (ym (v := h8.v) (et rfl rfl)) ?_
    obtain ⟨r13, gr13, hM⟩ := bs hM
    refine Yc wn rfl (yCall FN_21 (a1 (et rfl rfl))) (etree_Sizes_ok (hM := gr13) (hst := hst) (q1 := mhF)) ?_
    clear hst
    rintro _ w ⟨h14, rfl, hst⟩
    refine ⟨_, rfl, ?_⟩
    refine Y wn rfl (ym (v := .tuple #[h14.v, .int .i64 r13.2]) (et rfl rfl)) ?_
    refine Y wn rfl (yx (v := h14.v) (et rfl rfl) rfl) ?_
    refine Y wn rfl (yx (v := .int .i64 r13.2) (et rfl rfl) rfl) ?_
    refine Y wn rfl (ya (v := h14.v) (et rfl rfl)) ?_
    refine Y wn rfl (ya (v := .int .i64 r13.2) (et rfl rfl)) ?_
    refine wpList_nil ?_
    refine k9 _ _ ?_
    refine seqQ fun Q10 k10 z10 => ?_
    refine seqQ fun Q11 k11 z11 => ?_
    refine wp_region_lit ?_
    refine Y wn rfl (ym (v := .int .i64 r9.2) (et rfl rfl)) ?_
    refine Y wn rfl (yneq (et rfl rfl) rfl) ?_
    refine Y wn rfl (ym (v := .bool (!(decide (r9.2 = 0)))) (et rfl rfl)) ?_
    refine joinW 3 (fun f w => f 0 = .int .i64 r4 ∧ f 5 = h8.v ∧ f 6 = h10.v ∧ f 8 = h12.v ∧ f 10 = h14.v ∧ f 11 = .int .i64 r13.2 ∧ f 44 = .bool ((!(decide (r9.2 = 0))) || (!(decide (r11.2 = 0)))) ∧ St w0 (imm (rI .i64) h8.v r7 :: ros) (row 3 (rI .i64) h10.v r9.1 :: row 3 (rI .i64) h12.v r11.1 :: row 3 (rI .i64) h14.v r13.1 :: rs) w) (fun j1 => ?_) ?_
    · rcases Bool.eq_false_or_eq_true (!(decide (r9.2 = 0))) with c16 | c16
      · refine Gn (wx rfl rfl rfl c16) rfl ?_
        refine Gn (wx rfl rfl rfl c16) rfl ?_
        refine Y wn rfl (ypt (v := .bool true) (et rfl rfl) c16 rfl) ?_
        exact j1 _ _ ⟨rfl, rfl, rfl, rfl, rfl, rfl, (congrArg Value.bool (orT c16)), (hst.pk 3 [2, 1, 0] rfl)⟩
      · refine Y (wg rfl rfl rfl c16) rfl (ym (v := .int .i64 r11.2) (et rfl rfl)) ?_
        refine Y (wg rfl rfl rfl c16) rfl (yneq (et rfl rfl) rfl) ?_
        refine Y wn rfl (ypf (v := .bool (!(decide (r11.2 = 0)))) (et rfl rfl) c16 (et rfl rfl)) ?_
        exact j1 _ _ ⟨rfl, rfl, rfl, rfl, rfl, rfl, (congrArg Value.bool (orF c16)), (hst.pk 3 [2, 1, 0] rfl)⟩
    clear hst
    rintro f w ⟨e15_0, e15_5, e15_6, e15_8, e15_10, e15_11, e15_44, hst⟩
    refine Y wn rfl (ym (v := .bool ((!(decide (r9.2 = 0))) || (!(decide (r11.2 = 0))))) (et rfl e15_44)) ?_
    refine joinW 3 (fun f w => f 0 = .int .i64 r4 ∧ f 5 = h8.v ∧ f 6 = h10.v ∧ f 8 = h12.v ∧ f 10 = h14.v ∧ f 48 = .bool (((!(decide (r9.2 = 0))) || (!(decide (r11.2 = 0)))) || (!(decide (r13.2 = 0)))) ∧ St w0 (imm (rI .i64) h8.v r7 :: ros) (row 3 (rI .i64) h10.v r9.1 :: row 3 (rI .i64) h12.v r11.1 :: row 3 (rI .i64) h14.v r13.1 :: rs) w) (fun j2 => ?_) ?_
    · rcases Bool.eq_false_or_eq_true (((!(decide (r9.2 = 0))) || (!(decide (r11.2 = 0))))) with c18 | c18
      · refine Gn (wx rfl rfl rfl c18) rfl ?_
        refine Gn (wx rfl rfl rfl c18) rfl ?_
        refine Y wn rfl (ypt (v := .bool true) (et rfl rfl) c18 rfl) ?_
        exact j2 _ _ ⟨e15_0, e15_5, e15_6, e15_8, e15_10, (congrArg Value.bool (orT c18)), hst⟩
      · refine Y (wg rfl rfl rfl c18) rfl (ym (v := .int .i64 r13.2) (et rfl e15_11)) ?_
        refine Y (wg rfl rfl rfl c18) rfl (yneq (et rfl rfl) rfl) ?_
        refine Y wn rfl (ypf (v := .bool (!(decide (r13.2 = 0)))) (et rfl rfl) c18 (et rfl rfl)) ?_
        exact j2 _ _ ⟨e15_0, e15_5, e15_6, e15_8, e15_10, (congrArg Value.bool (orF c18)), hst⟩
    clear hst
    rintro f w ⟨e17_0, e17_5, e17_6, e17_8, e17_10, e17_48, hst⟩
    refine Y wn rfl (ym (v := .bool (((!(decide (r9.2 = 0))) || (!(decide (r11.2 = 0)))) || (!(decide (r13.2 = 0))))) (et rfl e17_48)) ?_
    obtain ⟨r20, gr20, hM⟩ := bs hM
    refine joinW 5 (fun f w => f 0 = .int .i64 r4 ∧ f 5 = h8.v ∧ f 6 = h10.v ∧ f 8 = h12.v ∧ f 10 = h14.v ∧ f 54 = .bool r20 ∧ St w0 (imm (rI .i64) h8.v r7 :: imm (rI .i64) h10.v r9.1 :: ros) (row 3 (rI .i64) h12.v r11.1 :: row 3 (rI .i64) h14.v r13.1 :: rs) w) (fun j3 => ?_) ?_
    · rcases iteS gr20 with ⟨c22, gr20⟩ | ⟨c22, gr20⟩
      · refine Gn (wx rfl rfl rfl c22) rfl ?_
        refine Gn (wx rfl rfl rfl c22) rfl ?_
        refine Gn (wx rfl rfl rfl c22) rfl ?_
        refine Gn (wx rfl rfl rfl c22) rfl ?_
        refine Y wn rfl (ypt (v := .bool true) (et rfl rfl) c22 rfl) ?_
        obtain rfl := someI gr20
        replace hst := hst.fz
        exact j3 _ _ ⟨e17_0, e17_5, e17_6, e17_8, e17_10, rfl, (hst.facts (allC (mtF mhF) (allC mhF (allT (allT allI)))))⟩
      · refine Y (wg rfl rfl rfl (bfalse c22)) rfl (ym (v := h10.v) (et rfl e17_6)) ?_
        refine Y (wg rfl rfl rfl (bfalse c22)) rfl (ym (v := .int .i64 r4) (et rfl e17_0)) ?_
        obtain ⟨r23, gr23, gr20⟩ := bs gr20
        replace hst := hst.fz
        refine Yc (wg rfl rfl rfl (bfalse c22)) rfl (yCall FN_26 (a2 (et rfl rfl) (et rfl rfl))) (sparsekit_Perm_ok (hM := gr23) (hst := hst) (q1 := mhF)) ?_
        clear hst
        rintro _ w ⟨rfl, hst⟩
        refine ⟨_, rfl, ?_⟩
        refine Y (wg rfl rfl rfl (bfalse c22)) rfl (ynot (et rfl rfl)) ?_
        refine Y wn rfl (ypf (v := .bool (!(r23))) (et rfl rfl) (bfalse c22) (et rfl rfl)) ?_
        obtain rfl := someI gr20
        exact j3 _ _ ⟨e17_0, e17_5, e17_6, e17_8, e17_10, rfl, (hst.facts (allC (mtF mhF) (allC mhF (allT (allT allI)))))⟩
    clear hst
    rintro f w ⟨e21_0, e21_5, e21_6, e21_8, e21_10, e21_54, hst⟩
    refine Y wn rfl (ym (v := .bool r20) (et rfl e21_54)) ?_
    refine joinW 5 (fun f w => f 0 = .int .i64 r4 ∧ f 5 = h8.v ∧ f 6 = h10.v ∧ f 8 = h12.v ∧ f 10 = h14.v ∧ f 60 = .bool (r20 || (!(decide ((r11.1.length : Int) = r4)))) ∧ St w0 (imm (rI .i64) h8.v r7 :: imm (rI .i64) h10.v r9.1 :: ros) (row 3 (rI .i64) h12.v r11.1 :: row 3 (rI .i64) h14.v r13.1 :: rs) w) (fun j4 => ?_) ?_
    · rcases Bool.eq_false_or_eq_true (r20) with c25 | c25
      · refine Gn (wx rfl rfl rfl c25) rfl ?_
        refine Gn (wx rfl rfl rfl c25) rfl ?_
        refine Gn (wx rfl rfl rfl c25) rfl ?_
        refine Gn (wx rfl rfl rfl c25) rfl ?_
        refine Y wn rfl (ypt (v := .bool true) (et rfl rfl) c25 rfl) ?_
        exact j4 _ _ ⟨e21_0, e21_5, e21_6, e21_8, e21_10, (congrArg Value.bool (orT c25)), hst⟩
      · refine Y (wg rfl rfl rfl c25) rfl (ym (v := h12.v) (et rfl e21_8)) ?_
        refine Y (wg rfl rfl rfl c25) rfl (yLen SL_22 (et rfl rfl) hst (rdO mhR)) ?_
        refine Y (wg rfl rfl rfl c25) rfl (ym (v := .int .i64 r4) (et rfl e21_0)) ?_
        refine Y (wg rfl rfl rfl c25) rfl (yneq (et rfl rfl) (et rfl rfl)) ?_
        refine Y wn rfl (ypf (v := .bool (!(decide ((r11.1.length : Int) = r4)))) (et rfl rfl) c25 (et rfl rfl)) ?_
        exact j4 _ _ ⟨e21_0, e21_5, e21_6, e21_8, e21_10, (congrArg Value.bool (orF c25)), hst⟩
    clear hst
    rintro f w ⟨e24_0, e24_5, e24_6, e24_8, e24_10, e24_60, hst⟩
    refine Y wn rfl (ym (v := .bool (r20 || (!(decide ((r11.1.length : Int) = r4))))) (et rfl e24_60)) ?_
    refine joinW 5 (fun f w => f 0 = .int .i64 r4 ∧ f 5 = h8.v ∧ f 6 = h10.v ∧ f 8 = h12.v ∧ f 10 = h14.v ∧ f 66 = .bool ((r20 || (!(decide ((r11.1.length : Int) = r4)))) || (!(decide ((r13.1.length : Int) = r4)))) ∧ St w0 (imm (rI .i64) h8.v r7 :: imm (rI .i64) h10.v r9.1 :: ros) (row 3 (rI .i64) h12.v r11.1 :: row 3 (rI .i64) h14.v r13.1 :: rs) w) (fun j5 => ?_) ?_
    · rcases Bool.eq_false_or_eq_true ((r20 || (!(decide ((r11.1.length : Int) = r4))))) with c27 | c27
      · refine Gn (wx rfl rfl rfl c27) rfl ?_
        refine Gn (wx rfl rfl rfl c27) rfl ?_
        refine Gn (wx rfl rfl rfl c27) rfl ?_
        refine Gn (wx rfl rfl rfl c27) rfl ?_
        refine Y wn rfl (ypt (v := .bool true) (et rfl rfl) c27 rfl) ?_
        exact j5 _ _ ⟨e24_0, e24_5, e24_6, e24_8, e24_10, (congrArg Value.bool (orT c27)), hst⟩
      · refine Y (wg rfl rfl rfl c27) rfl (ym (v := h14.v) (et rfl e24_10)) ?_
        refine Y (wg rfl rfl rfl c27) rfl (yLen SL_22 (et rfl rfl) hst (rdO (mtR mhR))) ?_
        refine Y (wg rfl rfl rfl c27) rfl (ym (v := .int .i64 r4) (et rfl e24_0)) ?_
        refine Y (wg rfl rfl rfl c27) rfl (yneq (et rfl rfl) (et rfl rfl)) ?_
        refine Y wn rfl (ypf (v := .bool (!(decide ((r13.1.length : Int) = r4)))) (et rfl rfl) c27 (et rfl rfl)) ?_
        exact j5 _ _ ⟨e24_0, e24_5, e24_6, e24_8, e24_10, (congrArg Value.bool (orF c27)), hst⟩
    clear hst
    rintro f w ⟨e26_0, e26_5, e26_6, e26_8, e26_10, e26_66, hst⟩
    refine wpList_nil ?_
    refine k11 _ _ ?_
    rcases iteS hM with ⟨c28, hM⟩ | ⟨c28, hM⟩
    · refine condT (et rfl e26_66) c28 ?_
      refine seqQ fun Q12 k12 z12 => ?_
      refine wp_region_lit ?_
      refine Y wn rfl (ya (v := .bool false) rfl) ?_
      refine wpList_nil ?_
      refine k12 _ _ ?_
      refine wp_ret ?_
      refine z10 _ _ _ rfl ?_
      obtain rfl := someI hM
      exact hQ _ _ _ (fin1r Try.results6 ⟨rfl, rfl⟩ ⟨rfl, ((hst.pk 2 [] rfl).facts (allT (allT allI)))⟩)
    · refine condF (et rfl e26_66) (bfalse c28) ?_
      refine wp_skip ?_
      refine k10 _ _ ?_
      refine seqQ fun Q13 k13 z13 => ?_
      refine wp_region_lit ?_
      refine Y wn rfl (ym (v := h10.v) (et rfl e26_6)) ?_
      obtain ⟨r29, gr29, hM⟩ := bs hM
      refine Yc wn rfl (yCall FN_27 (a1 (et rfl rfl))) (sparsekit_Invert_ok (hM := gr29) (hst := hst) (q1 := (mtF mhF))) ?_
      clear hst
      rintro _ w ⟨h30, rfl, hst⟩
      refine ⟨_, rfl, ?_⟩
      refine Y wn rfl (ya (v := h30.v) (et rfl rfl)) ?_
      refine wpList_nil ?_
      refine k13 _ _ ?_
      refine seqQ fun Q14 k14 z14 => ?_
      refine wp_region_lit ?_
      refine Y wn rfl (ya (v := .int .i64 0) rfl) ?_
      refine wpList_nil ?_
      refine k14 _ _ ?_
      refine seqQ fun Q15 k15 z15 => ?_
      refine seqQ fun Q16 k16 z16 => ?_
      refine wp_region_lit ?_
      refine Y wn rfl (ya (v := .int .i64 0) rfl) ?_
      refine wpList_nil ?_
      refine k16 _ _ ?_
      refine blockQ fun Q17 qb17 => ?_
      obtain ⟨o44, go44, hM⟩ := bs hM
      have je44_0 : ∀ (x183 : Int) (f : Nat → Value) (w : World), f 0 = .int .i64 r4 → f 13 = .int .i64 x183 → St w0 (ros) (rs) w → .inl x183 = o44 → Q17 (.exit 0) (fr 150 f) w := by
        intro x183 f w eje44_0_0 eje44_0_13 hst ho
        subst ho
        refine qb17 _ _ _ ?_
        refine k15 _ _ ?_
        refine seqQ fun Q78 k78 z78 => ?_
        refine wp_region_lit ?_
        refine Y wn rfl (ym (v := .int .i64 x183) (et rfl eje44_0_13)) ?_
        refine Y wn rfl (ym (v := .int .i64 r4) (et rfl eje44_0_0)) ?_
        refine Y wn rfl (yeql (et rfl rfl) (et rfl rfl)) ?_
        refine Y wn rfl (ym (v := .bool (decide (x183 = r4))) (et rfl rfl)) ?_
        obtain ⟨r185, gr185, hM⟩ := bs hM
        refine joinW 2 (fun f w => f 149 = .bool r185 ∧ St w0 (ros) (rs) w) (fun j45 => ?_) ?_
        · rcases iteS gr185 with ⟨c187, gr185⟩ | ⟨c187, gr185⟩
          · obtain ⟨r188, gr188, gr185⟩ := bs gr185
            refine Yc (wg rfl rfl rfl (decide_eq_true c187)) rfl (yCall FN_10 a0) (sparselaw19_awake_ok (hM := gr188) (hst := hst) ) ?_
            clear hst
            rintro _ w ⟨rfl, hst⟩
            refine ⟨_, rfl, ?_⟩
            refine Y wn rfl (ypt (v := .bool r188) (et rfl rfl) (decide_eq_true c187) (et rfl rfl)) ?_
            obtain rfl := someI gr185
            exact j45 _ _ ⟨rfl, hst⟩
          · refine Gn (wx rfl rfl rfl (decide_eq_false c187)) rfl ?_
            refine Y wn rfl (ypf (v := .bool false) (et rfl rfl) (decide_eq_false c187) rfl) ?_
            obtain rfl := someI gr185
            exact j45 _ _ ⟨rfl, hst⟩
        clear hst
        rintro f w ⟨e186_149, hst⟩
        refine Y wn rfl (ya (v := .bool r185) (et rfl e186_149)) ?_
        refine wpList_nil ?_
        refine k78 _ _ ?_
        refine wp_ret ?_
        obtain rfl := someI hM
        exact hQ _ _ _ (fin1r Try.results6 ⟨rfl, rfl⟩ ⟨rfl, hst⟩)
      have je44_1 : ∀ (f : Nat → Value) (w : World), f 4 = .bool false → St w0 (ros) (rs) w → .inr () = o44 → Q17 .ret (fr 150 f) w := by
        intro f w eje44_1_4 hst ho
        subst ho
        refine qb17 _ _ _ ?_
        refine z15 _ _ _ rfl ?_
        obtain rfl := someI hM
        exact hQ _ _ _ (fin1r Try.results6 ⟨rfl, eje44_1_4⟩ ⟨rfl, hst⟩)
      refine loopQ (fun s a w => ∃ (x105 : Int) (x106 : Int) (f : Nat → Value), (x105, x106) = s ∧ a = fr 150 f ∧ f 0 = .int .i64 r4 ∧ f 5 = h8.v ∧ f 8 = h12.v ∧ f 10 = h14.v ∧ f 12 = h30.v ∧ f 13 = .int .i64 x105 ∧ f 14 = .int .i64 x106 ∧ St w0 (imm (rI .i64) h8.v r7 :: ros) (row 3 (rI .i64) h12.v r11.1 :: row 3 (rI .i64) h14.v r13.1 :: row 3 (rI .i64) h30.v r29 :: rs) w) go44 ⟨_, _, _, rfl, rfl, e26_0, e26_5, e26_8, e26_10, rfl, rfl, rfl, ((hst.pk 3 [1, 1, 0] rfl).facts (allC mhF (allT (allT allI))))⟩ ?_
      clear hst
      rintro _ _ w r44_ ⟨x105, x106, f, rfl, rfl, e44_0, e44_5, e44_8, e44_10, e44_12, e44_13, e44_14, hst⟩ hM44 ho44 Q100044 n44 zz44
      refine seqQ fun Q79 k79 z79 => ?_
      refine seqQ fun Q80 k80 z80 => ?_
      refine wp_region_lit ?_
      refine Y wn rfl (ym (v := .int .i64 x106) (et rfl e44_14)) ?_
      refine Y wn rfl (ym (v := .int .i64 r4) (et rfl e44_0)) ?_
      refine Y wn rfl (ylss (et rfl rfl) (et rfl rfl)) ?_
      refine wpList_nil ?_
      refine k80 _ _ ?_
      rcases iteS hM44 with ⟨c189, hM44⟩ | ⟨c189, hM44⟩
      · refine condT (et rfl rfl) (decide_eq_true c189) ?_
        refine wp_skip ?_
        refine k79 _ _ ?_
        refine seqQ fun Q81 k81 z81 => ?_
        have j58 : ∀ (x238 : Int) (f : Nat → Value) (w : World), f 0 = .int .i64 r4 → f 5 = h8.v → f 8 = h12.v → f 10 = h14.v → f 12 = h30.v → f 13 = .int .i64 x238 → f 14 = .int .i64 x106 → St w0 (imm (rI .i64) h8.v r7 :: ros) (row 3 (rI .i64) h12.v r11.1 :: row 3 (rI .i64) h14.v r13.1 :: row 3 (rI .i64) h30.v r29 :: rs) w → sparselaw19_EtreeSubtrees_j58 x106 x238 = some r44_ → Q81 .normal (fr 150 f) w := by
          intro x238 f w ej58_0 ej58_5 ej58_8 ej58_10 ej58_12 ej58_13 ej58_14 hst hM
          refine k81 _ _ ?_
          refine wp_region_lit ?_
          refine Y wn rfl (ym (v := .int .i64 x106) (et rfl ej58_14)) ?_
          refine Y wn rfl (yadd (et rfl rfl) rfl) ?_
          refine Y wn rfl (ya (v := .int .i64 (wa .i64 x106 1)) (et rfl rfl)) ?_
          refine wpList_nil ?_
          obtain rfl := someI hM
          exact n44 _ _ _ rfl ⟨_, _, _, rfl, rfl, ej58_0, ej58_5, ej58_8, ej58_10, ej58_12, ej58_13, rfl, hst⟩
        refine blockQ fun Q100 qb100 => ?_
        refine seqQ fun Q101 k101 z101 => ?_
        refine seqQ fun Q102 k102 z102 => ?_
        refine wp_region_lit ?_
        refine Y wn rfl (ym (v := h8.v) (et rfl e44_5)) ?_
        refine Y wn rfl (ym (v := .int .i64 x106) (et rfl e44_14)) ?_
        obtain ⟨x239, gx239, hM44⟩ := bs hM44
        refine Y wn rfl (yIa SL_22 (et rfl rfl) (et rfl rfl) hst (rdI mhF) gx239) ?_
        refine Y wn rfl (yI O_3 (et rfl rfl) hst (rdI mhF) gx239) ?_
        refine Y wn rfl (ylss (et rfl rfl) rfl) ?_
        refine wpList_nil ?_
        refine k102 _ _ ?_
        rcases iteS hM44 with ⟨c240, hM44⟩ | ⟨c240, hM44⟩
        · refine condT (et rfl rfl) (decide_eq_true c240) ?_
          refine seqQ fun Q103 k103 z103 => ?_
          refine wp_region_lit ?_
          refine Y wn rfl (ym (v := .int .i64 x105) (et rfl e44_13)) ?_
          refine Y wn rfl (ym (v := h14.v) (et rfl e44_10)) ?_
          refine Y wn rfl (ym (v := .int .i64 x106) (et rfl e44_14)) ?_
          obtain ⟨x241, gx241, hM44⟩ := bs hM44
          refine Y wn rfl (yIa SL_22 (et rfl rfl) (et rfl rfl) hst (rdO (mtR mhR)) gx241) ?_
          refine Y wn rfl (yI O_3 (et rfl rfl) hst (rdO (mtR mhR)) gx241) ?_
          refine Y wn rfl (yadd (et rfl rfl) (et rfl rfl)) ?_
          refine Y wn rfl (ya (v := .int .i64 (wa .i64 x105 x241)) (et rfl rfl)) ?_
          refine wpList_nil ?_
          refine k103 _ _ ?_
          refine seqQ fun Q104 k104 z104 => ?_
          refine seqQ fun Q105 k105 z105 => ?_
          refine wp_region_lit ?_
          refine Y wn rfl (ym (v := h12.v) (et rfl e44_8)) ?_
          refine Y wn rfl (ym (v := .int .i64 x106) (et rfl e44_14)) ?_
          obtain ⟨x242, gx242, hM44⟩ := bs hM44
          refine Y wn rfl (yIa SL_22 (et rfl rfl) (et rfl rfl) hst (rdO mhR) gx242) ?_
          refine Y wn rfl (yI O_3 (et rfl rfl) hst (rdO mhR) gx242) ?_
          refine Y wn rfl (yneq (et rfl rfl) rfl) ?_
          refine wpList_nil ?_
          refine k105 _ _ ?_
          rcases iteS hM44 with ⟨c243, hM44⟩ | ⟨c243, hM44⟩
          · refine condF (et rfl rfl) (nF (decide_eq_true c243)) ?_
            refine wp_skip ?_
            refine k104 _ _ ?_
            refine wp_exit ?_
            refine z101 _ _ _ rfl ?_
            refine qb100 _ _ _ ?_
            exact j58 _ _ _ e44_0 e44_5 e44_8 e44_10 e44_12 rfl e44_14 hst hM44
          · refine condT (et rfl rfl) (nT (decide_eq_false c243)) ?_
            refine seqQ fun Q106 k106 z106 => ?_
            refine wp_region_lit ?_
            refine Y wn rfl (ya (v := .bool false) rfl) ?_
            refine wpList_nil ?_
            refine k106 _ _ ?_
            refine wp_ret ?_
            refine z104 _ _ _ rfl ?_
            refine z101 _ _ _ rfl ?_
            refine qb100 _ _ _ ?_
            refine z81 _ _ _ rfl ?_
            obtain rfl := someI hM44
            refine zz44 _ _ _ _ rfl rfl ?_
            exact je44_1 _ _ rfl ((hst.pk 3 [] rfl).facts (allT allI)) (ho44 _ rfl)
        · refine condF (et rfl rfl) (decide_eq_false c240) ?_
          refine wp_skip ?_
          refine k101 _ _ ?_
          refine seqQ fun Q107 k107 z107 => ?_
          obtain ⟨x244, gx244, hM44⟩ := bs hM44
          obtain ⟨x245, gx245, hM44⟩ := bs hM44
          obtain ⟨x246, gx246, hM44⟩ := bs hM44
          obtain ⟨r247, gr247, hM44⟩ := bs hM44
          obtain ⟨r248, gr248, hM44⟩ := bs hM44
          refine joinN (n := 150) (fun f w => f 0 = .int .i64 r4 ∧ f 5 = h8.v ∧ f 8 = h12.v ∧ f 10 = h14.v ∧ f 12 = h30.v ∧ f 13 = .int .i64 x105 ∧ f 14 = .int .i64 x106 ∧ f 143 = .bool r248 ∧ St w0 (imm (rI .i64) h8.v r7 :: ros) (row 3 (rI .i64) h12.v r11.1 :: row 3 (rI .i64) h14.v r13.1 :: row 3 (rI .i64) h30.v r29 :: rs) w) (fun j59 => ?_) ?_
          · rcases iteS gr247 with ⟨c250, gr247⟩ | ⟨c250, gr247⟩
            · obtain ⟨x251, gx251, gr247⟩ := bs gr247
              obtain ⟨x252, gx252, gr247⟩ := bs gr247
              obtain ⟨x253, gx253, gr247⟩ := bs gr247
              have hr60 := someI gr247
              rcases iteS gr248 with ⟨c254, gr248⟩ | ⟨c254, gr248⟩
              · have hr61 := someI gr248
                refine wp_drawR [0, 0, 3, 7, 0, 0, 0, 96, 224, 496, 1008, 2032, 4095, 8191, 16383, 16383, 65535, 131071, 16383, 16383, 16383, 1589247, 3686399, 8142847, 16531455, 33554431, 67108863, 134217727, 268435455, 268435455, 1073741823, 2147483647, 268435455, 268435455, 13153337343, 30333206527, 68719476735, 268435455, 268435455, 268435455, 824902156287, 1924413784063, 4260875993087, 8658922504191, 268435455, 268435455, 268435455, 105553384701951, 246290873057279, 545358035812351, 1108307989233663, 2251662643167231, 4503599627370495, 9007199254740991] [] 0 folM (by kernel_rfl) (by kernel_rfl) (by kernel_rfl) ?_
                replace hst := hst.drew
                refine DRz (l1 := [0, 1, 2, 3, 4, 5, 6, 7, 8, 9, 10, 11, 12, 13, 14, 15, 16, 17, 18, 19, 20, 21, 22, 23, 24, 25, 26, 27, 28, 29, 30, 31, 32, 33, 34, 35, 36, 37, 38, 39, 40, 41, 42, 43, 44, 45, 46, 47, 48, 49, 50, 51, 52, 53]) (l2 := []) (by kernel_rfl) (by kernel_rfl) ?_
                refine Ry rfl rfl wn (ym (v := h12.v) (et rfl e44_8)) ?_
                refine Ry rfl rfl wn (ym (v := .int .i64 x106) (et rfl e44_14)) ?_
                refine Ry rfl rfl wn (yIa SL_22 (et rfl rfl) (et rfl rfl) hst (rdO mhR) gx244) ?_
                refine Ry rfl rfl wn (yI O_3 (et rfl rfl) hst (rdO mhR) gx244) ?_
                refine Ry rfl rfl wn (ym (v := h12.v) (et rfl e44_8)) ?_
                refine Ry rfl rfl wn (ym (v := h8.v) (et rfl e44_5)) ?_
                refine Ry rfl rfl wn (ym (v := .int .i64 x106) (et rfl e44_14)) ?_
                refine Ry rfl rfl wn (yIa SL_22 (et rfl rfl) (et rfl rfl) hst (rdI mhF) gx245) ?_
                refine Ry rfl rfl wn (yI O_3 (et rfl rfl) hst (rdI mhF) gx245) ?_
                refine Ry rfl rfl wn (yIa SL_22 (et rfl rfl) (et rfl rfl) hst (rdO mhR) gx246) ?_
                refine Ry rfl rfl wn (yI O_3 (et rfl rfl) hst (rdO mhR) gx246) ?_
                refine Ry rfl rfl wn (yadd (et rfl rfl) rfl) ?_
                refine Ry rfl rfl wn (yneq (et rfl rfl) (et rfl rfl)) ?_
                refine Ry rfl rfl wn (ym (v := .bool (!(decide (x244 = (wa .i64 x246 1))))) (et rfl rfl)) ?_
                refine Ry rfl rfl (wg rfl rfl rfl (nF (decide_eq_true c250))) (ym (v := h30.v) (et rfl e44_12)) ?_
                refine Ry rfl rfl (wg rfl rfl rfl (nF (decide_eq_true c250))) (ym (v := .int .i64 x106) (et rfl e44_14)) ?_
                refine Ry rfl rfl (wg rfl rfl rfl (nF (decide_eq_true c250))) (yIa SL_22 (et rfl rfl) (et rfl rfl) hst (rdO (mtR (mtR mhR))) gx251) ?_
                refine Ry rfl rfl (wg rfl rfl rfl (nF (decide_eq_true c250))) (yI O_3 (et rfl rfl) hst (rdO (mtR (mtR mhR))) gx251) ?_
                refine Ry rfl rfl (wg rfl rfl rfl (nF (decide_eq_true c250))) (ym (v := h30.v) (et rfl e44_12)) ?_
                refine Ry rfl rfl (wg rfl rfl rfl (nF (decide_eq_true c250))) (ym (v := h8.v) (et rfl e44_5)) ?_
                refine Ry rfl rfl (wg rfl rfl rfl (nF (decide_eq_true c250))) (ym (v := .int .i64 x106) (et rfl e44_14)) ?_
                refine Ry rfl rfl (wg rfl rfl rfl (nF (decide_eq_true c250))) (yIa SL_22 (et rfl rfl) (et rfl rfl) hst (rdI mhF) gx252) ?_
                refine Ry rfl rfl (wg rfl rfl rfl (nF (decide_eq_true c250))) (yI O_3 (et rfl rfl) hst (rdI mhF) gx252) ?_
                refine Ry rfl rfl (wg rfl rfl rfl (nF (decide_eq_true c250))) (yIa SL_22 (et rfl rfl) (et rfl rfl) hst (rdO (mtR (mtR mhR))) gx253) ?_
                refine Ry rfl rfl (wg rfl rfl rfl (nF (decide_eq_true c250))) (yI O_3 (et rfl rfl) hst (rdO (mtR (mtR mhR))) gx253) ?_
                refine Ry rfl rfl (wg rfl rfl rfl (nF (decide_eq_true c250))) (ygtr (et rfl rfl) (et rfl rfl)) ?_
                refine Ry rfl rfl wn (ypf (v := .bool r247) (et rfl rfl) (nF (decide_eq_true c250)) (eqv hr60 (et rfl rfl))) ?_
                refine Ry rfl rfl wn (ym (v := .bool r247) (et rfl rfl)) ?_
                refine Rx rfl rfl (wx rfl rfl rfl c254) ?_
                refine Rx rfl rfl (wx rfl rfl rfl c254) ?_
                refine Rx rfl rfl (wx rfl rfl rfl c254) ?_
                refine Rx rfl rfl (wx rfl rfl rfl c254) ?_
                refine Rx rfl rfl (wx rfl rfl rfl c254) ?_
                refine Rx rfl rfl (wx rfl rfl rfl c254) ?_
                refine Rx rfl rfl (wx rfl rfl rfl c254) ?_
                refine Rx rfl rfl (wx rfl rfl rfl c254) ?_
                refine Rx rfl rfl (wx rfl rfl rfl c254) ?_
                refine Rx rfl rfl (wx rfl rfl rfl c254) ?_
                refine Rx rfl rfl (wx rfl rfl rfl c254) ?_
                refine Rx rfl rfl (wx rfl rfl rfl c254) ?_
                refine Rx rfl rfl (wx rfl rfl rfl c254) ?_
                refine Rx rfl rfl (wx rfl rfl rfl c254) ?_
                refine Rx rfl rfl (wx rfl rfl rfl c254) ?_
                refine Rx rfl rfl (wx rfl rfl rfl c254) ?_
                refine Rx rfl rfl (wx rfl rfl rfl c254) ?_
                refine Rx rfl rfl (wx rfl rfl rfl c254) ?_
                refine Rx rfl rfl (wx rfl rfl rfl c254) ?_
                refine Rx rfl rfl (wx rfl rfl rfl c254) ?_
                refine Rx rfl rfl (wx rfl rfl rfl c254) ?_
                refine Rx rfl rfl (wx rfl rfl rfl c254) ?_
                refine Rx rfl rfl (wx rfl rfl rfl c254) ?_
                refine Rx rfl rfl (wx rfl rfl rfl c254) ?_
                refine Rx rfl rfl (wx rfl rfl rfl c254) ?_
                refine Ry rfl rfl wn (ypt (v := .bool r248) (et rfl rfl) c254 (eqv hr61 rfl)) ?_
                refine Rn QSn ?_
                exact j59 _ _ ⟨e44_0, e44_5, e44_8, e44_10, e44_12, e44_13, e44_14, rfl, hst⟩
              · obtain ⟨x255, gx255, gr248⟩ := bs gr248
                obtain ⟨x256, gx256, gr248⟩ := bs gr248
                obtain ⟨x257, gx257, gr248⟩ := bs gr248
                obtain ⟨x258, gx258, gr248⟩ := bs gr248
                obtain ⟨x259, gx259, gr248⟩ := bs gr248
                obtain ⟨x260, gx260, gr248⟩ := bs gr248
                have hr62 := someI gr248
                refine wp_drawR [0, 0, 3, 7, 0, 0, 0, 96, 224, 496, 1008, 2032, 4095, 8191, 16383, 16383, 65535, 131071, 16383, 16383, 16383, 1589247, 3686399, 8142847, 16531455, 33554431, 67108863, 134217727, 268435455, 268435455, 1073741823, 2147483647, 268435455, 268435455, 13153337343, 30333206527, 68719476735, 268435455, 268435455, 268435455, 824902156287, 1924413784063, 4260875993087, 8658922504191, 268435455, 268435455, 268435455, 105553384701951, 246290873057279, 545358035812351, 1108307989233663, 2251662643167231, 4503599627370495, 9007199254740991] [] 0 folM (by kernel_rfl) (by kernel_rfl) (by kernel_rfl) ?_
                replace hst := hst.drew
                refine DRz (l1 := [0, 1, 2, 3, 4, 5, 6, 7, 8, 9, 10, 11, 12, 13, 14, 15, 16, 17, 18, 19, 20, 21, 22, 23, 24, 25, 26, 27, 28, 29, 30, 31, 32, 33, 34, 35, 36, 37, 38, 39, 40, 41, 42, 43, 44, 45, 46, 47, 48, 49, 50, 51, 52, 53]) (l2 := []) (by kernel_rfl) (by kernel_rfl) ?_
                refine Ry rfl rfl wn (ym (v := h12.v) (et rfl e44_8)) ?_
                refine Ry rfl rfl wn (ym (v := .int .i64 x106) (et rfl e44_14)) ?_
                refine Ry rfl rfl wn (yIa SL_22 (et rfl rfl) (et rfl rfl) hst (rdO mhR) gx244) ?_
                refine Ry rfl rfl wn (yI O_3 (et rfl rfl) hst (rdO mhR) gx244) ?_
                refine Ry rfl rfl wn (ym (v := h12.v) (et rfl e44_8)) ?_
                refine Ry rfl rfl wn (ym (v := h8.v) (et rfl e44_5)) ?_
                refine Ry rfl rfl wn (ym (v := .int .i64 x106) (et rfl e44_14)) ?_
                refine Ry rfl rfl wn (yIa SL_22 (et rfl rfl) (et rfl rfl) hst (rdI mhF) gx245) ?_
                refine Ry rfl rfl wn (yI O_3 (et rfl rfl) hst (rdI mhF) gx245) ?_
                refine Ry rfl rfl wn (yIa SL_22 (et rfl rfl) (et rfl rfl) hst (rdO mhR) gx246) ?_
                refine Ry rfl rfl wn (yI O_3 (et rfl rfl) hst (rdO mhR) gx246) ?_
                refine Ry rfl rfl wn (yadd (et rfl rfl) rfl) ?_
                refine Ry rfl rfl wn (yneq (et rfl rfl) (et rfl rfl)) ?_
                refine Ry rfl rfl wn (ym (v := .bool (!(decide (x244 = (wa .i64 x246 1))))) (et rfl rfl)) ?_
                refine Ry rfl rfl (wg rfl rfl rfl (nF (decide_eq_true c250))) (ym (v := h30.v) (et rfl e44_12)) ?_
                refine Ry rfl rfl (wg rfl rfl rfl (nF (decide_eq_true c250))) (ym (v := .int .i64 x106) (et rfl e44_14)) ?_
                refine Ry rfl rfl (wg rfl rfl rfl (nF (decide_eq_true c250))) (yIa SL_22 (et rfl rfl) (et rfl rfl) hst (rdO (mtR (mtR mhR))) gx251) ?_
                refine Ry rfl rfl (wg rfl rfl rfl (nF (decide_eq_true c250))) (yI O_3 (et rfl rfl) hst (rdO (mtR (mtR mhR))) gx251) ?_
                refine Ry rfl rfl (wg rfl rfl rfl (nF (decide_eq_true c250))) (ym (v := h30.v) (et rfl e44_12)) ?_
                refine Ry rfl rfl (wg rfl rfl rfl (nF (decide_eq_true c250))) (ym (v := h8.v) (et rfl e44_5)) ?_
                refine Ry rfl rfl (wg rfl rfl rfl (nF (decide_eq_true c250))) (ym (v := .int .i64 x106) (et rfl e44_14)) ?_
                refine Ry rfl rfl (wg rfl rfl rfl (nF (decide_eq_true c250))) (yIa SL_22 (et rfl rfl) (et rfl rfl) hst (rdI mhF) gx252) ?_
                refine Ry rfl rfl (wg rfl rfl rfl (nF (decide_eq_true c250))) (yI O_3 (et rfl rfl) hst (rdI mhF) gx252) ?_
                refine Ry rfl rfl (wg rfl rfl rfl (nF (decide_eq_true c250))) (yIa SL_22 (et rfl rfl) (et rfl rfl) hst (rdO (mtR (mtR mhR))) gx253) ?_
                refine Ry rfl rfl (wg rfl rfl rfl (nF (decide_eq_true c250))) (yI O_3 (et rfl rfl) hst (rdO (mtR (mtR mhR))) gx253) ?_
                refine Ry rfl rfl (wg rfl rfl rfl (nF (decide_eq_true c250))) (ygtr (et rfl rfl) (et rfl rfl)) ?_
                refine Ry rfl rfl wn (ypf (v := .bool r247) (et rfl rfl) (nF (decide_eq_true c250)) (eqv hr60 (et rfl rfl))) ?_
                refine Ry rfl rfl wn (ym (v := .bool r247) (et rfl rfl)) ?_
                refine Ry rfl rfl (wg rfl rfl rfl (bfalse c254)) (ym (v := h30.v) (et rfl e44_12)) ?_
                refine Ry rfl rfl (wg rfl rfl rfl (bfalse c254)) (ym (v := .int .i64 x106) (et rfl e44_14)) ?_
                refine Ry rfl rfl (wg rfl rfl rfl (bfalse c254)) (yIa SL_22 (et rfl rfl) (et rfl rfl) hst (rdO (mtR (mtR mhR))) gx255) ?_
                refine Ry rfl rfl (wg rfl rfl rfl (bfalse c254)) (yI O_3 (et rfl rfl) hst (rdO (mtR (mtR mhR))) gx255) ?_
                refine Ry rfl rfl (wg rfl rfl rfl (bfalse c254)) (ym (v := h14.v) (et rfl e44_10)) ?_
                refine Ry rfl rfl (wg rfl rfl rfl (bfalse c254)) (ym (v := .int .i64 x106) (et rfl e44_14)) ?_
                refine Ry rfl rfl (wg rfl rfl rfl (bfalse c254)) (yIa SL_22 (et rfl rfl) (et rfl rfl) hst (rdO (mtR mhR)) gx256) ?_
                refine Ry rfl rfl (wg rfl rfl rfl (bfalse c254)) (yI O_3 (et rfl rfl) hst (rdO (mtR mhR)) gx256) ?_
                refine Ry rfl rfl (wg rfl rfl rfl (bfalse c254)) (ysub (et rfl rfl) (et rfl rfl)) ?_
                refine Ry rfl rfl (wg rfl rfl rfl (bfalse c254)) (ym (v := h30.v) (et rfl e44_12)) ?_
                refine Ry rfl rfl (wg rfl rfl rfl (bfalse c254)) (ym (v := h8.v) (et rfl e44_5)) ?_
                refine Ry rfl rfl (wg rfl rfl rfl (bfalse c254)) (ym (v := .int .i64 x106) (et rfl e44_14)) ?_
                refine Ry rfl rfl (wg rfl rfl rfl (bfalse c254)) (yIa SL_22 (et rfl rfl) (et rfl rfl) hst (rdI mhF) gx257) ?_
                refine Ry rfl rfl (wg rfl rfl rfl (bfalse c254)) (yI O_3 (et rfl rfl) hst (rdI mhF) gx257) ?_
                refine Ry rfl rfl (wg rfl rfl rfl (bfalse c254)) (yIa SL_22 (et rfl rfl) (et rfl rfl) hst (rdO (mtR (mtR mhR))) gx258) ?_
                refine Ry rfl rfl (wg rfl rfl rfl (bfalse c254)) (yI O_3 (et rfl rfl) hst (rdO (mtR (mtR mhR))) gx258) ?_
                refine Ry rfl rfl (wg rfl rfl rfl (bfalse c254)) (ym (v := h14.v) (et rfl e44_10)) ?_
                refine Ry rfl rfl (wg rfl rfl rfl (bfalse c254)) (ym (v := h8.v) (et rfl e44_5)) ?_
                refine Ry rfl rfl (wg rfl rfl rfl (bfalse c254)) (ym (v := .int .i64 x106) (et rfl e44_14)) ?_
                refine Ry rfl rfl (wg rfl rfl rfl (bfalse c254)) (yIa SL_22 (et rfl rfl) (et rfl rfl) hst (rdI mhF) gx259) ?_
                refine Ry rfl rfl (wg rfl rfl rfl (bfalse c254)) (yI O_3 (et rfl rfl) hst (rdI mhF) gx259) ?_
                refine Ry rfl rfl (wg rfl rfl rfl (bfalse c254)) (yIa SL_22 (et rfl rfl) (et rfl rfl) hst (rdO (mtR mhR)) gx260) ?_
                refine Ry rfl rfl (wg rfl rfl rfl (bfalse c254)) (yI O_3 (et rfl rfl) hst (rdO (mtR mhR)) gx260) ?_
                refine Ry rfl rfl (wg rfl rfl rfl (bfalse c254)) (ysub (et rfl rfl) (et rfl rfl)) ?_
                refine Ry rfl rfl (wg rfl rfl rfl (bfalse c254)) (ylss (et rfl rfl) (et rfl rfl)) ?_
                refine Ry rfl rfl wn (ypf (v := .bool r248) (et rfl rfl) (bfalse c254) (eqv hr62 (et rfl rfl))) ?_
                refine Rn QSn ?_
                exact j59 _ _ ⟨e44_0, e44_5, e44_8, e44_10, e44_12, e44_13, e44_14, rfl, hst⟩
            · have hr63 := someI gr247
              have c261 : r247 = true := hr63.symm
              rw [if_pos c261] at gr248
              have hr64 := someI gr248
              refine wp_drawR [0, 0, 3, 7, 0, 0, 0, 96, 224, 496, 1008, 2032, 4095, 8191, 16383, 16383, 65535, 131071, 16383, 16383, 16383, 1589247, 3686399, 8142847, 16531455, 33554431, 67108863, 134217727, 268435455, 268435455, 1073741823, 2147483647, 268435455, 268435455, 13153337343, 30333206527, 68719476735, 268435455, 268435455, 268435455, 824902156287, 1924413784063, 4260875993087, 8658922504191, 268435455, 268435455, 268435455, 105553384701951, 246290873057279, 545358035812351, 1108307989233663, 2251662643167231, 4503599627370495, 9007199254740991] [] 0 folM (by kernel_rfl) (by kernel_rfl) (by kernel_rfl) ?_
              replace hst := hst.drew
              refine DRz (l1 := [0, 1, 2, 3, 4, 5, 6, 7, 8, 9, 10, 11, 12, 13, 14, 15, 16, 17, 18, 19, 20, 21, 22, 23, 24, 25, 26, 27, 28, 29, 30, 31, 32, 33, 34, 35, 36, 37, 38, 39, 40, 41, 42, 43, 44, 45, 46, 47, 48, 49, 50, 51, 52, 53]) (l2 := []) (by kernel_rfl) (by kernel_rfl) ?_
              refine Ry rfl rfl wn (ym (v := h12.v) (et rfl e44_8)) ?_
              refine Ry rfl rfl wn (ym (v := .int .i64 x106) (et rfl e44_14)) ?_
              refine Ry rfl rfl wn (yIa SL_22 (et rfl rfl) (et rfl rfl) hst (rdO mhR) gx244) ?_
              refine Ry rfl rfl wn (yI O_3 (et rfl rfl) hst (rdO mhR) gx244) ?_
              refine Ry rfl rfl wn (ym (v := h12.v) (et rfl e44_8)) ?_
              refine Ry rfl rfl wn (ym (v := h8.v) (et rfl e44_5)) ?_
              refine Ry rfl rfl wn (ym (v := .int .i64 x106) (et rfl e44_14)) ?_
              refine Ry rfl rfl wn (yIa SL_22 (et rfl rfl) (et rfl rfl) hst (rdI mhF) gx245) ?_
              refine Ry rfl rfl wn (yI O_3 (et rfl rfl) hst (rdI mhF) gx245) ?_
              refine Ry rfl rfl wn (yIa SL_22 (et rfl rfl) (et rfl rfl) hst (rdO mhR) gx246) ?_
              refine Ry rfl rfl wn (yI O_3 (et rfl rfl) hst (rdO mhR) gx246) ?_
              refine Ry rfl rfl wn (yadd (et rfl rfl) rfl) ?_
              refine Ry rfl rfl wn (yneq (et rfl rfl) (et rfl rfl)) ?_
              refine Ry rfl rfl wn (ym (v := .bool (!(decide (x244 = (wa .i64 x246 1))))) (et rfl rfl)) ?_
              refine Rx rfl rfl (wx rfl rfl rfl (nT (decide_eq_false c250))) ?_
              refine Rx rfl rfl (wx rfl rfl rfl (nT (decide_eq_false c250))) ?_
              refine Rx rfl rfl (wx rfl rfl rfl (nT (decide_eq_false c250))) ?_
              refine Rx rfl rfl (wx rfl rfl rfl (nT (decide_eq_false c250))) ?_
              refine Rx rfl rfl (wx rfl rfl rfl (nT (decide_eq_false c250))) ?_
              refine Rx rfl rfl (wx rfl rfl rfl (nT (decide_eq_false c250))) ?_
              refine Rx rfl rfl (wx rfl rfl rfl (nT (decide_eq_false c250))) ?_
              refine Rx rfl rfl (wx rfl rfl rfl (nT (decide_eq_false c250))) ?_
              refine Rx rfl rfl (wx rfl rfl rfl (nT (decide_eq_false c250))) ?_
              refine Rx rfl rfl (wx rfl rfl rfl (nT (decide_eq_false c250))) ?_
              refine Rx rfl rfl (wx rfl rfl rfl (nT (decide_eq_false c250))) ?_
              refine Rx rfl rfl (wx rfl rfl rfl (nT (decide_eq_false c250))) ?_
              refine Ry rfl rfl wn (ypt (v := .bool r247) (et rfl rfl) (nT (decide_eq_false c250)) (eqv hr63 rfl)) ?_
              refine Ry rfl rfl wn (ym (v := .bool r247) (et rfl rfl)) ?_
              refine Rx rfl rfl (wx rfl rfl rfl c261) ?_
              refine Rx rfl rfl (wx rfl rfl rfl c261) ?_
              refine Rx rfl rfl (wx rfl rfl rfl c261) ?_
              refine Rx rfl rfl (wx rfl rfl rfl c261) ?_
              refine Rx rfl rfl (wx rfl rfl rfl c261) ?_
              refine Rx rfl rfl (wx rfl rfl rfl c261) ?_
              refine Rx rfl rfl (wx rfl rfl rfl c261) ?_
              refine Rx rfl rfl (wx rfl rfl rfl c261) ?_
              refine Rx rfl rfl (wx rfl rfl rfl c261) ?_
              refine Rx rfl rfl (wx rfl rfl rfl c261) ?_
              refine Rx rfl rfl (wx rfl rfl rfl c261) ?_
              refine Rx rfl rfl (wx rfl rfl rfl c261) ?_
              refine Rx rfl rfl (wx rfl rfl rfl c261) ?_
              refine Rx rfl rfl (wx rfl rfl rfl c261) ?_
              refine Rx rfl rfl (wx rfl rfl rfl c261) ?_
              refine Rx rfl rfl (wx rfl rfl rfl c261) ?_
              refine Rx rfl rfl (wx rfl rfl rfl c261) ?_
              refine Rx rfl rfl (wx rfl rfl rfl c261) ?_
              refine Rx rfl rfl (wx rfl rfl rfl c261) ?_
              refine Rx rfl rfl (wx rfl rfl rfl c261) ?_
              refine Rx rfl rfl (wx rfl rfl rfl c261) ?_
              refine Rx rfl rfl (wx rfl rfl rfl c261) ?_
              refine Rx rfl rfl (wx rfl rfl rfl c261) ?_
              refine Rx rfl rfl (wx rfl rfl rfl c261) ?_
              refine Rx rfl rfl (wx rfl rfl rfl c261) ?_
              refine Ry rfl rfl wn (ypt (v := .bool r248) (et rfl rfl) c261 (eqv hr64 rfl)) ?_
              refine Rn QSn ?_
              exact j59 _ _ ⟨e44_0, e44_5, e44_8, e44_10, e44_12, e44_13, e44_14, rfl, hst⟩
          clear hst
          rintro f w ⟨e249_0, e249_5, e249_8, e249_10, e249_12, e249_13, e249_14, e249_143, hst⟩
          refine k107 _ _ ?_
          rcases iteS hM44 with ⟨c262, hM44⟩ | ⟨c262, hM44⟩
          · refine condT (et rfl e249_143) c262 ?_
            refine seqQ fun Q108 k108 z108 => ?_
            refine wp_region_lit ?_
            refine Y wn rfl (ya (v := .bool false) rfl) ?_
            refine wpList_nil ?_
            refine k108 _ _ ?_
            refine wp_ret ?_
            refine qb100 _ _ _ ?_
            refine z81 _ _ _ rfl ?_
            obtain rfl := someI hM44
            refine zz44 _ _ _ _ rfl rfl ?_
            exact je44_1 _ _ rfl ((hst.pk 3 [] rfl).facts (allT allI)) (ho44 _ rfl)
          · refine condF (et rfl e249_143) (bfalse c262) ?_
            refine wp_skip ?_
            refine qb100 _ _ _ ?_
            exact j58 _ _ _ e249_0 e249_5 e249_8 e249_10 e249_12 e249_13 e249_14 hst hM44
      · refine condF (et rfl rfl) (decide_eq_false c189) ?_
        refine wp_exit ?_
        refine z79 _ _ _ rfl ?_
        obtain rfl := someI hM44
        refine zz44 _ _ _ _ rfl rfl ?_
        exact je44_0 _ _ _ e44_0 e44_13 ((hst.pk 3 [] rfl).facts (allT allI)) (ho44 _ rfl)

theorem sparseref12_FromTable_ok {w0 : World} {ros : List Fact} {rs : List Res} {w : World} {x1 : List (List Bool)} {h2 : Hdr} {out : (List (List Int))} (hM : sparseref12_FromTable x1 = some out) (q1 : imm (rS rB) h2.v x1 ∈ ros) (hst : St w0 ros (rs) w) :
    Calls Try.prog 36 #[h2.v] w (fun e w => ∃ (h100001 : Hdr), e = .returned (.agg #[h100001.v]) ∧ St w0 (ros) (row 22 (rS (rI .i64)) h100001.v out :: rs) w) := by
  refine enterQ Try.func36 rfl Try.ntmps36 rfl fun Q hQ => ?_
  refine seqQ fun Q1 k1 z1 => ?_
  refine wp_region_lit ?_
  refine YB wn rfl (rAl hst ZT_27) ?_
  clear hst
  intro b3 w hst
  refine wpList_nil ?_
  refine k1 _ _ ?_
  refine seqQ fun Q2 k2 z2 => ?_
  refine wp_region_lit ?_
  refine YB wn rfl (rAl hst ZT_27) ?_
  clear hst
  intro b4 w hst
  refine wpList_nil ?_
  refine k2 _ _ ?_
  refine seqQ fun Q3 k3 z3 => ?_
  refine seqQ fun Q4 k4 z4 => ?_
  refine wp_region_lit ?_
  refine Y wn rfl (ya (v := .int .i64 0) rfl) ?_
  refine wpList_nil ?_
  refine k4 _ _ ?_
  refine blockQ fun Q5 qb5 => ?_
  obtain ⟨o27, go27, hM⟩ := bs hM
  have je27_0 : ∀ (x258 : List (List Int)) (h257 : Hdr) (f : Nat → Value) (w : World), f 2 = .pointer (some ⟨b3, 0, none⟩) → f 3 = .pointer (some ⟨b4, 0, none⟩) → St w0 (ros) (box b3 27 [hnil.v] :: row 22 (rS (rI .i64)) h257.v x258 :: box b4 27 [h257.v] :: rs) w → x258 = o27 → Q5 (.exit 0) (fr 51 f) w := by
    intro x258 h257 f w eje27_0_2 eje27_0_3 hst ho
    subst ho
    refine qb5 _ _ _ ?_
    refine k3 _ _ ?_
    refine seqQ fun Q52 k52 z52 => ?_
    refine wp_region_lit ?_
    refine Y wn rfl (yLbs (us := [h257.v]) ST_27 (et rfl eje27_0_3) hst (mtR (mtR mhR)) rfl rfl) ?_
    refine YT wn rfl (r_stbn (vals' := [h257.v]) (us := [h257.v]) hst ST_27 (et rfl eje27_0_2) (et rfl rfl) rfl rfl (one_of rfl) rfl) ?_
    clear hst
    intro w hst
    refine wpList_nil ?_
    refine k52 _ _ ?_
    refine wp_ret ?_
    obtain rfl := someI hM
    exact hQ _ _ _ (fin1r Try.results36 (rcs2 rfl eje27_0_2 hst mhR ST_27 rfl) ⟨_, rfl, (hst.pk 3 [1] rfl)⟩)
  replace hst := hst.rowNh 22 (rS (rI .i64))
  refine loopQ (fun s a w => ∃ (x129 : List (List Int)) (x130 : Int) (f : Nat → Value) (h128 : Hdr), (x129, x130) = s ∧ a = fr 51 f ∧ f 0 = h2.v ∧ f 2 = .pointer (some ⟨b3, 0, none⟩) ∧ f 3 = .pointer (some ⟨b4, 0, none⟩) ∧ f 4 = .int .i64 x130 ∧ St w0 (ros) (box b3 27 [hnil.v] :: row 22 (rS (rI .i64)) h128.v x129 :: box b4 27 [h128.v] :: rs) w) go27 ⟨_, _, _, _, rfl, rfl, rfl, rfl, rfl, rfl, (hst.pk 3 [2, 0, 0] rfl)⟩ ?_
  clear hst
  rintro _ _ w r27_ ⟨x129, x130, f, h128, rfl, rfl, e27_0, e27_2, e27_3, e27_4, hst⟩ hM27 ho27 Q100027 n27 zz27
  refine seqQ fun Q53 k53 z53 => ?_
  refine seqQ fun Q54 k54 z54 => ?_
  refine wp_region_lit ?_
  refine Y wn rfl (ym (v := .int .i64 x130) (et rfl e27_4)) ?_
  refine Y wn rfl (ym (v := h2.v) (et rfl e27_0)) ?_
  refine Y wn rfl (yLen SL_53 (et rfl rfl) hst (rdI q1)) ?_
  refine Y wn rfl (ylss (et rfl rfl) (et rfl rfl)) ?_
  refine wpList_nil ?_
  refine k54 _ _ ?_
  rcases iteS hM27 with ⟨c259, hM27⟩ | ⟨c259, hM27⟩
  · refine condT (et rfl rfl) (decide_eq_true c259) ?_
    refine wp_skip ?_
    refine k53 _ _ ?_
    refine seqQ fun Q55 k55 z55 => ?_
    refine blockQ fun Q56 qb56 => ?_
    refine seqQ fun Q57 k57 z57 => ?_
    refine wp_region_lit ?_
    refine Y wn rfl (ya (v := hnil.v) rfl) ?_
    refine wpList_nil ?_
    refine k57 _ _ ?_
    refine seqQ fun Q58 k58 z58 => ?_
    refine seqQ fun Q59 k59 z59 => ?_
    refine wp_region_lit ?_
    refine Y wn rfl (ya (v := .int .i64 0) rfl) ?_
    refine wpList_nil ?_
    refine k59 _ _ ?_
    refine blockQ fun Q60 qb60 => ?_
    obtain ⟨o36, go36, hM27⟩ := bs hM27
    have je36_0 : ∀ (x341 : List Int) (h340 : Hdr) (f : Nat → Value) (w : World), f 0 = h2.v → f 2 = .pointer (some ⟨b3, 0, none⟩) → f 3 = .pointer (some ⟨b4, 0, none⟩) → f 4 = .int .i64 x130 → f 5 = h340.v → St w0 (ros) (box b3 27 [hnil.v] :: row 22 (rS (rI .i64)) h128.v x129 :: box b4 27 [h128.v] :: row 3 (rI .i64) h340.v x341 :: rs) w → x341 = o36 → Q60 (.exit 2) (fr 51 f) w := by
      intro x341 h340 f w eje36_0_0 eje36_0_2 eje36_0_3 eje36_0_4 eje36_0_5 hst ho
      subst ho
      refine qb60 _ _ _ ?_
      refine k58 _ _ ?_
      refine wp_region_lit ?_
      refine Y wn rfl (yFb FL_27_0 (et rfl eje36_0_3)) ?_
      refine Y wn rfl (yLb (u := h128.v) O_25 (et rfl rfl) hst (mtR (mtR mhR)) rfl) ?_
      refine Y wn rfl (ym (v := h340.v) (et rfl eje36_0_5)) ?_
      replace hst := hst.pk 4 [3, 0, 0, 0] rfl
      replace hst := hst.fz
      refine YH wn rfl (rLt (n := 1) (l := [x341]) hst SL_25 [h340.v] (bp1 (et rfl rfl)) rfl rfl (mks1 (cs := [h340.v]) rfl (mkS mhF) mks0)) ?_
      clear hst
      intro h342 w hst
      obtain ⟨x344, gx344, hM27⟩ := bs hM27
      replace hst := hst.pk 3 [2, 0, 0] rfl
      refine YH wn rfl (rAp hst SL_25 (et rfl rfl) (et rfl rfl) (rdO (mtR mhR)) gx344) ?_
      clear hst
      intro h343 w hst
      refine Y wn rfl (yFb FL_27_0 (et rfl eje36_0_3)) ?_
      replace hst := hst.pk 4 [3, 0, 0, 0] rfl
      refine YT wn rfl (r_stb1 (vals' := [h343.v]) hst O_25 (et rfl rfl) (et rfl rfl) rfl rfl rfl rfl) ?_
      clear hst
      intro w hst
      refine wpList_nil ?_
      refine qb56 _ _ _ ?_
      refine k55 _ _ ?_
      refine wp_region_lit ?_
      refine Y wn rfl (ym (v := .int .i64 x130) (et rfl eje36_0_4)) ?_
      refine Y wn rfl (yadd (et rfl rfl) rfl) ?_
      refine Y wn rfl (ya (v := .int .i64 (wa .i64 x130 1)) (et rfl rfl)) ?_
      refine wpList_nil ?_
      obtain rfl := someI hM27
      exact n27 _ _ _ rfl ⟨_, _, _, _, rfl, rfl, eje36_0_0, eje36_0_2, eje36_0_3, rfl, ((hst.pk 4 [3, 1, 0] rfl).facts (allT allI))⟩
    replace hst := hst.rowNh 3 (rI .i64)
    refine loopQ (fun s a w => ∃ (x298 : List Int) (x299 : Int) (f : Nat → Value) (h297 : Hdr), (x298, x299) = s ∧ a = fr 51 f ∧ f 0 = h2.v ∧ f 2 = .pointer (some ⟨b3, 0, none⟩) ∧ f 3 = .pointer (some ⟨b4, 0, none⟩) ∧ f 4 = .int .i64 x130 ∧ f 5 = h297.v ∧ f 6 = .int .i64 x299 ∧ St w0 (ros) (box b3 27 [hnil.v] :: row 22 (rS (rI .i64)) h128.v x129 :: box b4 27 [h128.v] :: row 3 (rI .i64) h297.v x298 :: rs) w) go36 ⟨_, _, _, _, rfl, rfl, e27_0, e27_2, e27_3, e27_4, rfl, rfl, (hst.pk 4 [1, 1, 1, 0] rfl)⟩ ?_
    clear hst
    rintro _ _ w r36_ ⟨x298, x299, f, h297, rfl, rfl, e36_0, e36_2, e36_3, e36_4, e36_5, e36_6, hst⟩ hM36 ho36 Q100036 n36 zz36
    refine seqQ fun Q71 k71 z71 => ?_
    refine seqQ fun Q72 k72 z72 => ?_
    refine wp_region_lit ?_
    refine Y wn rfl (ym (v := .int .i64 x299) (et rfl e36_6)) ?_
    refine Y wn rfl (ym (v := h2.v) (et rfl e36_0)) ?_
    refine Y wn rfl (yLen SL_53 (et rfl rfl) hst (rdI q1)) ?_
    refine Y wn rfl (ylss (et rfl rfl) (et rfl rfl)) ?_
    refine wpList_nil ?_
    refine k72 _ _ ?_
    rcases iteS hM36 with ⟨c345, hM36⟩ | ⟨c345, hM36⟩
    · refine condT (et rfl rfl) (decide_eq_true c345) ?_
      refine wp_skip ?_
      refine k71 _ _ ?_
      refine seqQ fun Q73 k73 z73 => ?_
      refine blockQ fun Q74 qb74 => ?_
      refine seqQ fun Q75 k75 z75 => ?_
      refine wp_region_lit ?_
      refine Y wn rfl (ym (v := .int .i64 x130) (et rfl e36_4)) ?_
      refine Y wn rfl (ym (v := .int .i64 x299) (et rfl e36_6)) ?_
      refine Y wn rfl (yneq (et rfl rfl) (et rfl rfl)) ?_
      refine Y wn rfl (ym (v := .bool (!(decide (x130 = x299)))) (et rfl rfl)) ?_
      obtain ⟨r358, gr358, hM36⟩ := bs hM36
      refine joinW 17 (fun f w => f 0 = h2.v ∧ f 2 = .pointer (some ⟨b3, 0, none⟩) ∧ f 3 = .pointer (some ⟨b4, 0, none⟩) ∧ f 4 = .int .i64 x130 ∧ f 5 = h297.v ∧ f 6 = .int .i64 x299 ∧ f 39 = .bool r358 ∧ St w0 (ros) (box b3 27 [hnil.v] :: row 22 (rS (rI .i64)) h128.v x129 :: box b4 27 [h128.v] :: row 3 (rI .i64) h297.v x298 :: rs) w) (fun j38 => ?_) ?_
      · rcases iteS gr358 with ⟨c360, gr358⟩ | ⟨c360, gr358⟩
        · refine Gn (wx rfl rfl rfl (nF (decide_eq_true c360))) rfl ?_
          refine Gn (wx rfl rfl rfl (nF (decide_eq_true c360))) rfl ?_
          refine Gn (wx rfl rfl rfl (nF (decide_eq_true c360))) rfl ?_
          refine Gn (wx rfl rfl rfl (nF (decide_eq_true c360))) rfl ?_
          refine Gn (wx rfl rfl rfl (nF (decide_eq_true c360))) rfl ?_
          refine Gn (wx rfl rfl rfl (nF (decide_eq_true c360))) rfl ?_
          refine Gn (wx rfl rfl rfl (nF (decide_eq_true c360))) rfl ?_
          refine Gn (wx rfl rfl rfl (nF (decide_eq_true c360))) rfl ?_
          refine Gn (wxu rfl rfl rfl) rfl ?_
          refine Gn (wxu rfl rfl rfl) rfl ?_
          refine Gn (wxu rfl rfl rfl) rfl ?_
          refine Gn (wxu rfl rfl rfl) rfl ?_
          refine Gn (wxu rfl rfl rfl) rfl ?_
          refine Gn (wxu rfl rfl rfl) rfl ?_
          refine Gn (wxu rfl rfl rfl) rfl ?_
          refine Gn (wx rfl rfl rfl (nF (decide_eq_true c360))) rfl ?_
          refine Y wn rfl (ypf (v := .bool false) (et rfl rfl) (nF (decide_eq_true c360)) rfl) ?_
          obtain rfl := someI gr358
          exact j38 _ _ ⟨e36_0, e36_2, e36_3, e36_4, e36_5, e36_6, rfl, hst⟩
        · refine Y (wg rfl rfl rfl (nT (decide_eq_false c360))) rfl (ym (v := h2.v) (et rfl e36_0)) ?_
          refine Y (wg rfl rfl rfl (nT (decide_eq_false c360))) rfl (ym (v := .int .i64 x130) (et rfl e36_4)) ?_
          obtain ⟨x361, gx361, gr358⟩ := bs gr358
          refine Y (wg rfl rfl rfl (nT (decide_eq_false c360))) rfl (yIa SL_53 (et rfl rfl) (et rfl rfl) hst (rdI q1) gx361) ?_
          obtain ⟨h362, hst⟩ := iLs hst q1 gx361
          refine Y (wg rfl rfl rfl (nT (decide_eq_false c360))) rfl (yCt O_54 (et rfl rfl) hst (mtF mhF) rfl) ?_
          refine Y (wg rfl rfl rfl (nT (decide_eq_false c360))) rfl (ym (v := .int .i64 x299) (et rfl e36_6)) ?_
          obtain ⟨x363, gx363, gr358⟩ := bs gr358
          refine Y (wg rfl rfl rfl (nT (decide_eq_false c360))) rfl (yIa SL_54 (et rfl rfl) (et rfl rfl) hst (rdI mhF) gx363) ?_
          refine Y (wg rfl rfl rfl (nT (decide_eq_false c360))) rfl (yB O_4 (et rfl rfl) hst (rdI mhF) gx363) ?_
          refine Y (wg rfl rfl rfl (nT (decide_eq_false c360))) rfl (ym (v := .bool x363) (et rfl rfl)) ?_
          obtain ⟨r367, gr367, gr358⟩ := bs gr358
          refine joinW 8 (fun f w => f 0 = h2.v ∧ f 2 = .pointer (some ⟨b3, 0, none⟩) ∧ f 3 = .pointer (some ⟨b4, 0, none⟩) ∧ f 4 = .int .i64 x130 ∧ f 5 = h297.v ∧ f 6 = .int .i64 x299 ∧ f 22 = .bool (!(decide (x130 = x299))) ∧ f 23 = h2.v ∧ f 24 = .int .i64 x130 ∧ f 26 = h362.v ∧ f 27 = .int .i64 x299 ∧ f 29 = .bool x363 ∧ f 30 = .bool x363 ∧ f 38 = .bool r367 ∧ St w0 (imm rB h362.v x361 :: ros) (box b3 27 [hnil.v] :: row 22 (rS (rI .i64)) h128.v x129 :: box b4 27 [h128.v] :: row 3 (rI .i64) h297.v x298 :: rs) w) (fun j39 => ?_) ?_
          · rcases iteS gr367 with ⟨c369, gr367⟩ | ⟨c369, gr367⟩
            · refine Gn (wx rfl rfl rfl c369) rfl ?_
              refine Gn (wx rfl rfl rfl c369) rfl ?_
              refine Gn (wx rfl rfl rfl c369) rfl ?_
              refine Gn (wx rfl rfl rfl c369) rfl ?_
              refine Gn (wx rfl rfl rfl c369) rfl ?_
              refine Gn (wx rfl rfl rfl c369) rfl ?_
              refine Gn (wx rfl rfl rfl c369) rfl ?_
              refine Y (wg rfl rfl rfl (nT (decide_eq_false c360))) rfl (ypt (v := .bool true) (et rfl rfl) c369 rfl) ?_
              obtain rfl := someI gr367
              exact j39 _ _ ⟨e36_0, e36_2, e36_3, e36_4, e36_5, e36_6, rfl, rfl, rfl, rfl, rfl, rfl, rfl, rfl, (hst.facts (allC mhF (allT (allT allI))))⟩
            · refine Y (wg rfl rfl rfl (bfalse c369)) rfl (ym (v := h2.v) (et rfl e36_0)) ?_
              refine Y (wg rfl rfl rfl (bfalse c369)) rfl (ym (v := .int .i64 x299) (et rfl e36_6)) ?_
              obtain ⟨x370, gx370, gr367⟩ := bs gr367
              refine Y (wg rfl rfl rfl (bfalse c369)) rfl (yIa SL_53 (et rfl rfl) (et rfl rfl) hst (rdI (mtF (mtF q1))) gx370) ?_
              obtain ⟨h371, hst⟩ := iLs hst (mtF (mtF q1)) gx370
              refine Y (wg rfl rfl rfl (bfalse c369)) rfl (yCt O_54 (et rfl rfl) hst (mtF mhF) rfl) ?_
              refine Y (wg rfl rfl rfl (bfalse c369)) rfl (ym (v := .int .i64 x130) (et rfl e36_4)) ?_
              obtain ⟨x372, gx372, gr367⟩ := bs gr367
              refine Y (wg rfl rfl rfl (bfalse c369)) rfl (yIa SL_54 (et rfl rfl) (et rfl rfl) hst (rdI mhF) gx372) ?_
              refine Y (wg rfl rfl rfl (bfalse c369)) rfl (yB O_4 (et rfl rfl) hst (rdI mhF) gx372) ?_
              refine Y (wg rfl rfl rfl (nT (decide_eq_false c360))) rfl (ypf (v := .bool x372) (et rfl rfl) (bfalse c369) (et rfl rfl)) ?_
              obtain rfl := someI gr367
              exact j39 _ _ ⟨e36_0, e36_2, e36_3, e36_4, e36_5, e36_6, rfl, rfl, rfl, rfl, rfl, rfl, rfl, rfl, (hst.facts (allC (mtF (mtF mhF)) (allT (allT (allT (allT allI))))))⟩
          clear hst
          rintro f w ⟨e368_0, e368_2, e368_3, e368_4, e368_5, e368_6, e368_22, e368_23, e368_24, e368_26, e368_27, e368_29, e368_30, e368_38, hst⟩
          refine Y wn rfl (ypt (v := .bool r367) (et rfl e368_22) (nT (decide_eq_false c360)) (et rfl e368_38)) ?_
          obtain rfl := someI gr358
          exact j38 _ _ ⟨e368_0, e368_2, e368_3, e368_4, e368_5, e368_6, rfl, (hst.facts (allT allI))⟩
      clear hst
      rintro f w ⟨e359_0, e359_2, e359_3, e359_4, e359_5, e359_6, e359_39, hst⟩
      refine wpList_nil ?_
      refine k75 _ _ ?_
      have j40 : ∀ (x377 : List Int) (h376 : Hdr) (f : Nat → Value) (w : World), f 0 = h2.v → f 2 = .pointer (some ⟨b3, 0, none⟩) → f 3 = .pointer (some ⟨b4, 0, none⟩) → f 4 = .int .i64 x130 → f 5 = h376.v → f 6 = .int .i64 x299 → St w0 (ros) (box b3 27 [hnil.v] :: row 22 (rS (rI .i64)) h128.v x129 :: box b4 27 [h128.v] :: row 3 (rI .i64) h376.v x377 :: rs) w → sparseref12_FromTable_j40 x299 x377 = some r36_ → Q74 .normal (fr 51 f) w := by
        intro x377 h376 f w ej40_0 ej40_2 ej40_3 ej40_4 ej40_5 ej40_6 hst hM
        refine qb74 _ _ _ ?_
        refine k73 _ _ ?_
        refine wp_region_lit ?_
        refine Y wn rfl (ym (v := .int .i64 x299) (et rfl ej40_6)) ?_
        refine Y wn rfl (yadd (et rfl rfl) rfl) ?_
        refine Y wn rfl (ya (v := .int .i64 (wa .i64 x299 1)) (et rfl rfl)) ?_
        refine wpList_nil ?_
        obtain rfl := someI hM
        exact n36 _ _ _ rfl ⟨_, _, _, _, rfl, rfl, ej40_0, ej40_2, ej40_3, ej40_4, ej40_5, rfl, hst⟩
      rcases iteS hM36 with ⟨c378, hM36⟩ | ⟨c378, hM36⟩
      · refine condT (et rfl e359_39) c378 ?_
        refine wp_region_lit ?_
        refine Y wn rfl (ym (v := h297.v) (et rfl e359_5)) ?_
        refine Y wn rfl (ym (v := .int .i64 x299) (et rfl e359_6)) ?_
        refine YH wn rfl (rLt (n := 1) (l := [x299]) hst SL_22 [.int .i64 x299] (bp1 (et rfl rfl)) rfl rfl (mks1 (cs := [.int .i64 x299]) rfl mkI mks0)) ?_
        clear hst
        intro h379 w hst
        obtain ⟨x381, gx381, hM36⟩ := bs hM36
        replace hst := hst.pk 5 [4, 0, 0, 0, 0] rfl
        refine YH wn rfl (rAp hst SL_22 (et rfl rfl) (et rfl rfl) (rdO (mtR mhR)) gx381) ?_
        clear hst
        intro h380 w hst
        refine Y wn rfl (ya (v := h380.v) (et rfl rfl)) ?_
        refine wpList_nil ?_
        exact j40 _ _ _ _ e359_0 e359_2 e359_3 e359_4 rfl e359_6 (hst.pk 5 [2, 2, 2, 0] rfl) hM36
      · refine condF (et rfl e359_39) (bfalse c378) ?_
        refine wp_skip ?_
        exact j40 _ _ _ _ e359_0 e359_2 e359_3 e359_4 e359_5 e359_6 hst hM36
    · refine condF (et rfl rfl) (decide_eq_false c345) ?_
      refine wp_exit ?_
      refine z71 _ _ _ rfl ?_
      obtain rfl := someI hM36
      refine zz36 _ _ _ _ rfl rfl ?_
      exact je36_0 _ _ _ _ e36_0 e36_2 e36_3 e36_4 e36_5 hst (ho36 _ rfl)
  · refine condF (et rfl rfl) (decide_eq_false c259) ?_
    refine wp_exit ?_
    refine z53 _ _ _ rfl ?_
    obtain rfl := someI hM27
    refine zz27 _ _ _ _ rfl rfl ?_
    exact je27_0 _ _ _ _ e27_2 e27_3 hst (ho27 _ rfl)

theorem sparsemake_Graph_ok {w0 : World} {ros : List Fact} {rs : List Res} {w : World} {x1 : Int} {x2 : List Int} {h3 : Hdr} {out : (List (List Int))} (hM : sparsemake_Graph x1 x2 = some out) (q1 : imm (rI .i64) h3.v x2 ∈ ros) (hst : St w0 ros (rs) w) :
    Calls Try.prog 12 #[.int .i64 x1, h3.v] w (fun e w => ∃ (h100001 : Hdr), e = .returned (.agg #[h100001.v]) ∧ St w0 (ros) (row 22 (rS (rI .i64)) h100001.v out :: rs) w) := by
  refine enterQ Try.func12 rfl Try.ntmps12 rfl fun Q hQ => ?_
  refine seqQ fun Q1 k1 z1 => ?_
  refine wp_region_lit ?_
  refine YB wn rfl (rAl hst ZT_27) ?_
  clear hst
  intro b4 w hst
  refine wpList_nil ?_
  refine k1 _ _ ?_
  refine seqQ fun Q2 k2 z2 => ?_
  refine wp_region_lit ?_
  refine Y wn rfl (ya (v := hnil.v) rfl) ?_
  refine wpList_nil ?_
  refine k2 _ _ ?_
  refine seqQ fun Q3 k3 z3 => ?_
  refine seqQ fun Q4 k4 z4 => ?_
  refine wp_region_lit ?_
  refine Y wn rfl (ya (v := .int .i64 0) rfl) ?_
  refine wpList_nil ?_
  refine k4 _ _ ?_
  refine blockQ fun Q5 qb5 => ?_
  obtain ⟨o1, go1, hM⟩ := bs hM
  have je1_0 : ∀ (x33 : List (List Bool)) (h31 : Hdr) (y32 : List Hdr) (f : Nat → Value) (w : World), f 0 = .int .i64 x1 → f 1 = h3.v → f 4 = .pointer (some ⟨b4, 0, none⟩) → f 5 = h31.v → St w0 (ros) (box b4 27 [hnil.v] :: row 54 rH h31.v y32 :: fam 4 rB y32 x33 :: rs) w → x33 = o1 → Q5 (.exit 0) (fr 48 f) w := by
    intro x33 h31 y32 f w eje1_0_0 eje1_0_1 eje1_0_4 eje1_0_5 hst ho
    subst ho
    refine qb5 _ _ _ ?_
    refine k3 _ _ ?_
    refine seqQ fun Q14 k14 z14 => ?_
    refine seqQ fun Q15 k15 z15 => ?_
    refine wp_region_lit ?_
    refine Y wn rfl (ya (v := .int .i64 0) rfl) ?_
    refine wpList_nil ?_
    refine k15 _ _ ?_
    refine blockQ fun Q16 qb16 => ?_
    obtain ⟨o4, go4, hM⟩ := bs hM
    have je4_0 : ∀ (x60 : List (List Bool)) (f : Nat → Value) (w : World), f 4 = .pointer (some ⟨b4, 0, none⟩) → f 5 = h31.v → St w0 (ros) (box b4 27 [hnil.v] :: row 54 rH h31.v y32 :: fam 4 rB y32 x60 :: rs) w → x60 = o4 → Q16 (.exit 2) (fr 48 f) w := by
      intro x60 f w eje4_0_4 eje4_0_5 hst ho
      subst ho
      refine qb16 _ _ _ ?_
      refine k14 _ _ ?_
      refine seqQ fun Q25 k25 z25 => ?_
      refine wp_region_lit ?_
      refine Y wn rfl (ym (v := h31.v) (et rfl eje4_0_5)) ?_
      obtain ⟨r61, gr61, hM⟩ := bs hM
      replace hst := hst.pk 3 [1, 1, 0] rfl
      replace hst := hst.ffz
      refine Yc wn rfl (yCall FN_36 (a1 (et rfl rfl))) (sparseref12_FromTable_ok (hM := gr61) (hst := hst) (q1 := mhF)) ?_
      clear hst
      rintro _ w ⟨h62, rfl, hst⟩
      refine ⟨_, rfl, ?_⟩
      replace hst := hst.pk 2 [1, 0] rfl
      refine YT wn rfl (r_stbn (vals' := [h62.v]) (us := [h62.v]) hst ST_27 (et rfl eje4_0_4) (et rfl rfl) rfl rfl (one_of rfl) rfl) ?_
      clear hst
      intro w hst
      refine wpList_nil ?_
      refine k25 _ _ ?_
      refine wp_ret ?_
      obtain rfl := someI hM
      exact hQ _ _ _ (fin1r Try.results12 (rcs2 rfl eje4_0_4 hst mhR ST_27 rfl) ⟨_, rfl, ((hst.pk 2 [1] rfl).facts (allT allI))⟩)
    refine loopQ (fun s a w => ∃ (x45 : List (List Bool)) (x46 : Int) (f : Nat → Value), (x45, x46) = s ∧ a = fr 48 f ∧ f 0 = .int .i64 x1 ∧ f 1 = h3.v ∧ f 4 = .pointer (some ⟨b4, 0, none⟩) ∧ f 5 = h31.v ∧ f 7 = .int .i64 x46 ∧ St w0 (ros) (box b4 27 [hnil.v] :: row 54 rH h31.v y32 :: fam 4 rB y32 x45 :: rs) w) go4 ⟨_, _, _, rfl, rfl, eje1_0_0, eje1_0_1, eje1_0_4, eje1_0_5, rfl, hst⟩ ?_
    clear hst
    rintro _ _ w r4_ ⟨x45, x46, f, rfl, rfl, e4_0, e4_1, e4_4, e4_5, e4_7, hst⟩ hM4 ho4 Q100004 n4 zz4
    refine seqQ fun Q26 k26 z26 => ?_
    refine seqQ fun Q27 k27 z27 => ?_
    refine wp_region_lit ?_
    refine Y wn rfl (ym (v := .int .i64 x46) (et rfl e4_7)) ?_
    refine Y wn rfl (yadd (et rfl rfl) rfl) ?_
    refine Y wn rfl (ym (v := h3.v) (et rfl e4_1)) ?_
    refine Y wn rfl (yLen SL_22 (et rfl rfl) hst (rdI q1)) ?_
    refine Y wn rfl (ylss (et rfl rfl) (et rfl rfl)) ?_
    refine Y wn rfl (ym (v := .bool (decide ((wa .i64 x46 1) < (x2.length : Int)))) (et rfl rfl)) ?_
    refine joinW 3 (fun f w => f 0 = .int .i64 x1 ∧ f 1 = h3.v ∧ f 4 = .pointer (some ⟨b4, 0, none⟩) ∧ f 5 = h31.v ∧ f 7 = .int .i64 x46 ∧ f 26 = .bool ((decide ((wa .i64 x46 1) < (x2.length : Int))) && (decide ((0 : Int) < x1))) ∧ St w0 (ros) (box b4 27 [hnil.v] :: row 54 rH h31.v y32 :: fam 4 rB y32 x45 :: rs) w) (fun j5 => ?_) ?_
    · rcases Bool.eq_false_or_eq_true (decide ((wa .i64 x46 1) < (x2.length : Int))) with c64 | c64
      · refine Y (wg rfl rfl rfl c64) rfl (ym (v := .int .i64 x1) (et rfl e4_0)) ?_
        refine Y (wg rfl rfl rfl c64) rfl (ygtr (et rfl rfl) rfl) ?_
        refine Y wn rfl (ypt (v := .bool (decide ((0 : Int) < x1))) (et rfl rfl) c64 (et rfl rfl)) ?_
        exact j5 _ _ ⟨e4_0, e4_1, e4_4, e4_5, e4_7, (congrArg Value.bool (andT c64)), hst⟩
      · refine Gn (wx rfl rfl rfl c64) rfl ?_
        refine Gn (wx rfl rfl rfl c64) rfl ?_
        refine Y wn rfl (ypf (v := .bool false) (et rfl rfl) c64 rfl) ?_
        exact j5 _ _ ⟨e4_0, e4_1, e4_4, e4_5, e4_7, (congrArg Value.bool (andF c64)), hst⟩
    clear hst
    rintro f w ⟨e63_0, e63_1, e63_4, e63_5, e63_7, e63_26, hst⟩
    refine wpList_nil ?_
    refine k27 _ _ ?_
    rcases iteS hM4 with ⟨c65, hM4⟩ | ⟨c65, hM4⟩
    · refine condT (et rfl e63_26) c65 ?_
      refine wp_skip ?_
      refine k26 _ _ ?_
      refine seqQ fun Q28 k28 z28 => ?_
      refine blockQ fun Q29 qb29 => ?_
      obtain ⟨x66, gx66, hM4⟩ := bs hM4
      obtain ⟨r67, gr67, hM4⟩ := bs hM4
      obtain ⟨x68, gx68, hM4⟩ := bs hM4
      obtain ⟨x70, gx70, hM4⟩ := bs hM4
      obtain ⟨r71, gr71, hM4⟩ := bs hM4
      obtain ⟨x72, gx72, hM4⟩ := bs hM4
      obtain ⟨x73, gx73, hM4⟩ := bs hM4
      refine wp_drawR [0, 0, 0, 6, 14, 0, 62, 127, 255, 0, 0, 1024, 3584, 7680, 0, 32382, 65535, 131071] [6, 15, 17] 3 folM (by kernel_rfl) (by kernel_rfl) (by kernel_rfl) ?_
      replace hst := hst.drew
      refine DRn (l1 := [0, 1, 2, 3, 4, 5, 9, 10, 11, 12, 13, 14]) (l2 := []) (lc := [6]) (by kernel_rfl) (by kernel_rfl) (by kernel_rfl) ?_
      refine Ry rfl rfl wn (ym (v := h31.v) (et rfl e63_5)) ?_
      refine Ry rfl rfl wn (ym (v := h3.v) (et rfl e63_1)) ?_
      refine Ry rfl rfl wn (ym (v := .int .i64 x46) (et rfl e63_7)) ?_
      refine Ry rfl rfl wn (yIa SL_22 (et rfl rfl) (et rfl rfl) hst (rdI q1) gx66) ?_
      refine Ry rfl rfl wn (yI O_3 (et rfl rfl) hst (rdI q1) gx66) ?_
      refine Ry rfl rfl wn (ym (v := .int .i64 x1) (et rfl e63_0)) ?_
      refine Ry rfl rfl wn (ym (v := h3.v) (et rfl e63_1)) ?_
      refine Ry rfl rfl wn (ym (v := .int .i64 x46) (et rfl e63_7)) ?_
      refine Ry rfl rfl wn (yadd (et rfl rfl) rfl) ?_
      refine Ry rfl rfl wn (yIa SL_22 (et rfl rfl) (et rfl rfl) hst (rdI q1) gx70) ?_
      refine Ry rfl rfl wn (yI O_3 (et rfl rfl) hst (rdI q1) gx70) ?_
      refine Ry rfl rfl wn (ym (v := .int .i64 x1) (et rfl e63_0)) ?_
      refine Rn QSn ?_
      refine Lc rfl ?_ LAn
      refine Lk wn (yCall FN_11 (a2 (et rfl rfl) (et rfl rfl))) (sparsekit_Place_ok (hM := gr67) (hst := hst) ) ?_
      clear hst
      rintro _ w ⟨rfl, hst⟩
      refine ⟨_, rfl, ?_⟩
      refine DRn (l1 := [7, 8]) (l2 := [0, 9, 10, 11, 12, 13, 14]) (lc := [15]) (by kernel_rfl) (by kernel_rfl) (by kernel_rfl) ?_
      obtain ⟨h69, gh69⟩ := hst.famI (mtR (mtR mhR)) gx68
      refine Ry rfl rfl wn (yIa SLH_53 (et rfl rfl) (et rfl rfl) hst (rdO (mtR mhR)) gh69) ?_
      refine Ry rfl rfl wn (yF1 O_54 (et rfl rfl) hst (rdO (mtR mhR)) gh69 rfl) ?_
      refine Rn (Sy rfl rfl wn (ym (v := h31.v) (et rfl e63_5)) rfl (Sy rfl rfl wn (ym (v := h3.v) (et rfl e63_1)) rfl (Sy rfl rfl wn (ym (v := .int .i64 x46) (et rfl e63_7)) rfl (Sy rfl rfl wn (yadd (et rfl rfl) rfl) rfl (Sy rfl rfl wn (yIa SL_22 (et rfl rfl) (et rfl rfl) hst (rdI q1) gx70) rfl (Sy rfl rfl wn (yI O_3 (et rfl rfl) hst (rdI q1) gx70) rfl (Sy rfl rfl wn (ym (v := .int .i64 x1) (et rfl e63_0)) rfl QSn))))))) ?_
      refine Lc rfl ?_ LAn
      refine Lk wn (yCall FN_11 (a2 (et rfl rfl) (et rfl rfl))) (sparsekit_Place_ok (hM := gr71) (hst := hst) ) ?_
      clear hst
      rintro _ w ⟨rfl, hst⟩
      refine ⟨_, rfl, ?_⟩
      refine DRn (l1 := [16]) (l2 := [0, 7, 8]) (lc := [17]) (by kernel_rfl) (by kernel_rfl) (by kernel_rfl) ?_
      refine Ry rfl rfl wn (yIs SL_54 (et rfl rfl) (et rfl rfl) hst (rdF (mtR (mtR mhR)) gh69 gx68) gx72) ?_
      refine Rn (Sy rfl rfl wn (ym (v := h31.v) (et rfl e63_5)) rfl (Sy rfl rfl wn (yIa SLH_53 (et rfl rfl) (et rfl rfl) hst (rdO (mtR mhR)) gh69) rfl (Sy rfl rfl wn (yF1 O_54 (et rfl rfl) hst (rdO (mtR mhR)) gh69 rfl) rfl QSn))) ?_
      refine Lc rfl ?_ LAn
      replace hst := hst.pk 3 [2, 0, 0] rfl
      refine LT wn (r_sti (cs := [.bool true]) (hst.foc gh69 gx68) O_4 rfl (et rfl rfl) rfl rfl mkB gx72) ?_
      clear hst
      intro w hst
      replace hst := hst.unfoc' gh69 gx73
      refine DRz (l1 := []) (l2 := []) (by kernel_rfl) (by kernel_rfl) ?_
      refine Rn QSn ?_
      refine qb29 _ _ _ ?_
      refine k28 _ _ ?_
      refine wp_region_lit ?_
      refine Y wn rfl (ym (v := .int .i64 x46) (et rfl e63_7)) ?_
      refine Y wn rfl (yadd (et rfl rfl) rfl) ?_
      refine Y wn rfl (ya (v := .int .i64 (wa .i64 x46 2)) (et rfl rfl)) ?_
      refine wpList_nil ?_
      obtain rfl := someI hM4
      exact n4 _ _ _ rfl ⟨_, _, _, rfl, rfl, e63_0, e63_1, e63_4, e63_5, rfl, (hst.pk 3 [1, 1, 0] rfl)⟩
    · refine condF (et rfl e63_26) (bfalse c65) ?_
      refine wp_exit ?_
      refine z26 _ _ _ rfl ?_
      obtain rfl := someI hM4
      refine zz4 _ _ _ _ rfl rfl ?_
      exact je4_0 _ _ _ e63_4 e63_5 hst (ho4 _ rfl)
  replace hst := ((hst.rowNh 54 rH).fNew 4 rB).pk 2 [1, 0] rfl
  refine loopQ (fun s a w => ∃ (x16 : List (List Bool)) (x17 : Int) (f : Nat → Value) (h14 : Hdr) (y15 : List Hdr), (x16, x17) = s ∧ a = fr 48 f ∧ f 0 = .int .i64 x1 ∧ f 1 = h3.v ∧ f 4 = .pointer (some ⟨b4, 0, none⟩) ∧ f 5 = h14.v ∧ f 6 = .int .i64 x17 ∧ St w0 (ros) (box b4 27 [hnil.v] :: row 54 rH h14.v y15 :: fam 4 rB y15 x16 :: rs) w) go1 ⟨_, _, _, _, _, rfl, rfl, rfl, rfl, rfl, rfl, rfl, (hst.pk 3 [2, 0, 0] rfl)⟩ ?_
  clear hst
  rintro _ _ w r1_ ⟨x16, x17, f, h14, y15, rfl, rfl, e1_0, e1_1, e1_4, e1_5, e1_6, hst⟩ hM1 ho1 Q100001 n1 zz1
  refine seqQ fun Q30 k30 z30 => ?_
  refine seqQ fun Q31 k31 z31 => ?_
  refine wp_region_lit ?_
  refine Y wn rfl (ym (v := .int .i64 x17) (et rfl e1_6)) ?_
  refine Y wn rfl (ym (v := .int .i64 x1) (et rfl e1_0)) ?_
  refine Y wn rfl (ylss (et rfl rfl) (et rfl rfl)) ?_
  refine wpList_nil ?_
  refine k31 _ _ ?_
  rcases iteS hM1 with ⟨c74, hM1⟩ | ⟨c74, hM1⟩
  · refine condT (et rfl rfl) (decide_eq_true c74) ?_
    refine wp_skip ?_
    refine k30 _ _ ?_
    refine seqQ fun Q32 k32 z32 => ?_
    refine blockQ fun Q33 qb33 => ?_
    refine wp_region_lit ?_
    refine Y wn rfl (ym (v := h14.v) (et rfl e1_5)) ?_
    refine Y wn rfl (ym (v := .int .i64 x1) (et rfl e1_0)) ?_
    obtain ⟨x77, gx77, hM1⟩ := bs hM1
    refine YH wn rfl (rMk hst SL_54 (et rfl rfl) gx77) ?_
    clear hst
    intro h75 w hst
    refine YH wn rfl (rLt (n := 1) (l := [h75]) hst SLH_53 [h75.v] (bp1 (et rfl rfl)) rfl rfl (mks1 rfl (mkF rfl) mks0)) ?_
    clear hst
    intro h78 w hst
    obtain ⟨x81, gx81, hM1⟩ := bs hM1
    replace hst := hst.pk 4 [3, 0, 0, 0] rfl
    obtain ⟨y82, ey82, gy82⟩ := app_rep gx81 (hst.famL (mtR (mtR (mtR (mtR mhR))))) (show [h75].length = [x77].length from rfl)
    refine YH wn rfl (rAp hst SLH_53 (et rfl rfl) (et rfl rfl) (rdO (mtR mhR)) gy82) ?_
    clear hst
    intro h80 w hst
    replace hst := hst.pk 5 [2, 3, 0, 0, 0] rfl
    replace hst := hst.fPush
    rw [← ey82, ← (app_some gx81).1] at hst
    refine Y wn rfl (ya (v := h80.v) (et rfl rfl)) ?_
    refine wpList_nil ?_
    refine qb33 _ _ _ ?_
    refine k32 _ _ ?_
    refine wp_region_lit ?_
    refine Y wn rfl (ym (v := .int .i64 x17) (et rfl e1_6)) ?_
    refine Y wn rfl (yadd (et rfl rfl) rfl) ?_
    refine Y wn rfl (ya (v := .int .i64 (wa .i64 x17 1)) (et rfl rfl)) ?_
    refine wpList_nil ?_
    obtain rfl := someI hM1
    exact n1 _ _ _ rfl ⟨_, _, _, _, _, rfl, rfl, e1_0, e1_1, e1_4, rfl, rfl, (hst.pk 4 [3, 1, 0] rfl)⟩
  · refine condF (et rfl rfl) (decide_eq_false c74) ?_
    refine wp_exit ?_
    refine z30 _ _ _ rfl ?_
    obtain rfl := someI hM1
    refine zz1 _ _ _ _ rfl rfl ?_
    exact je1_0 _ _ _ _ _ e1_0 e1_1 e1_4 e1_5 hst (ho1 _ rfl)

theorem sparselaw19_EtreeAncestors_ok {w0 : World} {ros : List Fact} {rs : List Res} {w : World} {x1 : Int} {x2 : List Int} {h3 : Hdr} {out : Bool} (hM : sparselaw19_EtreeAncestors x1 x2 = some out) (q1 : imm (rI .i64) h3.v x2 ∈ ros) (hst : St w0 ros (rs) w) :
    Calls Try.prog 3 #[.int .i64 x1, h3.v] w (fun e w => e = .returned (.bool out) ∧ St w0 (ros) (rs) w) := by
  refine enterQ Try.func3 rfl Try.ntmps3 rfl fun Q hQ => ?_
  refine seqQ fun Q1 k1 z1 => ?_
  refine wp_region_lit ?_
  refine Y wn rfl (ya (v := .bool false) rfl) ?_
  refine wpList_nil ?_
  refine k1 _ _ ?_
  refine seqQ fun Q2 k2 z2 => ?_
  refine seqQ fun Q3 k3 z3 => ?_
  refine wp_region_lit ?_
  refine Y wn rfl (ym (v := h3.v) (et rfl rfl)) ?_
  refine Y wn rfl (yLen SL_22 (et rfl rfl) hst (rdI q1)) ?_
  refine Y wn rfl (ygtr (et rfl rfl) rfl) ?_
  refine wpList_nil ?_
  refine k3 _ _ ?_
  rcases iteS hM with ⟨c4, hM⟩ | ⟨c4, hM⟩
  · refine condT (et rfl rfl) (decide_eq_true c4) ?_
    refine seqQ fun Q4 k4 z4 => ?_
    refine wp_region_lit ?_
    obtain ⟨r5, gr5, hM⟩ := bs hM
    refine Yc wn rfl (yCall FN_10 a0) (sparselaw19_awake_ok (hM := gr5) (hst := hst) ) ?_
    clear hst
    rintro _ w ⟨rfl, hst⟩
    refine ⟨_, rfl, ?_⟩
    refine Y wn rfl (ya (v := .bool r5) (et rfl rfl)) ?_
    refine wpList_nil ?_
    refine k4 _ _ ?_
    refine wp_ret ?_
    refine z2 _ _ _ rfl ?_
    obtain rfl := someI hM
    exact hQ _ _ _ (fin1r Try.results3 ⟨rfl, rfl⟩ ⟨rfl, hst⟩)
  · refine condF (et rfl rfl) (decide_eq_false c4) ?_
    refine wp_skip ?_
    refine k2 _ _ ?_
    refine seqQ fun Q5 k5 z5 => ?_
    refine wp_region_lit ?_
    refine Y wn rfl (ym (v := .int .i64 x1) (et rfl rfl)) ?_
    obtain ⟨r6, gr6, hM⟩ := bs hM
    refine Yc wn rfl (yCall FN_11 (a2 (et rfl rfl) rfl)) (sparsekit_Place_ok (hM := gr6) (hst := hst) ) ?_
    clear hst
    rintro _ w ⟨rfl, hst⟩
    refine ⟨_, rfl, ?_⟩
    refine Y wn rfl (ya (v := .int .i64 r6) (et rfl rfl)) ?_
    refine wpList_nil ?_
    refine k5 _ _ ?_
    refine seqQ fun Q6 k6 z6 => ?_
    refine wp_region_lit ?_
    refine Y wn rfl (ym (v := .int .i64 r6) (et rfl rfl)) ?_
    refine Y wn rfl (ym (v := h3.v) (et rfl rfl)) ?_
    obtain ⟨r7, gr7, hM⟩ := bs hM
    refine Yc wn rfl (yCall FN_12 (a2 (et rfl rfl) (et rfl rfl))) (sparsemake_Graph_ok (hM := gr7) (hst := hst) (q1 := q1)) ?_
    clear hst
    rintro _ w ⟨h8, rfl, hst⟩
    refine ⟨_, rfl, ?_⟩
    refine YB wn rfl (rAl hst ZT_27) ?_
    clear hst
    intro b9 w hst
    refine YT wn rfl (r_stbn (vals' := [h8.v]) (us := [h8.v]) hst ST_27 (et rfl rfl) (et rfl rfl) rfl rfl (one_of rfl) rfl) ?_
    clear hst
    intro w hst
    refine wpList_nil ?_
    refine k6 _ _ ?_
    refine seqQ fun Q7 k7 z7 => ?_
    refine wp_region_lit ?_
    refine Y wn rfl (yLbs (us := [h8.v]) ST_27 (et rfl rfl) hst mhR rfl rfl) ?_
    obtain ⟨r10, gr10, hM⟩ := bs hM
    replace hst := hst.pk 2 [1, 0] rfl
    replace hst := hst.fz
    refine Yc wn rfl (yCall FN_13 (a1 (et rfl rfl))) (etree_Parent_ok (hM := gr10) (hst := hst) (q1 := mhF)) ?_
    clear hst
    rintro _ w ⟨h11, rfl, hst⟩
    refine ⟨_, rfl, ?_⟩
    refine Y wn rfl (ym (v := .tuple #[h11.v, .int .i64 r10.2]) (et rfl rfl)) ?_
    refine Y wn rfl (yx (v := h11.v) (et rfl rfl) rfl) ?_
    refine Y wn rfl (yx (v := .int .i64 r10.2) (et rfl rfl) rfl) ?_
    refine Y wn rfl (ya (v := h11.v) (et rfl rfl)) ?_
    refine Y wn rfl (ya (v := .int .i64 r10.2) (et rfl rfl)) ?_
    refine wpList_nil ?_
    refine k7 _ _ ?_
    refine seqQ fun Q8 k8 z8 => ?_
    refine seqQ fun Q9 k9 z9 => ?_
    refine wp_region_lit ?_
    refine Y wn rfl (ym (v := .int .i64 r10.2) (et rfl rfl)) ?_
    refine Y wn rfl (yneq (et rfl rfl) rfl) ?_
    refine Y wn rfl (ym (v := .bool (!(decide (r10.2 = 0)))) (et rfl rfl)) ?_
    refine joinW 5 (fun f w => f 0 = .int .i64 r6 ∧ f 5 = .pointer (some ⟨b9, 0, none⟩) ∧ f 6 = h11.v ∧ f 33 = .bool ((!(decide (r10.2 = 0))) || (!(decide ((r10.1.length : Int) = r6)))) ∧ St w0 (imm (rS (rI .i64)) h8.v r7 :: ros) (box b9 27 [h8.v] :: row 3 (rI .i64) h11.v r10.1 :: rs) w) (fun j1 => ?_) ?_
    · rcases Bool.eq_false_or_eq_true (!(decide (r10.2 = 0))) with c13 | c13
      · refine Gn (wx rfl rfl rfl c13) rfl ?_
        refine Gn (wx rfl rfl rfl c13) rfl ?_
        refine Gn (wx rfl rfl rfl c13) rfl ?_
        refine Gn (wx rfl rfl rfl c13) rfl ?_
        refine Y wn rfl (ypt (v := .bool true) (et rfl rfl) c13 rfl) ?_
        exact j1 _ _ ⟨rfl, rfl, rfl, (congrArg Value.bool (orT c13)), (hst.pk 2 [1, 0] rfl)⟩
      · refine Y (wg rfl rfl rfl c13) rfl (ym (v := h11.v) (et rfl rfl)) ?_
        refine Y (wg rfl rfl rfl c13) rfl (yLen SL_22 (et rfl rfl) hst (rdO mhR)) ?_
        refine Y (wg rfl rfl rfl c13) rfl (ym (v := .int .i64 r6) (et rfl rfl)) ?_
        refine Y (wg rfl rfl rfl c13) rfl (yneq (et rfl rfl) (et rfl rfl)) ?_
        refine Y wn rfl (ypf (v := .bool (!(decide ((r10.1.length : Int) = r6)))) (et rfl rfl) c13 (et rfl rfl)) ?_
        exact j1 _ _ ⟨rfl, rfl, rfl, (congrArg Value.bool (orF c13)), (hst.pk 2 [1, 0] rfl)⟩
    clear hst
    rintro f w ⟨e12_0, e12_5, e12_6, e12_33, hst⟩
    refine Y wn rfl (ym (v := .bool ((!(decide (r10.2 = 0))) || (!(decide ((r10.1.length : Int) = r6))))) (et rfl e12_33)) ?_
    obtain ⟨r15, gr15, hM⟩ := bs hM
    refine joinW 4 (fun f w => f 0 = .int .i64 r6 ∧ f 5 = .pointer (some ⟨b9, 0, none⟩) ∧ f 6 = h11.v ∧ f 38 = .bool r15 ∧ St w0 (imm (rS (rI .i64)) h8.v r7 :: imm (rI .i64) h11.v r10.1 :: ros) (box b9 27 [h8.v] :: rs) w) (fun j2 => ?_) ?_
    · rcases iteS gr15 with ⟨c17, gr15⟩ | ⟨c17, gr15⟩
      · refine Gn (wx rfl rfl rfl c17) rfl ?_
        refine Gn (wx rfl rfl rfl c17) rfl ?_
        refine Gn (wx rfl rfl rfl c17) rfl ?_
        refine Y wn rfl (ypt (v := .bool true) (et rfl rfl) c17 rfl) ?_
        obtain rfl := someI gr15
        replace hst := hst.pk 2 [1, 0] rfl
        replace hst := hst.fz
        exact j2 _ _ ⟨e12_0, e12_5, e12_6, rfl, (hst.facts (allC (mtF mhF) (allC mhF (allT (allT allI)))))⟩
      · refine Y (wg rfl rfl rfl (bfalse c17)) rfl (ym (v := h11.v) (et rfl e12_6)) ?_
        obtain ⟨r18, gr18, gr15⟩ := bs gr15
        replace hst := hst.pk 2 [1, 0] rfl
        replace hst := hst.fz
        refine Yc (wg rfl rfl rfl (bfalse c17)) rfl (yCall FN_14 (a1 (et rfl rfl))) (etree_Check_ok (hM := gr18) (hst := hst) (q1 := mhF)) ?_
        clear hst
        rintro _ w ⟨rfl, hst⟩
        refine ⟨_, rfl, ?_⟩
        refine Y (wg rfl rfl rfl (bfalse c17)) rfl (yneq (et rfl rfl) rfl) ?_
        refine Y wn rfl (ypf (v := .bool (!(decide (r18 = 0)))) (et rfl rfl) (bfalse c17) (et rfl rfl)) ?_
        obtain rfl := someI gr15
        exact j2 _ _ ⟨e12_0, e12_5, e12_6, rfl, (hst.facts (allC (mtF mhF) (allC mhF (allT (allT allI)))))⟩
    clear hst
    rintro f w ⟨e16_0, e16_5, e16_6, e16_38, hst⟩
    refine Y wn rfl (ym (v := .bool r15) (et rfl e16_38)) ?_
    obtain ⟨r20, gr20, hM⟩ := bs hM
    refine joinW 4 (fun f w => f 0 = .int .i64 r6 ∧ f 5 = .pointer (some ⟨b9, 0, none⟩) ∧ f 6 = h11.v ∧ f 43 = .bool r20 ∧ St w0 (imm (rS (rI .i64)) h8.v r7 :: imm (rI .i64) h11.v r10.1 :: ros) (box b9 27 [h8.v] :: rs) w) (fun j3 => ?_) ?_
    · rcases iteS gr20 with ⟨c22, gr20⟩ | ⟨c22, gr20⟩
      · refine Gn (wx rfl rfl rfl c22) rfl ?_
        refine Gn (wx rfl rfl rfl c22) rfl ?_
        refine Gn (wx rfl rfl rfl c22) rfl ?_
        refine Y wn rfl (ypt (v := .bool true) (et rfl rfl) c22 rfl) ?_
        obtain rfl := someI gr20
        exact j3 _ _ ⟨e16_0, e16_5, e16_6, rfl, hst⟩
      · refine Y (wg rfl rfl rfl (bfalse c22)) rfl (ym (v := h11.v) (et rfl e16_6)) ?_
        obtain ⟨r23, gr23, gr20⟩ := bs gr20
        refine Yc (wg rfl rfl rfl (bfalse c22)) rfl (yCall FN_15 (a1 (et rfl rfl))) (sparseref19_Check_ok (hM := gr23) (hst := hst) (q1 := (mtF mhF))) ?_
        clear hst
        rintro _ w ⟨rfl, hst⟩
        refine ⟨_, rfl, ?_⟩
        refine Y (wg rfl rfl rfl (bfalse c22)) rfl (yneq (et rfl rfl) rfl) ?_
        refine Y wn rfl (ypf (v := .bool (!(decide (r23 = 0)))) (et rfl rfl) (bfalse c22) (et rfl rfl)) ?_
        obtain rfl := someI gr20
        exact j3 _ _ ⟨e16_0, e16_5, e16_6, rfl, hst⟩
    clear hst
    rintro f w ⟨e21_0, e21_5, e21_6, e21_43, hst⟩
    refine wpList_nil ?_
    refine k9 _ _ ?_
    rcases iteS hM with ⟨c24, hM⟩ | ⟨c24, hM⟩
    · refine condT (et rfl e21_43) c24 ?_
      refine seqQ fun Q10 k10 z10 => ?_
      refine wp_region_lit ?_
      refine Y wn rfl (ya (v := .bool false) rfl) ?_
      refine wpList_nil ?_
      refine k10 _ _ ?_
      refine wp_ret ?_
      refine z8 _ _ _ rfl ?_
      obtain rfl := someI hM
      exact hQ _ _ _ (fin1r Try.results3 ⟨rfl, rfl⟩ ⟨rfl, ((hst.pk 1 [] rfl).facts (allT (allT allI)))⟩)
    · refine condF (et rfl e21_43) (bfalse c24) ?_
      refine wp_skip ?_
      refine k8 _ _ ?_
      refine seqQ fun Q11 k11 z11 => ?_
      refine seqQ fun Q12 k12 z12 => ?_
      refine wp_region_lit ?_
      refine Y wn rfl (ya (v := .int .i64 0) rfl) ?_
      refine wpList_nil ?_
      refine k12 _ _ ?_
      refine blockQ fun Q13 qb13 => ?_
      obtain ⟨o120, go120, hM⟩ := bs hM
      have je120_0 : ∀ (f : Nat → Value) (w : World), St w0 (ros) (rs) w → .inl () = o120 → Q13 (.exit 0) (fr 101 f) w := by
        intro f w hst ho
        subst ho
        refine qb13 _ _ _ ?_
        refine k11 _ _ ?_
        refine seqQ fun Q368 k368 z368 => ?_
        refine wp_region_lit ?_
        obtain ⟨r591, gr591, hM⟩ := bs hM
        refine Yc wn rfl (yCall FN_10 a0) (sparselaw19_awake_ok (hM := gr591) (hst := hst) ) ?_
        clear hst
        rintro _ w ⟨rfl, hst⟩
        refine ⟨_, rfl, ?_⟩
        refine Y wn rfl (ya (v := .bool r591) (et rfl rfl)) ?_
        refine wpList_nil ?_
        refine k368 _ _ ?_
        refine wp_ret ?_
        obtain rfl := someI hM
        exact hQ _ _ _ (fin1r Try.results3 ⟨rfl, rfl⟩ ⟨rfl, hst⟩)
      have je120_1 : ∀ (f : Nat → Value) (w : World), f 4 = .bool false → St w0 (ros) (rs) w → .inr () = o120 → Q13 .ret (fr 101 f) w := by
        intro f w eje120_1_4 hst ho
        subst ho
        refine qb13 _ _ _ ?_
        refine z11 _ _ _ rfl ?_
        obtain rfl := someI hM
        exact hQ _ _ _ (fin1r Try.results3 ⟨rfl, eje120_1_4⟩ ⟨rfl, hst⟩)
      refine loopQ (fun s a w => ∃ (x307 : Int) (f : Nat → Value), x307 = s ∧ a = fr 101 f ∧ f 0 = .int .i64 r6 ∧ f 5 = .pointer (some ⟨b9, 0, none⟩) ∧ f 6 = h11.v ∧ f 8 = .int .i64 x307 ∧ St w0 (imm (rS (rI .i64)) h8.v r7 :: imm (rI .i64) h11.v r10.1 :: ros) (box b9 27 [h8.v] :: rs) w) go120 ⟨_, _, rfl, rfl, e21_0, e21_5, e21_6, rfl, hst⟩ ?_
      clear hst
      rintro _ _ w r120_ ⟨x307, f, rfl, rfl, e120_0, e120_5, e120_6, e120_8, hst⟩ hM120 ho120 Q100120 n120 zz120
      refine seqQ fun Q369 k369 z369 => ?_
      refine seqQ fun Q370 k370 z370 => ?_
      refine wp_region_lit ?_
      refine Y wn rfl (ym (v := .int .i64 x307) (et rfl e120_8)) ?_
      refine Y wn rfl (ym (v := .int .i64 r6) (et rfl e120_0)) ?_
      refine Y wn rfl (ylss (et rfl rfl) (et rfl rfl)) ?_
      refine wpList_nil ?_
      refine k370 _ _ ?_
      rcases iteS hM120 with ⟨c592, hM120⟩ | ⟨c592, hM120⟩
      · refine condT (et rfl rfl) (decide_eq_true c592) ?_
        refine wp_skip ?_
        refine k369 _ _ ?_
        refine seqQ fun Q371 k371 z371 => ?_
        refine blockQ fun Q372 qb372 => ?_
        refine seqQ fun Q373 k373 z373 => ?_
        refine wp_region_lit ?_
        refine Y wn rfl (ya (v := .int .i64 0) rfl) ?_
        refine wpList_nil ?_
        refine k373 _ _ ?_
        refine blockQ fun Q374 qb374 => ?_
        obtain ⟨o159, go159, hM120⟩ := bs hM120
        have je159_0 : ∀ (f : Nat → Value) (w : World), f 0 = .int .i64 r6 → f 5 = .pointer (some ⟨b9, 0, none⟩) → f 6 = h11.v → f 8 = .int .i64 x307 → St w0 (imm (rS (rI .i64)) h8.v r7 :: imm (rI .i64) h11.v r10.1 :: ros) (box b9 27 [h8.v] :: rs) w → .inl () = o159 → Q374 (.exit 2) (fr 101 f) w := by
          intro f w eje159_0_0 eje159_0_5 eje159_0_6 eje159_0_8 hst ho
          subst ho
          refine qb374 _ _ _ ?_
          refine qb372 _ _ _ ?_
          refine k371 _ _ ?_
          refine wp_region_lit ?_
          refine Y wn rfl (ym (v := .int .i64 x307) (et rfl eje159_0_8)) ?_
          refine Y wn rfl (yadd (et rfl rfl) rfl) ?_
          refine Y wn rfl (ya (v := .int .i64 (wa .i64 x307 1)) (et rfl rfl)) ?_
          refine wpList_nil ?_
          obtain rfl := someI hM120
          exact n120 _ _ _ rfl ⟨_, _, rfl, rfl, eje159_0_0, eje159_0_5, eje159_0_6, rfl, hst⟩
        have je159_1 : ∀ (f : Nat → Value) (w : World), f 4 = .bool false → St w0 (ros) (rs) w → .inr () = o159 → Q374 .ret (fr 101 f) w := by
          intro f w eje159_1_4 hst ho
          subst ho
          refine qb374 _ _ _ ?_
          refine qb372 _ _ _ ?_
          refine z371 _ _ _ rfl ?_
          obtain rfl := someI hM120
          refine zz120 _ _ _ _ rfl rfl ?_
          exact je120_1 _ _ eje159_1_4 hst (ho120 _ rfl)
        refine loopQ (fun s a w => ∃ (x686 : Int) (f : Nat → Value), x686 = s ∧ a = fr 101 f ∧ f 0 = .int .i64 r6 ∧ f 5 = .pointer (some ⟨b9, 0, none⟩) ∧ f 6 = h11.v ∧ f 8 = .int .i64 x307 ∧ f 9 = .int .i64 x686 ∧ St w0 (imm (rS (rI .i64)) h8.v r7 :: imm (rI .i64) h11.v r10.1 :: ros) (box b9 27 [h8.v] :: rs) w) go159 ⟨_, _, rfl, rfl, e120_0, e120_5, e120_6, e120_8, rfl, hst⟩ ?_
        clear hst
        rintro _ _ w r159_ ⟨x686, f, rfl, rfl, e159_0, e159_5, e159_6, e159_8, e159_9, hst⟩ hM159 ho159 Q100159 n159 zz159
        refine seqQ fun Q489 k489 z489 => ?_
        refine seqQ fun Q490 k490 z490 => ?_
        refine wp_region_lit ?_
        refine Y wn rfl (ym (v := .int .i64 x686) (et rfl e159_9)) ?_
        refine Y wn rfl (yFb FL_27_0 (et rfl e159_5)) ?_
        refine Y wn rfl (yLb (u := h8.v) O_25 (et rfl rfl) hst mhR rfl) ?_
        refine Y wn rfl (ym (v := .int .i64 x307) (et rfl e159_8)) ?_
        obtain ⟨x781, gx781, hM159⟩ := bs hM159
        refine Y wn rfl (yIa SL_25 (et rfl rfl) (et rfl rfl) hst (rdI mhF) gx781) ?_
        obtain ⟨h782, hst⟩ := iLs hst mhF gx781
        refine Y wn rfl (yCt O_22 (et rfl rfl) hst (mtF mhF) rfl) ?_
        refine Y wn rfl (yLen SL_22 (et rfl rfl) hst (rdI mhF)) ?_
        refine Y wn rfl (ylss (et rfl rfl) (et rfl rfl)) ?_
        refine wpList_nil ?_
        refine k490 _ _ ?_
        rcases iteS hM159 with ⟨c783, hM159⟩ | ⟨c783, hM159⟩
        · refine condT (et rfl rfl) (decide_eq_true c783) ?_
          refine wp_skip ?_
          refine k489 _ _ ?_
          refine seqQ fun Q491 k491 z491 => ?_
          have j172 : ∀ (f : Nat → Value) (w : World), f 0 = .int .i64 r6 → f 5 = .pointer (some ⟨b9, 0, none⟩) → f 6 = h11.v → f 8 = .int .i64 x307 → f 9 = .int .i64 x686 → St w0 (imm (rS (rI .i64)) h8.v r7 :: imm (rI .i64) h11.v r10.1 :: ros) (box b9 27 [h8.v] :: rs) w → sparselaw19_EtreeAncestors_j172 x686 = some r159_ → Q491 .normal (fr 101 f) w := by
            intro f w ej172_0 ej172_5 ej172_6 ej172_8 ej172_9 hst hM
            refine k491 _ _ ?_
            refine wp_region_lit ?_
            refine Y wn rfl (ym (v := .int .i64 x686) (et rfl ej172_9)) ?_
            refine Y wn rfl (yadd (et rfl rfl) rfl) ?_
            refine Y wn rfl (ya (v := .int .i64 (wa .i64 x686 1)) (et rfl rfl)) ?_
            refine wpList_nil ?_
            obtain rfl := someI hM
            exact n159 _ _ _ rfl ⟨_, _, rfl, rfl, ej172_0, ej172_5, ej172_6, ej172_8, rfl, hst⟩
          refine blockQ fun Q528 qb528 => ?_
          refine seqQ fun Q529 k529 z529 => ?_
          refine wp_region_lit ?_
          refine Y wn rfl (yFb FL_27_0 (et rfl e159_5)) ?_
          refine Y wn rfl (yLb (u := h8.v) O_25 (et rfl rfl) hst mhR rfl) ?_
          refine Y wn rfl (ym (v := .int .i64 x307) (et rfl e159_8)) ?_
          obtain ⟨x844, gx844, hM159⟩ := bs hM159
          refine Y wn rfl (yIa SL_25 (et rfl rfl) (et rfl rfl) hst (rdI (mtF (mtF mhF))) gx844) ?_
          obtain ⟨h845, hst⟩ := iLs hst (mtF (mtF mhF)) gx844
          refine Y wn rfl (yCt O_22 (et rfl rfl) hst (mtF mhF) rfl) ?_
          refine Y wn rfl (ym (v := .int .i64 x686) (et rfl e159_9)) ?_
          obtain ⟨x846, gx846, hM159⟩ := bs hM159
          refine Y wn rfl (yIa SL_22 (et rfl rfl) (et rfl rfl) hst (rdI mhF) gx846) ?_
          refine Y wn rfl (yI O_3 (et rfl rfl) hst (rdI mhF) gx846) ?_
          refine Y wn rfl (ya (v := .int .i64 x846) (et rfl rfl)) ?_
          refine wpList_nil ?_
          refine k529 _ _ ?_
          refine seqQ fun Q530 k530 z530 => ?_
          refine seqQ fun Q531 k531 z531 => ?_
          refine wp_region_lit ?_
          refine Y wn rfl (ym (v := .int .i64 x846) (et rfl rfl)) ?_
          refine Y wn rfl (ym (v := .int .i64 x307) (et rfl e159_8)) ?_
          refine Y wn rfl (ylss (et rfl rfl) (et rfl rfl)) ?_
          refine wpList_nil ?_
          refine k531 _ _ ?_
          rcases iteS hM159 with ⟨c847, hM159⟩ | ⟨c847, hM159⟩
          · refine condT (et rfl rfl) (decide_eq_true c847) ?_
            refine wp_exit ?_
            refine z530 _ _ _ rfl ?_
            refine qb528 _ _ _ ?_
            exact j172 _ _ e159_0 e159_5 e159_6 e159_8 e159_9 (hst.facts (allC (mtF (mtF (mtF (mtF mhF)))) (allC (mtF (mtF (mtF (mtF (mtF mhF))))) (allT (allT (allT (allT (allT (allT allI))))))))) hM159
          · refine condF (et rfl rfl) (decide_eq_false c847) ?_
            refine wp_skip ?_
            refine k530 _ _ ?_
            refine seqQ fun Q532 k532 z532 => ?_
            refine wp_region_lit ?_
            refine Y wn rfl (ym (v := .int .i64 x307) (et rfl e159_8)) ?_
            refine Y wn rfl (ya (v := .int .i64 x307) (et rfl rfl)) ?_
            refine wpList_nil ?_
            refine k532 _ _ ?_
            refine seqQ fun Q533 k533 z533 => ?_
            refine blockQ fun Q534 qb534 => ?_
            obtain ⟨o175, go175, hM159⟩ := bs hM159
            have je175_0 : ∀ (x858 : Int) (f : Nat → Value) (w : World), f 0 = .int .i64 r6 → f 5 = .pointer (some ⟨b9, 0, none⟩) → f 6 = h11.v → f 8 = .int .i64 x307 → f 9 = .int .i64 x686 → f 10 = .int .i64 x846 → f 11 = .int .i64 x858 → St w0 (imm (rS (rI .i64)) h8.v r7 :: imm (rI .i64) h11.v r10.1 :: ros) (box b9 27 [h8.v] :: rs) w → x858 = o175 → Q534 (.exit 4) (fr 101 f) w := by
              intro x858 f w eje175_0_0 eje175_0_5 eje175_0_6 eje175_0_8 eje175_0_9 eje175_0_10 eje175_0_11 hst ho
              subst ho
              refine qb534 _ _ _ ?_
              refine k533 _ _ ?_
              refine seqQ fun Q541 k541 z541 => ?_
              refine wp_region_lit ?_
              refine Y wn rfl (ym (v := .int .i64 x858) (et rfl eje175_0_11)) ?_
              refine Y wn rfl (ym (v := .int .i64 x846) (et rfl eje175_0_10)) ?_
              refine Y wn rfl (yneq (et rfl rfl) (et rfl rfl)) ?_
              refine Y wn rfl (ym (v := .bool (!(decide (x858 = x846)))) (et rfl rfl)) ?_
              obtain ⟨r860, gr860, hM159⟩ := bs hM159
              refine joinW 6 (fun f w => f 0 = .int .i64 r6 ∧ f 5 = .pointer (some ⟨b9, 0, none⟩) ∧ f 6 = h11.v ∧ f 8 = .int .i64 x307 ∧ f 9 = .int .i64 x686 ∧ f 10 = .int .i64 x846 ∧ f 91 = .bool r860 ∧ St w0 (imm (rS (rI .i64)) h8.v r7 :: imm (rI .i64) h11.v r10.1 :: ros) (box b9 27 [h8.v] :: rs) w) (fun j176 => ?_) ?_
              · rcases iteS gr860 with ⟨c862, gr860⟩ | ⟨c862, gr860⟩
                · refine Y (wg rfl rfl rfl (nF (decide_eq_true c862))) rfl (ym (v := h11.v) (et rfl eje175_0_6)) ?_
                  refine Y (wg rfl rfl rfl (nF (decide_eq_true c862))) rfl (ym (v := .int .i64 x307) (et rfl eje175_0_8)) ?_
                  obtain ⟨x863, gx863, gr860⟩ := bs gr860
                  refine Y (wg rfl rfl rfl (nF (decide_eq_true c862))) rfl (yIa SL_22 (et rfl rfl) (et rfl rfl) hst (rdI (mtF mhF)) gx863) ?_
                  refine Y (wg rfl rfl rfl (nF (decide_eq_true c862))) rfl (yI O_3 (et rfl rfl) hst (rdI (mtF mhF)) gx863) ?_
                  refine Y (wg rfl rfl rfl (nF (decide_eq_true c862))) rfl (ylss (et rfl rfl) rfl) ?_
                  refine Y wn rfl (ypf (v := .bool (decide (x863 < 0))) (et rfl rfl) (nF (decide_eq_true c862)) (et rfl rfl)) ?_
                  obtain rfl := someI gr860
                  exact j176 _ _ ⟨eje175_0_0, eje175_0_5, eje175_0_6, eje175_0_8, eje175_0_9, eje175_0_10, rfl, hst⟩
                · refine Gn (wx rfl rfl rfl (nT (decide_eq_false c862))) rfl ?_
                  refine Gn (wx rfl rfl rfl (nT (decide_eq_false c862))) rfl ?_
                  refine Gn (wx rfl rfl rfl (nT (decide_eq_false c862))) rfl ?_
                  refine Gn (wx rfl rfl rfl (nT (decide_eq_false c862))) rfl ?_
                  refine Gn (wx rfl rfl rfl (nT (decide_eq_false c862))) rfl ?_
                  refine Y wn rfl (ypt (v := .bool true) (et rfl rfl) (nT (decide_eq_false c862)) rfl) ?_
                  obtain rfl := someI gr860
                  exact j176 _ _ ⟨eje175_0_0, eje175_0_5, eje175_0_6, eje175_0_8, eje175_0_9, eje175_0_10, rfl, hst⟩
              clear hst
              rintro f w ⟨e861_0, e861_5, e861_6, e861_8, e861_9, e861_10, e861_91, hst⟩
              refine Y wn rfl (ym (v := .bool r860) (et rfl e861_91)) ?_
              obtain ⟨r865, gr865, hM159⟩ := bs hM159
              refine joinW 7 (fun f w => f 0 = .int .i64 r6 ∧ f 5 = .pointer (some ⟨b9, 0, none⟩) ∧ f 6 = h11.v ∧ f 8 = .int .i64 x307 ∧ f 9 = .int .i64 x686 ∧ f 99 = .bool r865 ∧ St w0 (imm (rS (rI .i64)) h8.v r7 :: imm (rI .i64) h11.v r10.1 :: ros) (box b9 27 [h8.v] :: rs) w) (fun j177 => ?_) ?_
              · rcases iteS gr865 with ⟨c867, gr865⟩ | ⟨c867, gr865⟩
                · refine Gn (wx rfl rfl rfl c867) rfl ?_
                  refine Gn (wx rfl rfl rfl c867) rfl ?_
                  refine Gn (wx rfl rfl rfl c867) rfl ?_
                  refine Gn (wx rfl rfl rfl c867) rfl ?_
                  refine Gn (wx rfl rfl rfl c867) rfl ?_
                  refine Gn (wx rfl rfl rfl c867) rfl ?_
                  refine Y wn rfl (ypt (v := .bool true) (et rfl rfl) c867 rfl) ?_
                  obtain rfl := someI gr865
                  exact j177 _ _ ⟨e861_0, e861_5, e861_6, e861_8, e861_9, rfl, hst⟩
                · refine Y (wg rfl rfl rfl (bfalse c867)) rfl (ym (v := h11.v) (et rfl e861_6)) ?_
                  refine Y (wg rfl rfl rfl (bfalse c867)) rfl (ym (v := .int .i64 x307) (et rfl e861_8)) ?_
                  obtain ⟨x868, gx868, gr865⟩ := bs gr865
                  refine Y (wg rfl rfl rfl (bfalse c867)) rfl (yIa SL_22 (et rfl rfl) (et rfl rfl) hst (rdI (mtF mhF)) gx868) ?_
                  refine Y (wg rfl rfl rfl (bfalse c867)) rfl (yI O_3 (et rfl rfl) hst (rdI (mtF mhF)) gx868) ?_
                  refine Y (wg rfl rfl rfl (bfalse c867)) rfl (ym (v := .int .i64 x846) (et rfl e861_10)) ?_
                  refine Y (wg rfl rfl rfl (bfalse c867)) rfl (ygtr (et rfl rfl) (et rfl rfl)) ?_
                  refine Y wn rfl (ypf (v := .bool (decide (x846 < x868))) (et rfl rfl) (bfalse c867) (et rfl rfl)) ?_
                  obtain rfl := someI gr865
                  exact j177 _ _ ⟨e861_0, e861_5, e861_6, e861_8, e861_9, rfl, hst⟩
              clear hst
              rintro f w ⟨e866_0, e866_5, e866_6, e866_8, e866_9, e866_99, hst⟩
              refine wpList_nil ?_
              refine k541 _ _ ?_
              rcases iteS hM159 with ⟨c869, hM159⟩ | ⟨c869, hM159⟩
              · refine condT (et rfl e866_99) c869 ?_
                refine seqQ fun Q542 k542 z542 => ?_
                refine wp_region_lit ?_
                refine Y wn rfl (ya (v := .bool false) rfl) ?_
                refine wpList_nil ?_
                refine k542 _ _ ?_
                refine wp_ret ?_
                refine qb528 _ _ _ ?_
                refine z491 _ _ _ rfl ?_
                obtain rfl := someI hM159
                refine zz159 _ _ _ _ rfl rfl ?_
                exact je159_1 _ _ rfl ((hst.pk 1 [] rfl).facts (allT (allT allI))) (ho159 _ rfl)
              · refine condF (et rfl e866_99) (bfalse c869) ?_
                refine wp_skip ?_
                refine qb528 _ _ _ ?_
                exact j172 _ _ e866_0 e866_5 e866_6 e866_8 e866_9 hst hM159
            refine loopQ (fun s a w => ∃ (x852 : Int) (f : Nat → Value), x852 = s ∧ a = fr 101 f ∧ f 0 = .int .i64 r6 ∧ f 5 = .pointer (some ⟨b9, 0, none⟩) ∧ f 6 = h11.v ∧ f 8 = .int .i64 x307 ∧ f 9 = .int .i64 x686 ∧ f 10 = .int .i64 x846 ∧ f 11 = .int .i64 x852 ∧ St w0 (imm (rS (rI .i64)) h8.v r7 :: imm (rI .i64) h11.v r10.1 :: ros) (box b9 27 [h8.v] :: rs) w) go175 ⟨_, _, rfl, rfl, e159_0, e159_5, e159_6, e159_8, e159_9, rfl, rfl, (hst.facts (allC (mtF (mtF (mtF (mtF mhF)))) (allC (mtF (mtF (mtF (mtF (mtF mhF))))) (allT (allT (allT (allT (allT (allT allI)))))))))⟩ ?_
            clear hst
            rintro _ _ w r175_ ⟨x852, f, rfl, rfl, e175_0, e175_5, e175_6, e175_8, e175_9, e175_10, e175_11, hst⟩ hM175 ho175 Q100175 n175 zz175
            refine seqQ fun Q543 k543 z543 => ?_
            refine seqQ fun Q544 k544 z544 => ?_
            refine wp_region_lit ?_
            refine Y wn rfl (ym (v := .int .i64 x852) (et rfl e175_11)) ?_
            refine Y wn rfl (ygeq (et rfl rfl) rfl) ?_
            refine Y wn rfl (ym (v := .bool (decide ((0 : Int) ≤ x852))) (et rfl rfl)) ?_
            refine joinW 4 (fun f w => f 0 = .int .i64 r6 ∧ f 5 = .pointer (some ⟨b9, 0, none⟩) ∧ f 6 = h11.v ∧ f 8 = .int .i64 x307 ∧ f 9 = .int .i64 x686 ∧ f 10 = .int .i64 x846 ∧ f 11 = .int .i64 x852 ∧ f 77 = .bool ((decide ((0 : Int) ≤ x852)) && (decide (x852 < x846))) ∧ St w0 (imm (rS (rI .i64)) h8.v r7 :: imm (rI .i64) h11.v r10.1 :: ros) (box b9 27 [h8.v] :: rs) w) (fun j178 => ?_) ?_
            · rcases Bool.eq_false_or_eq_true (decide ((0 : Int) ≤ x852)) with c871 | c871
              · refine Y (wg rfl rfl rfl c871) rfl (ym (v := .int .i64 x852) (et rfl e175_11)) ?_
                refine Y (wg rfl rfl rfl c871) rfl (ym (v := .int .i64 x846) (et rfl e175_10)) ?_
                refine Y (wg rfl rfl rfl c871) rfl (ylss (et rfl rfl) (et rfl rfl)) ?_
                refine Y wn rfl (ypt (v := .bool (decide (x852 < x846))) (et rfl rfl) c871 (et rfl rfl)) ?_
                exact j178 _ _ ⟨e175_0, e175_5, e175_6, e175_8, e175_9, e175_10, e175_11, (congrArg Value.bool (andT c871)), hst⟩
              · refine Gn (wx rfl rfl rfl c871) rfl ?_
                refine Gn (wx rfl rfl rfl c871) rfl ?_
                refine Gn (wx rfl rfl rfl c871) rfl ?_
                refine Y wn rfl (ypf (v := .bool false) (et rfl rfl) c871 rfl) ?_
                exact j178 _ _ ⟨e175_0, e175_5, e175_6, e175_8, e175_9, e175_10, e175_11, (congrArg Value.bool (andF c871)), hst⟩
            clear hst
            rintro f w ⟨e870_0, e870_5, e870_6, e870_8, e870_9, e870_10, e870_11, e870_77, hst⟩
            refine wpList_nil ?_
            refine k544 _ _ ?_
            rcases iteS hM175 with ⟨c872, hM175⟩ | ⟨c872, hM175⟩
            · refine condT (et rfl e870_77) c872 ?_
              refine wp_skip ?_
              refine k543 _ _ ?_
              refine blockQ fun Q545 qb545 => ?_
              refine wp_region_lit ?_
              refine Y wn rfl (ym (v := h11.v) (et rfl e870_6)) ?_
              refine Y wn rfl (ym (v := .int .i64 x852) (et rfl e870_11)) ?_
              obtain ⟨x873, gx873, hM175⟩ := bs hM175
              refine Y wn rfl (yIa SL_22 (et rfl rfl) (et rfl rfl) hst (rdI (mtF mhF)) gx873) ?_
              refine Y wn rfl (yI O_3 (et rfl rfl) hst (rdI (mtF mhF)) gx873) ?_
              refine Y wn rfl (ya (v := .int .i64 x873) (et rfl rfl)) ?_
              refine wpList_nil ?_
              refine qb545 _ _ _ ?_
              obtain rfl := someI hM175
              exact n175 _ _ _ rfl ⟨_, _, rfl, rfl, e870_0, e870_5, e870_6, e870_8, e870_9, e870_10, rfl, hst⟩
            · refine condF (et rfl e870_77) (bfalse c872) ?_
              refine wp_exit ?_
              refine z543 _ _ _ rfl ?_
              obtain rfl := someI hM175
              refine zz175 _ _ _ _ rfl rfl ?_
              exact je175_0 _ _ _ e870_0 e870_5 e870_6 e870_8 e870_9 e870_10 e870_11 hst (ho175 _ rfl)
        · refine condF (et rfl rfl) (decide_eq_false c783) ?_
          refine wp_exit ?_
          refine z489 _ _ _ rfl ?_
          obtain rfl := someI hM159
          refine zz159 _ _ _ _ rfl rfl ?_
          exact je159_0 _ _ e159_0 e159_5 e159_6 e159_8 (hst.facts (allC (mtF (mtF mhF)) (allC (mtF (mtF (mtF mhF))) (allT (allT (allT (allT allI))))))) (ho159 _ rfl)
      · refine condF (et rfl rfl) (decide_eq_false c592) ?_
        refine wp_exit ?_
        refine z369 _ _ _ rfl ?_
        obtain rfl := someI hM120
        refine zz120 _ _ _ _ rfl rfl ?_
        exact je120_0 _ _ ((hst.pk 1 [] rfl).facts (allT (allT allI))) (ho120 _ rfl)

theorem sparsekit_Ascending_ok {w0 : World} {ros : List Fact} {rs : List Res} {w : World} {x1 : List Int} {h2 : Hdr} {out : Bool} (hM : sparsekit_Ascending x1 = some out) (q1 : imm (rI .i64) h2.v x1 ∈ ros) (hst : St w0 ros (rs) w) :
    Calls Try.prog 61 #[h2.v] w (fun e w => e = .returned (.bool out) ∧ St w0 (ros) (rs) w) := by
  refine enterQ Try.func61 rfl Try.ntmps61 rfl fun Q hQ => ?_
  refine seqQ fun Q1 k1 z1 => ?_
  refine wp_region_lit ?_
  refine Y wn rfl (ya (v := .bool false) rfl) ?_
  refine wpList_nil ?_
  refine k1 _ _ ?_
  refine seqQ fun Q2 k2 z2 => ?_
  refine seqQ fun Q3 k3 z3 => ?_
  refine wp_region_lit ?_
  refine Y wn rfl (ya (v := .int .i64 1) rfl) ?_
  refine wpList_nil ?_
  refine k3 _ _ ?_
  refine blockQ fun Q4 qb4 => ?_
  obtain ⟨o1, go1, hM⟩ := bs hM
  have je1_0 : ∀ (f : Nat → Value) (w : World), St w0 (ros) (rs) w → .inl () = o1 → Q4 (.exit 0) (fr 20 f) w := by
    intro f w hst ho
    subst ho
    refine qb4 _ _ _ ?_
    refine k2 _ _ ?_
    refine seqQ fun Q17 k17 z17 => ?_
    refine wp_region_lit ?_
    refine Y wn rfl (ya (v := .bool true) rfl) ?_
    refine wpList_nil ?_
    refine k17 _ _ ?_
    refine wp_ret ?_
    obtain rfl := someI hM
    exact hQ _ _ _ (fin1r Try.results61 ⟨rfl, rfl⟩ ⟨rfl, hst⟩)
  have je1_1 : ∀ (f : Nat → Value) (w : World), f 2 = .bool false → St w0 (ros) (rs) w → .inr () = o1 → Q4 .ret (fr 20 f) w := by
    intro f w eje1_1_2 hst ho
    subst ho
    refine qb4 _ _ _ ?_
    refine z2 _ _ _ rfl ?_
    obtain rfl := someI hM
    exact hQ _ _ _ (fin1r Try.results61 ⟨rfl, eje1_1_2⟩ ⟨rfl, hst⟩)
  refine loopQ (fun s a w => ∃ (x7 : Int) (f : Nat → Value), x7 = s ∧ a = fr 20 f ∧ f 0 = h2.v ∧ f 3 = .int .i64 x7 ∧ St w0 (ros) (rs) w) go1 ⟨_, _, rfl, rfl, rfl, rfl, hst⟩ ?_
  clear hst
  rintro _ _ w r1_ ⟨x7, f, rfl, rfl, e1_0, e1_3, hst⟩ hM1 ho1 Q100001 n1 zz1
  refine seqQ fun Q18 k18 z18 => ?_
  refine seqQ fun Q19 k19 z19 => ?_
  refine wp_region_lit ?_
  refine Y wn rfl (ym (v := .int .i64 x7) (et rfl e1_3)) ?_
  refine Y wn rfl (ym (v := h2.v) (et rfl e1_0)) ?_
  refine Y wn rfl (yLen SL_22 (et rfl rfl) hst (rdI q1)) ?_
  refine Y wn rfl (ylss (et rfl rfl) (et rfl rfl)) ?_
  refine wpList_nil ?_
  refine k19 _ _ ?_
  rcases iteS hM1 with ⟨c13, hM1⟩ | ⟨c13, hM1⟩
  · refine condT (et rfl rfl) (decide_eq_true c13) ?_
    refine wp_skip ?_
    refine k18 _ _ ?_
    refine seqQ fun Q20 k20 z20 => ?_
    refine blockQ fun Q21 qb21 => ?_
    refine seqQ fun Q22 k22 z22 => ?_
    obtain ⟨x14, gx14, hM1⟩ := bs hM1
    obtain ⟨x15, gx15, hM1⟩ := bs hM1
    refine wp_drawR [0, 0, 3, 7, 0, 0, 32, 112, 240, 511] [] 0 folM (by kernel_rfl) (by kernel_rfl) (by kernel_rfl) ?_
    replace hst := hst.drew
    refine DRz (l1 := [0, 1, 2, 3, 4, 5, 6, 7, 8, 9]) (l2 := []) (by kernel_rfl) (by kernel_rfl) ?_
    refine Ry rfl rfl wn (ym (v := h2.v) (et rfl e1_0)) ?_
    refine Ry rfl rfl wn (ym (v := .int .i64 x7) (et rfl e1_3)) ?_
    refine Ry rfl rfl wn (yIa SL_22 (et rfl rfl) (et rfl rfl) hst (rdI q1) gx14) ?_
    refine Ry rfl rfl wn (yI O_3 (et rfl rfl) hst (rdI q1) gx14) ?_
    refine Ry rfl rfl wn (ym (v := h2.v) (et rfl e1_0)) ?_
    refine Ry rfl rfl wn (ym (v := .int .i64 x7) (et rfl e1_3)) ?_
    refine Ry rfl rfl wn (ysub (et rfl rfl) rfl) ?_
    refine Ry rfl rfl wn (yIa SL_22 (et rfl rfl) (et rfl rfl) hst (rdI q1) gx15) ?_
    refine Ry rfl rfl wn (yI O_3 (et rfl rfl) hst (rdI q1) gx15) ?_
    refine Ry rfl rfl wn (yleq (et rfl rfl) (et rfl rfl)) ?_
    refine Rn QSn ?_
    refine k22 _ _ ?_
    rcases iteS hM1 with ⟨c16, hM1⟩ | ⟨c16, hM1⟩
    · refine condT (et rfl rfl) (decide_eq_true c16) ?_
      refine seqQ fun Q23 k23 z23 => ?_
      refine wp_region_lit ?_
      refine Y wn rfl (ya (v := .bool false) rfl) ?_
      refine wpList_nil ?_
      refine k23 _ _ ?_
      refine wp_ret ?_
      refine qb21 _ _ _ ?_
      refine z20 _ _ _ rfl ?_
      obtain rfl := someI hM1
      refine zz1 _ _ _ _ rfl rfl ?_
      exact je1_1 _ _ rfl hst (ho1 _ rfl)
    · refine condF (et rfl rfl) (decide_eq_false c16) ?_
      refine wp_skip ?_
      refine qb21 _ _ _ ?_
      refine k20 _ _ ?_
      refine wp_region_lit ?_
      refine Y wn rfl (ym (v := .int .i64 x7) (et rfl e1_3)) ?_
      refine Y wn rfl (yadd (et rfl rfl) rfl) ?_
      refine Y wn rfl (ya (v := .int .i64 (wa .i64 x7 1)) (et rfl rfl)) ?_
      refine wpList_nil ?_
      obtain rfl := someI hM1
      exact n1 _ _ _ rfl ⟨_, _, rfl, rfl, e1_0, rfl, hst⟩
  · refine condF (et rfl rfl) (decide_eq_false c13) ?_
    refine wp_exit ?_
    refine z18 _ _ _ rfl ?_
    obtain rfl := someI hM1
    refine zz1 _ _ _ _ rfl rfl ?_
    exact je1_0 _ _ hst (ho1 _ rfl)

theorem sparsekit_In_ok {w0 : World} {ros : List Fact} {rs : List Res} {w : World} {x1 : List Int} {x3 : Int} {h2 : Hdr} {out : Bool} (hM : sparsekit_In x1 x3 = some out) (q1 : imm (rI .i64) h2.v x1 ∈ ros) (hst : St w0 ros (rs) w) :
    Calls Try.prog 62 #[h2.v, .int .i64 x3] w (fun e w => e = .returned (.bool out) ∧ St w0 (ros) (rs) w) := by
  refine enterQ Try.func62 rfl Try.ntmps62 rfl fun Q hQ => ?_
  refine seqQ fun Q1 k1 z1 => ?_
  refine wp_region_lit ?_
  refine Y wn rfl (ya (v := .bool false) rfl) ?_
  refine wpList_nil ?_
  refine k1 _ _ ?_
  refine seqQ fun Q2 k2 z2 => ?_
  refine seqQ fun Q3 k3 z3 => ?_
  refine wp_region_lit ?_
  refine Y wn rfl (ya (v := .int .i64 0) rfl) ?_
  refine wpList_nil ?_
  refine k3 _ _ ?_
  refine blockQ fun Q4 qb4 => ?_
  obtain ⟨o1, go1, hM⟩ := bs hM
  have je1_0 : ∀ (f : Nat → Value) (w : World), St w0 (ros) (rs) w → .inl () = o1 → Q4 (.exit 0) (fr 18 f) w := by
    intro f w hst ho
    subst ho
    refine qb4 _ _ _ ?_
    refine k2 _ _ ?_
    refine seqQ fun Q17 k17 z17 => ?_
    refine wp_region_lit ?_
    refine Y wn rfl (ya (v := .bool false) rfl) ?_
    refine wpList_nil ?_
    refine k17 _ _ ?_
    refine wp_ret ?_
    obtain rfl := someI hM
    exact hQ _ _ _ (fin1r Try.results62 ⟨rfl, rfl⟩ ⟨rfl, hst⟩)
  have je1_1 : ∀ (f : Nat → Value) (w : World), f 4 = .bool true → St w0 (ros) (rs) w → .inr () = o1 → Q4 .ret (fr 18 f) w := by
    intro f w eje1_1_4 hst ho
    subst ho
    refine qb4 _ _ _ ?_
    refine z2 _ _ _ rfl ?_
    obtain rfl := someI hM
    exact hQ _ _ _ (fin1r Try.results62 ⟨rfl, eje1_1_4⟩ ⟨rfl, hst⟩)
  refine loopQ (fun s a w => ∃ (x7 : Int) (f : Nat → Value), x7 = s ∧ a = fr 18 f ∧ f 0 = h2.v ∧ f 1 = .int .i64 x3 ∧ f 5 = .int .i64 x7 ∧ St w0 (ros) (rs) w) go1 ⟨_, _, rfl, rfl, rfl, rfl, rfl, hst⟩ ?_
  clear hst
  rintro _ _ w r1_ ⟨x7, f, rfl, rfl, e1_0, e1_1, e1_5, hst⟩ hM1 ho1 Q100001 n1 zz1
  refine seqQ fun Q18 k18 z18 => ?_
  refine seqQ fun Q19 k19 z19 => ?_
  refine wp_region_lit ?_
  refine Y wn rfl (ym (v := .int .i64 x7) (et rfl e1_5)) ?_
  refine Y wn rfl (ym (v := h2.v) (et rfl e1_0)) ?_
  refine Y wn rfl (yLen SL_22 (et rfl rfl) hst (rdI q1)) ?_
  refine Y wn rfl (ylss (et rfl rfl) (et rfl rfl)) ?_
  refine wpList_nil ?_
  refine k19 _ _ ?_
  rcases iteS hM1 with ⟨c12, hM1⟩ | ⟨c12, hM1⟩
  · refine condT (et rfl rfl) (decide_eq_true c12) ?_
    refine wp_skip ?_
    refine k18 _ _ ?_
    refine seqQ fun Q20 k20 z20 => ?_
    refine blockQ fun Q21 qb21 => ?_
    refine seqQ fun Q22 k22 z22 => ?_
    refine wp_region_lit ?_
    refine Y wn rfl (ym (v := h2.v) (et rfl e1_0)) ?_
    refine Y wn rfl (ym (v := .int .i64 x7) (et rfl e1_5)) ?_
    obtain ⟨x13, gx13, hM1⟩ := bs hM1
    refine Y wn rfl (yIa SL_22 (et rfl rfl) (et rfl rfl) hst (rdI q1) gx13) ?_
    refine Y wn rfl (yI O_3 (et rfl rfl) hst (rdI q1) gx13) ?_
    refine Y wn rfl (ym (v := .int .i64 x3) (et rfl e1_1)) ?_
    refine Y wn rfl (yeql (et rfl rfl) (et rfl rfl)) ?_
    refine wpList_nil ?_
    refine k22 _ _ ?_
    rcases iteS hM1 with ⟨c14, hM1⟩ | ⟨c14, hM1⟩
    · refine condT (et rfl rfl) (decide_eq_true c14) ?_
      refine seqQ fun Q23 k23 z23 => ?_
      refine wp_region_lit ?_
      refine Y wn rfl (ya (v := .bool true) rfl) ?_
      refine wpList_nil ?_
      refine k23 _ _ ?_
      refine wp_ret ?_
      refine qb21 _ _ _ ?_
      refine z20 _ _ _ rfl ?_
      obtain rfl := someI hM1
      refine zz1 _ _ _ _ rfl rfl ?_
      exact je1_1 _ _ rfl hst (ho1 _ rfl)
    · refine condF (et rfl rfl) (decide_eq_false c14) ?_
      refine wp_skip ?_
      refine qb21 _ _ _ ?_
      refine k20 _ _ ?_
      refine wp_region_lit ?_
      refine Y wn rfl (ym (v := .int .i64 x7) (et rfl e1_5)) ?_
      refine Y wn rfl (yadd (et rfl rfl) rfl) ?_
      refine Y wn rfl (ya (v := .int .i64 (wa .i64 x7 1)) (et rfl rfl)) ?_
      refine wpList_nil ?_
      obtain rfl := someI hM1
      exact n1 _ _ _ rfl ⟨_, _, rfl, rfl, e1_0, e1_1, rfl, hst⟩
  · refine condF (et rfl rfl) (decide_eq_false c12) ?_
    refine wp_exit ?_
    refine z18 _ _ _ rfl ?_
    obtain rfl := someI hM1
    refine zz1 _ _ _ _ rfl rfl ?_
    exact je1_0 _ _ hst (ho1 _ rfl)

theorem sparseref12_Check_ok {w0 : World} {ros : List Fact} {rs : List Res} {w : World} {x1 : List (List Int)} {h2 : Hdr} {out : Int} (hM : sparseref12_Check x1 = some out) (q1 : imm (rS (rI .i64)) h2.v x1 ∈ ros) (hst : St w0 ros (rs) w) :
    Calls Try.prog 43 #[.agg #[h2.v]] w (fun e w => e = .returned (.int .i64 out) ∧ St w0 (ros) (rs) w) := by
  refine enterQ Try.func43 rfl Try.ntmps43 rfl fun Q hQ => ?_
  refine seqQ fun Q1 k1 z1 => ?_
  refine wp_region_lit ?_
  refine YB wn rfl (r_box (vals := [h2.v]) hst (et rfl rfl) rfl) ?_
  clear hst
  intro b3 w hst
  refine Y wn rfl (ya (v := .int .i64 0) rfl) ?_
  refine wpList_nil ?_
  refine k1 _ _ ?_
  refine seqQ fun Q2 k2 z2 => ?_
  refine wp_region_lit ?_
  refine Y wn rfl (yFb FL_27_0 (et rfl rfl)) ?_
  refine Y wn rfl (yLb (u := h2.v) O_25 (et rfl rfl) hst mhR rfl) ?_
  refine Y wn rfl (yLen SL_25 (et rfl rfl) hst (rdI q1)) ?_
  refine Y wn rfl (ya (v := .int .i64 (x1.length : Int)) (et rfl rfl)) ?_
  refine wpList_nil ?_
  refine k2 _ _ ?_
  refine seqQ fun Q3 k3 z3 => ?_
  refine seqQ fun Q4 k4 z4 => ?_
  refine wp_region_lit ?_
  refine Y wn rfl (ym (v := .int .i64 (x1.length : Int)) (et rfl rfl)) ?_
  refine Y wn rfl (ygtr (et rfl rfl) rfl) ?_
  refine wpList_nil ?_
  refine k4 _ _ ?_
  rcases iteS hM with ⟨c4, hM⟩ | ⟨c4, hM⟩
  · refine condT (et rfl rfl) (decide_eq_true c4) ?_
    refine seqQ fun Q5 k5 z5 => ?_
    refine wp_region_lit ?_
    refine Y wn rfl (ya (v := .int .i64 6) rfl) ?_
    refine wpList_nil ?_
    refine k5 _ _ ?_
    refine wp_ret ?_
    refine z3 _ _ _ rfl ?_
    obtain rfl := someI hM
    exact hQ _ _ _ (fin1r Try.results43 ⟨rfl, rfl⟩ ⟨rfl, (hst.pk 1 [] rfl)⟩)
  · refine condF (et rfl rfl) (decide_eq_false c4) ?_
    refine wp_skip ?_
    refine k3 _ _ ?_
    refine seqQ fun Q6 k6 z6 => ?_
    refine seqQ fun Q7 k7 z7 => ?_
    refine wp_region_lit ?_
    refine Y wn rfl (ya (v := .int .i64 0) rfl) ?_
    refine wpList_nil ?_
    refine k7 _ _ ?_
    refine blockQ fun Q8 qb8 => ?_
    obtain ⟨o21, go21, hM⟩ := bs hM
    have je21_0 : ∀ (f : Nat → Value) (w : World), St w0 (ros) (rs) w → .inl () = o21 → Q8 (.exit 0) (fr 64 f) w := by
      intro f w hst ho
      subst ho
      refine qb8 _ _ _ ?_
      refine k6 _ _ ?_
      refine seqQ fun Q69 k69 z69 => ?_
      refine wp_region_lit ?_
      refine Y wn rfl (ya (v := .int .i64 0) rfl) ?_
      refine wpList_nil ?_
      refine k69 _ _ ?_
      refine wp_ret ?_
      obtain rfl := someI hM
      exact hQ _ _ _ (fin1r Try.results43 ⟨rfl, rfl⟩ ⟨rfl, hst⟩)
    have je21_1 : ∀ (f : Nat → Value) (w : World), f 2 = .int .i64 1 → St w0 (ros) (rs) w → .inr () = o21 → Q8 .ret (fr 64 f) w := by
      intro f w eje21_1_2 hst ho
      subst ho
      refine qb8 _ _ _ ?_
      refine z6 _ _ _ rfl ?_
      obtain rfl := someI hM
      exact hQ _ _ _ (fin1r Try.results43 ⟨rfl, eje21_1_2⟩ ⟨rfl, hst⟩)
    refine loopQ (fun s a w => ∃ (x72 : Int) (f : Nat → Value), x72 = s ∧ a = fr 64 f ∧ f 1 = .pointer (some ⟨b3, 0, none⟩) ∧ f 3 = .int .i64 (x1.length : Int) ∧ f 4 = .int .i64 x72 ∧ St w0 (ros) (box b3 27 [h2.v] :: rs) w) go21 ⟨_, _, rfl, rfl, rfl, rfl, rfl, hst⟩ ?_
    clear hst
    rintro _ _ w r21_ ⟨x72, f, rfl, rfl, e21_1, e21_3, e21_4, hst⟩ hM21 ho21 Q100021 n21 zz21
    refine seqQ fun Q70 k70 z70 => ?_
    refine seqQ fun Q71 k71 z71 => ?_
    refine wp_region_lit ?_
    refine Y wn rfl (ym (v := .int .i64 x72) (et rfl e21_4)) ?_
    refine Y wn rfl (ym (v := .int .i64 (x1.length : Int)) (et rfl e21_3)) ?_
    refine Y wn rfl (ylss (et rfl rfl) (et rfl rfl)) ?_
    refine wpList_nil ?_
    refine k71 _ _ ?_
    rcases iteS hM21 with ⟨c141, hM21⟩ | ⟨c141, hM21⟩
    · refine condT (et rfl rfl) (decide_eq_true c141) ?_
      refine wp_skip ?_
      refine k70 _ _ ?_
      refine seqQ fun Q72 k72 z72 => ?_
      refine blockQ fun Q73 qb73 => ?_
      refine seqQ fun Q74 k74 z74 => ?_
      refine seqQ fun Q75 k75 z75 => ?_
      refine wp_region_lit ?_
      refine Y wn rfl (yFb FL_27_0 (et rfl e21_1)) ?_
      refine Y wn rfl (yLb (u := h2.v) O_25 (et rfl rfl) hst mhR rfl) ?_
      refine Y wn rfl (ym (v := .int .i64 x72) (et rfl e21_4)) ?_
      obtain ⟨x142, gx142, hM21⟩ := bs hM21
      refine Y wn rfl (yIa SL_25 (et rfl rfl) (et rfl rfl) hst (rdI q1) gx142) ?_
      obtain ⟨h143, hst⟩ := iLs hst q1 gx142
      refine Y wn rfl (yCt O_22 (et rfl rfl) hst (mtF mhF) rfl) ?_
      obtain ⟨r144, gr144, hM21⟩ := bs hM21
      refine Yc wn rfl (yCall FN_61 (a1 (et rfl rfl))) (sparsekit_Ascending_ok (hM := gr144) (hst := hst) (q1 := mhF)) ?_
      clear hst
      rintro _ w ⟨rfl, hst⟩
      refine ⟨_, rfl, ?_⟩
      refine Y wn rfl (ynot (et rfl rfl)) ?_
      refine wpList_nil ?_
      refine k75 _ _ ?_
      rcases iteS hM21 with ⟨c145, hM21⟩ | ⟨c145, hM21⟩
      · refine condF (et rfl rfl) (nF c145) ?_
        refine wp_skip ?_
        refine k74 _ _ ?_
        refine seqQ fun Q76 k76 z76 => ?_
        refine wp_region_lit ?_
        refine Y wn rfl (ya (v := .int .i64 0) rfl) ?_
        refine wpList_nil ?_
        refine k76 _ _ ?_
        refine blockQ fun Q77 qb77 => ?_
        obtain ⟨o28, go28, hM21⟩ := bs hM21
        have je28_0 : ∀ (f : Nat → Value) (w : World), f 1 = .pointer (some ⟨b3, 0, none⟩) → f 3 = .int .i64 (x1.length : Int) → f 4 = .int .i64 x72 → St w0 (ros) (box b3 27 [h2.v] :: rs) w → .inl () = o28 → Q77 (.exit 2) (fr 64 f) w := by
          intro f w eje28_0_1 eje28_0_3 eje28_0_4 hst ho
          subst ho
          refine qb77 _ _ _ ?_
          refine qb73 _ _ _ ?_
          refine k72 _ _ ?_
          refine wp_region_lit ?_
          refine Y wn rfl (ym (v := .int .i64 x72) (et rfl eje28_0_4)) ?_
          refine Y wn rfl (yadd (et rfl rfl) rfl) ?_
          refine Y wn rfl (ya (v := .int .i64 (wa .i64 x72 1)) (et rfl rfl)) ?_
          refine wpList_nil ?_
          obtain rfl := someI hM21
          exact n21 _ _ _ rfl ⟨_, _, rfl, rfl, eje28_0_1, eje28_0_3, rfl, hst⟩
        have je28_1 : ∀ (f : Nat → Value) (w : World), f 2 = .int .i64 1 → St w0 (ros) (rs) w → .inr () = o28 → Q77 .ret (fr 64 f) w := by
          intro f w eje28_1_2 hst ho
          subst ho
          refine qb77 _ _ _ ?_
          refine qb73 _ _ _ ?_
          refine z72 _ _ _ rfl ?_
          obtain rfl := someI hM21
          refine zz21 _ _ _ _ rfl rfl ?_
          exact je21_1 _ _ eje28_1_2 hst (ho21 _ rfl)
        refine loopQ (fun s a w => ∃ (x166 : Int) (f : Nat → Value), x166 = s ∧ a = fr 64 f ∧ f 1 = .pointer (some ⟨b3, 0, none⟩) ∧ f 3 = .int .i64 (x1.length : Int) ∧ f 4 = .int .i64 x72 ∧ f 5 = .int .i64 x166 ∧ St w0 (ros) (box b3 27 [h2.v] :: rs) w) go28 ⟨_, _, rfl, rfl, e21_1, e21_3, e21_4, rfl, (hst.facts (allT (allT allI)))⟩ ?_
        clear hst
        rintro _ _ w r28_ ⟨x166, f, rfl, rfl, e28_1, e28_3, e28_4, e28_5, hst⟩ hM28 ho28 Q100028 n28 zz28
        refine seqQ fun Q92 k92 z92 => ?_
        refine seqQ fun Q93 k93 z93 => ?_
        refine wp_region_lit ?_
        refine Y wn rfl (ym (v := .int .i64 x166) (et rfl e28_5)) ?_
        refine Y wn rfl (yFb FL_27_0 (et rfl e28_1)) ?_
        refine Y wn rfl (yLb (u := h2.v) O_25 (et rfl rfl) hst mhR rfl) ?_
        refine Y wn rfl (ym (v := .int .i64 x72) (et rfl e28_4)) ?_
        obtain ⟨x188, gx188, hM28⟩ := bs hM28
        refine Y wn rfl (yIa SL_25 (et rfl rfl) (et rfl rfl) hst (rdI q1) gx188) ?_
        obtain ⟨h189, hst⟩ := iLs hst q1 gx188
        refine Y wn rfl (yCt O_22 (et rfl rfl) hst (mtF mhF) rfl) ?_
        refine Y wn rfl (yLen SL_22 (et rfl rfl) hst (rdI mhF)) ?_
        refine Y wn rfl (ylss (et rfl rfl) (et rfl rfl)) ?_
        refine wpList_nil ?_
        refine k93 _ _ ?_
        rcases iteS hM28 with ⟨c190, hM28⟩ | ⟨c190, hM28⟩
        · refine condT (et rfl rfl) (decide_eq_true c190) ?_
          refine wp_skip ?_
          refine k92 _ _ ?_
          refine seqQ fun Q94 k94 z94 => ?_
          refine blockQ fun Q95 qb95 => ?_
          refine seqQ fun Q96 k96 z96 => ?_
          refine wp_region_lit ?_
          refine Y wn rfl (yFb FL_27_0 (et rfl e28_1)) ?_
          refine Y wn rfl (yLb (u := h2.v) O_25 (et rfl rfl) hst mhR rfl) ?_
          refine Y wn rfl (ym (v := .int .i64 x72) (et rfl e28_4)) ?_
          obtain ⟨x191, gx191, hM28⟩ := bs hM28
          refine Y wn rfl (yIa SL_25 (et rfl rfl) (et rfl rfl) hst (rdI (mtF (mtF q1))) gx191) ?_
          obtain ⟨h192, hst⟩ := iLs hst (mtF (mtF q1)) gx191
          refine Y wn rfl (yCt O_22 (et rfl rfl) hst (mtF mhF) rfl) ?_
          refine Y wn rfl (ym (v := .int .i64 x166) (et rfl e28_5)) ?_
          obtain ⟨x193, gx193, hM28⟩ := bs hM28
          refine Y wn rfl (yIa SL_22 (et rfl rfl) (et rfl rfl) hst (rdI mhF) gx193) ?_
          refine Y wn rfl (yI O_3 (et rfl rfl) hst (rdI mhF) gx193) ?_
          refine Y wn rfl (ya (v := .int .i64 x193) (et rfl rfl)) ?_
          refine wpList_nil ?_
          refine k96 _ _ ?_
          refine seqQ fun Q97 k97 z97 => ?_
          refine wp_region_lit ?_
          refine Y wn rfl (ym (v := .int .i64 x193) (et rfl rfl)) ?_
          refine Y wn rfl (ylss (et rfl rfl) rfl) ?_
          refine Y wn rfl (ym (v := .bool (decide (x193 < 0))) (et rfl rfl)) ?_
          refine joinW 4 (fun f w => f 1 = .pointer (some ⟨b3, 0, none⟩) ∧ f 3 = .int .i64 (x1.length : Int) ∧ f 4 = .int .i64 x72 ∧ f 5 = .int .i64 x166 ∧ f 6 = .int .i64 x193 ∧ f 48 = .bool ((decide (x193 < 0)) || (decide ((x1.length : Int) ≤ x193))) ∧ St w0 (ros) (box b3 27 [h2.v] :: rs) w) (fun j29 => ?_) ?_
          · rcases Bool.eq_false_or_eq_true (decide (x193 < 0)) with c195 | c195
            · refine Gn (wx rfl rfl rfl c195) rfl ?_
              refine Gn (wx rfl rfl rfl c195) rfl ?_
              refine Gn (wx rfl rfl rfl c195) rfl ?_
              refine Y wn rfl (ypt (v := .bool true) (et rfl rfl) c195 rfl) ?_
              exact j29 _ _ ⟨e28_1, e28_3, e28_4, e28_5, rfl, (congrArg Value.bool (orT c195)), (hst.facts (allT (allT (allT (allT allI)))))⟩
            · refine Y (wg rfl rfl rfl c195) rfl (ym (v := .int .i64 x193) (et rfl rfl)) ?_
              refine Y (wg rfl rfl rfl c195) rfl (ym (v := .int .i64 (x1.length : Int)) (et rfl e28_3)) ?_
              refine Y (wg rfl rfl rfl c195) rfl (ygeq (et rfl rfl) (et rfl rfl)) ?_
              refine Y wn rfl (ypf (v := .bool (decide ((x1.length : Int) ≤ x193))) (et rfl rfl) c195 (et rfl rfl)) ?_
              exact j29 _ _ ⟨e28_1, e28_3, e28_4, e28_5, rfl, (congrArg Value.bool (orF c195)), (hst.facts (allT (allT (allT (allT allI)))))⟩
          clear hst
          rintro f w ⟨e194_1, e194_3, e194_4, e194_5, e194_6, e194_48, hst⟩
          refine Y wn rfl (ym (v := .bool ((decide (x193 < 0)) || (decide ((x1.length : Int) ≤ x193)))) (et rfl e194_48)) ?_
          refine joinW 4 (fun f w => f 1 = .pointer (some ⟨b3, 0, none⟩) ∧ f 3 = .int .i64 (x1.length : Int) ∧ f 4 = .int .i64 x72 ∧ f 5 = .int .i64 x166 ∧ f 6 = .int .i64 x193 ∧ f 53 = .bool (((decide (x193 < 0)) || (decide ((x1.length : Int) ≤ x193))) || (decide (x193 = x72))) ∧ St w0 (ros) (box b3 27 [h2.v] :: rs) w) (fun j30 => ?_) ?_
          · rcases Bool.eq_false_or_eq_true (((decide (x193 < 0)) || (decide ((x1.length : Int) ≤ x193)))) with c197 | c197
            · refine Gn (wx rfl rfl rfl c197) rfl ?_
              refine Gn (wx rfl rfl rfl c197) rfl ?_
              refine Gn (wx rfl rfl rfl c197) rfl ?_
              refine Y wn rfl (ypt (v := .bool true) (et rfl rfl) c197 rfl) ?_
              exact j30 _ _ ⟨e194_1, e194_3, e194_4, e194_5, e194_6, (congrArg Value.bool (orT c197)), hst⟩
            · refine Y (wg rfl rfl rfl c197) rfl (ym (v := .int .i64 x193) (et rfl e194_6)) ?_
              refine Y (wg rfl rfl rfl c197) rfl (ym (v := .int .i64 x72) (et rfl e194_4)) ?_
              refine Y (wg rfl rfl rfl c197) rfl (yeql (et rfl rfl) (et rfl rfl)) ?_
              refine Y wn rfl (ypf (v := .bool (decide (x193 = x72))) (et rfl rfl) c197 (et rfl rfl)) ?_
              exact j30 _ _ ⟨e194_1, e194_3, e194_4, e194_5, e194_6, (congrArg Value.bool (orF c197)), hst⟩
          clear hst
          rintro f w ⟨e196_1, e196_3, e196_4, e196_5, e196_6, e196_53, hst⟩
          refine Y wn rfl (ym (v := .bool (((decide (x193 < 0)) || (decide ((x1.length : Int) ≤ x193))) || (decide (x193 = x72)))) (et rfl e196_53)) ?_
          obtain ⟨r201, gr201, hM28⟩ := bs hM28
          refine joinW 9 (fun f w => f 1 = .pointer (some ⟨b3, 0, none⟩) ∧ f 3 = .int .i64 (x1.length : Int) ∧ f 4 = .int .i64 x72 ∧ f 5 = .int .i64 x166 ∧ f 63 = .bool r201 ∧ St w0 (ros) (box b3 27 [h2.v] :: rs) w) (fun j31 => ?_) ?_
          · rcases iteS gr201 with ⟨c203, gr201⟩ | ⟨c203, gr201⟩
            · refine Gn (wx rfl rfl rfl c203) rfl ?_
              refine Gn (wx rfl rfl rfl c203) rfl ?_
              refine Gn (wx rfl rfl rfl c203) rfl ?_
              refine Gn (wx rfl rfl rfl c203) rfl ?_
              refine Gn (wx rfl rfl rfl c203) rfl ?_
              refine Gn (wx rfl rfl rfl c203) rfl ?_
              refine Gn (wx rfl rfl rfl c203) rfl ?_
              refine Gn (wx rfl rfl rfl c203) rfl ?_
              refine Y wn rfl (ypt (v := .bool true) (et rfl rfl) c203 rfl) ?_
              obtain rfl := someI gr201
              exact j31 _ _ ⟨e196_1, e196_3, e196_4, e196_5, rfl, hst⟩
            · refine Y (wg rfl rfl rfl (bfalse c203)) rfl (yFb FL_27_0 (et rfl e196_1)) ?_
              refine Y (wg rfl rfl rfl (bfalse c203)) rfl (yLb (u := h2.v) O_25 (et rfl rfl) hst mhR rfl) ?_
              refine Y (wg rfl rfl rfl (bfalse c203)) rfl (ym (v := .int .i64 x193) (et rfl e196_6)) ?_
              obtain ⟨x204, gx204, gr201⟩ := bs gr201
              refine Y (wg rfl rfl rfl (bfalse c203)) rfl (yIa SL_25 (et rfl rfl) (et rfl rfl) hst (rdI q1) gx204) ?_
              obtain ⟨h205, hst⟩ := iLs hst q1 gx204
              refine Y (wg rfl rfl rfl (bfalse c203)) rfl (yCt O_22 (et rfl rfl) hst (mtF mhF) rfl) ?_
              refine Y (wg rfl rfl rfl (bfalse c203)) rfl (ym (v := .int .i64 x72) (et rfl e196_4)) ?_
              obtain ⟨r206, gr206, gr201⟩ := bs gr201
              refine Yc (wg rfl rfl rfl (bfalse c203)) rfl (yCall FN_62 (a2 (et rfl rfl) (et rfl rfl))) (sparsekit_In_ok (hM := gr206) (hst := hst) (q1 := mhF)) ?_
              clear hst
              rintro _ w ⟨rfl, hst⟩
              refine ⟨_, rfl, ?_⟩
              refine Y (wg rfl rfl rfl (bfalse c203)) rfl (ynot (et rfl rfl)) ?_
              refine Y wn rfl (ypf (v := .bool (!(r206))) (et rfl rfl) (bfalse c203) (et rfl rfl)) ?_
              obtain rfl := someI gr201
              exact j31 _ _ ⟨e196_1, e196_3, e196_4, e196_5, rfl, (hst.facts (allT (allT allI)))⟩
          clear hst
          rintro f w ⟨e202_1, e202_3, e202_4, e202_5, e202_63, hst⟩
          refine wpList_nil ?_
          refine k97 _ _ ?_
          rcases iteS hM28 with ⟨c207, hM28⟩ | ⟨c207, hM28⟩
          · refine condT (et rfl e202_63) c207 ?_
            refine seqQ fun Q98 k98 z98 => ?_
            refine wp_region_lit ?_
            refine Y wn rfl (ya (v := .int .i64 1) rfl) ?_
            refine wpList_nil ?_
            refine k98 _ _ ?_
            refine wp_ret ?_
            refine qb95 _ _ _ ?_
            refine z94 _ _ _ rfl ?_
            obtain rfl := someI hM28
            refine zz28 _ _ _ _ rfl rfl ?_
            exact je28_1 _ _ rfl (hst.pk 1 [] rfl) (ho28 _ rfl)
          · refine condF (et rfl e202_63) (bfalse c207) ?_
            refine wp_skip ?_
            refine qb95 _ _ _ ?_
            refine k94 _ _ ?_
            refine wp_region_lit ?_
            refine Y wn rfl (ym (v := .int .i64 x166) (et rfl e202_5)) ?_
            refine Y wn rfl (yadd (et rfl rfl) rfl) ?_
            refine Y wn rfl (ya (v := .int .i64 (wa .i64 x166 1)) (et rfl rfl)) ?_
            refine wpList_nil ?_
            obtain rfl := someI hM28
            exact n28 _ _ _ rfl ⟨_, _, rfl, rfl, e202_1, e202_3, e202_4, rfl, hst⟩
        · refine condF (et rfl rfl) (decide_eq_false c190) ?_
          refine wp_exit ?_
          refine z92 _ _ _ rfl ?_
          obtain rfl := someI hM28
          refine zz28 _ _ _ _ rfl rfl ?_
          exact je28_0 _ _ e28_1 e28_3 e28_4 (hst.facts (allT (allT allI))) (ho28 _ rfl)
      · refine condT (et rfl rfl) (nT (bfalse c145)) ?_
        refine seqQ fun Q99 k99 z99 => ?_
        refine wp_region_lit ?_
        refine Y wn rfl (ya (v := .int .i64 1) rfl) ?_
        refine wpList_nil ?_
        refine k99 _ _ ?_
        refine wp_ret ?_
        refine z74 _ _ _ rfl ?_
        refine qb73 _ _ _ ?_
        refine z72 _ _ _ rfl ?_
        obtain rfl := someI hM21
        refine zz21 _ _ _ _ rfl rfl ?_
        exact je21_1 _ _ rfl ((hst.pk 1 [] rfl).facts (allT (allT allI))) (ho21 _ rfl)
    · refine condF (et rfl rfl) (decide_eq_false c141) ?_
      refine wp_exit ?_
      refine z70 _ _ _ rfl ?_
      obtain rfl := someI hM21
      refine zz21 _ _ _ _ rfl rfl ?_
      exact je21_0 _ _ (hst.pk 1 [] rfl) (ho21 _ rfl)

theorem sparseref12_Table_ok {w0 : World} {ros : List Fact} {rs : List Res} {w : World} {x1 : List (List Int)} {h2 : Hdr} {out : (List (List Bool))} (hM : sparseref12_Table x1 = some out) (q1 : imm (rS (rI .i64)) h2.v x1 ∈ ros) (hst : St w0 ros (rs) w) :
    Calls Try.prog 63 #[.agg #[h2.v]] w (fun e w => ∃ (h100001 : Hdr) (y100002 : List Hdr), e = .returned (h100001.v) ∧ St w0 (ros) (row 54 rH h100001.v y100002 :: fam 4 rB y100002 out :: rs) w) := by
  refine enterQ Try.func63 rfl Try.ntmps63 rfl fun Q hQ => ?_
  refine seqQ fun Q1 k1 z1 => ?_
  refine wp_region_lit ?_
  refine YB wn rfl (r_box (vals := [h2.v]) hst (et rfl rfl) rfl) ?_
  clear hst
  intro b3 w hst
  refine Y wn rfl (ya (v := hnil.v) rfl) ?_
  refine wpList_nil ?_
  refine k1 _ _ ?_
  refine seqQ fun Q2 k2 z2 => ?_
  refine wp_region_lit ?_
  refine Y wn rfl (yFb FL_27_0 (et rfl rfl)) ?_
  refine Y wn rfl (yLb (u := h2.v) O_25 (et rfl rfl) hst mhR rfl) ?_
  refine Y wn rfl (yLen SL_25 (et rfl rfl) hst (rdI q1)) ?_
  refine Y wn rfl (ya (v := .int .i64 (x1.length : Int)) (et rfl rfl)) ?_
  refine wpList_nil ?_
  refine k2 _ _ ?_
  refine seqQ fun Q3 k3 z3 => ?_
  refine wp_region_lit ?_
  refine Y wn rfl (ya (v := hnil.v) rfl) ?_
  refine wpList_nil ?_
  refine k3 _ _ ?_
  refine seqQ fun Q4 k4 z4 => ?_
  refine seqQ fun Q5 k5 z5 => ?_
  refine wp_region_lit ?_
  refine Y wn rfl (ya (v := .int .i64 0) rfl) ?_
  refine wpList_nil ?_
  refine k5 _ _ ?_
  refine blockQ fun Q6 qb6 => ?_
  obtain ⟨o3, go3, hM⟩ := bs hM
  have je3_0 : ∀ (x84 : List (List Bool)) (h82 : Hdr) (y83 : List Hdr) (f : Nat → Value) (w : World), f 4 = h82.v → St w0 (ros) (row 54 rH h82.v y83 :: fam 4 rB y83 x84 :: rs) w → x84 = o3 → Q6 (.exit 0) (fr 43 f) w := by
    intro x84 h82 y83 f w eje3_0_4 hst ho
    subst ho
    refine qb6 _ _ _ ?_
    refine k4 _ _ ?_
    refine seqQ fun Q47 k47 z47 => ?_
    refine wp_region_lit ?_
    refine Y wn rfl (ym (v := h82.v) (et rfl eje3_0_4)) ?_
    refine Y wn rfl (ya (v := h82.v) (et rfl rfl)) ?_
    refine wpList_nil ?_
    refine k47 _ _ ?_
    refine wp_ret ?_
    obtain rfl := someI hM
    exact hQ _ _ _ (fin1r Try.results63 ⟨rfl, rfl⟩ ⟨_, _, rfl, hst⟩)
  replace hst := ((hst.rowNh 54 rH).fNew 4 rB).pk 2 [1, 0] rfl
  refine loopQ (fun s a w => ∃ (x41 : List (List Bool)) (x42 : Int) (f : Nat → Value) (h39 : Hdr) (y40 : List Hdr), (x41, x42) = s ∧ a = fr 43 f ∧ f 1 = .pointer (some ⟨b3, 0, none⟩) ∧ f 3 = .int .i64 (x1.length : Int) ∧ f 4 = h39.v ∧ f 5 = .int .i64 x42 ∧ St w0 (ros) (box b3 27 [h2.v] :: row 54 rH h39.v y40 :: fam 4 rB y40 x41 :: rs) w) go3 ⟨_, _, _, _, _, rfl, rfl, rfl, rfl, rfl, rfl, (hst.pk 3 [2, 0, 0] rfl)⟩ ?_
  clear hst
  rintro _ _ w r3_ ⟨x41, x42, f, h39, y40, rfl, rfl, e3_1, e3_3, e3_4, e3_5, hst⟩ hM3 ho3 Q100003 n3 zz3
  refine seqQ fun Q48 k48 z48 => ?_
  refine seqQ fun Q49 k49 z49 => ?_
  refine wp_region_lit ?_
  refine Y wn rfl (ym (v := .int .i64 x42) (et rfl e3_5)) ?_
  refine Y wn rfl (ym (v := .int .i64 (x1.length : Int)) (et rfl e3_3)) ?_
  refine Y wn rfl (ylss (et rfl rfl) (et rfl rfl)) ?_
  refine wpList_nil ?_
  refine k49 _ _ ?_
  rcases iteS hM3 with ⟨c85, hM3⟩ | ⟨c85, hM3⟩
  · refine condT (et rfl rfl) (decide_eq_true c85) ?_
    refine wp_skip ?_
    refine k48 _ _ ?_
    refine seqQ fun Q50 k50 z50 => ?_
    refine blockQ fun Q51 qb51 => ?_
    refine seqQ fun Q52 k52 z52 => ?_
    refine wp_region_lit ?_
    refine Y wn rfl (ym (v := .int .i64 (x1.length : Int)) (et rfl e3_3)) ?_
    obtain ⟨x88, gx88, hM3⟩ := bs hM3
    refine YH wn rfl (rMk hst SL_54 (et rfl rfl) gx88) ?_
    clear hst
    intro h86 w hst
    refine Y wn rfl (ya (v := h86.v) (et rfl rfl)) ?_
    refine wpList_nil ?_
    refine k52 _ _ ?_
    refine seqQ fun Q53 k53 z53 => ?_
    refine seqQ fun Q54 k54 z54 => ?_
    refine wp_region_lit ?_
    refine Y wn rfl (ya (v := .int .i64 0) rfl) ?_
    refine wpList_nil ?_
    refine k54 _ _ ?_
    refine blockQ fun Q55 qb55 => ?_
    obtain ⟨o4, go4, hM3⟩ := bs hM3
    have je4_0 : ∀ (x107 : List Bool) (f : Nat → Value) (w : World), f 1 = .pointer (some ⟨b3, 0, none⟩) → f 3 = .int .i64 (x1.length : Int) → f 4 = h39.v → f 5 = .int .i64 x42 → f 6 = h86.v → St w0 (ros) (box b3 27 [h2.v] :: row 54 rH h39.v y40 :: fam 4 rB y40 x41 :: row 4 rB h86.v x107 :: rs) w → x107 = o4 → Q55 (.exit 2) (fr 43 f) w := by
      intro x107 f w eje4_0_1 eje4_0_3 eje4_0_4 eje4_0_5 eje4_0_6 hst ho
      subst ho
      refine qb55 _ _ _ ?_
      refine k53 _ _ ?_
      refine wp_region_lit ?_
      refine Y wn rfl (ym (v := h39.v) (et rfl eje4_0_4)) ?_
      refine Y wn rfl (ym (v := h86.v) (et rfl eje4_0_6)) ?_
      refine YH wn rfl (rLt (n := 1) (l := [h86]) hst SLH_53 [h86.v] (bp1 (et rfl rfl)) rfl rfl (mks1 rfl (mkF rfl) mks0)) ?_
      clear hst
      intro h108 w hst
      obtain ⟨x111, gx111, hM3⟩ := bs hM3
      replace hst := hst.pk 3 [2, 0, 0] rfl
      obtain ⟨y112, ey112, gy112⟩ := app_rep gx111 (hst.famL (mtR (mtR (mtR mhR)))) (show [h86].length = [x107].length from rfl)
      refine YH wn rfl (rAp hst SLH_53 (et rfl rfl) (et rfl rfl) (rdO (mtR mhR)) gy112) ?_
      clear hst
      intro h110 w hst
      replace hst := hst.pk 5 [4, 3, 0, 0, 0] rfl
      replace hst := hst.fPush
      rw [← ey112, ← (app_some gx111).1] at hst
      refine Y wn rfl (ya (v := h110.v) (et rfl rfl)) ?_
      refine wpList_nil ?_
      refine qb51 _ _ _ ?_
      refine k50 _ _ ?_
      refine wp_region_lit ?_
      refine Y wn rfl (ym (v := .int .i64 x42) (et rfl eje4_0_5)) ?_
      refine Y wn rfl (yadd (et rfl rfl) rfl) ?_
      refine Y wn rfl (ya (v := .int .i64 (wa .i64 x42 1)) (et rfl rfl)) ?_
      refine wpList_nil ?_
      obtain rfl := someI hM3
      exact n3 _ _ _ rfl ⟨_, _, _, _, _, rfl, rfl, eje4_0_1, eje4_0_3, rfl, rfl, (hst.pk 4 [3, 1, 0] rfl)⟩
    refine loopQ (fun s a w => ∃ (x96 : List Bool) (x97 : Int) (f : Nat → Value), (x96, x97) = s ∧ a = fr 43 f ∧ f 1 = .pointer (some ⟨b3, 0, none⟩) ∧ f 3 = .int .i64 (x1.length : Int) ∧ f 4 = h39.v ∧ f 5 = .int .i64 x42 ∧ f 6 = h86.v ∧ f 7 = .int .i64 x97 ∧ St w0 (ros) (box b3 27 [h2.v] :: row 54 rH h39.v y40 :: fam 4 rB y40 x41 :: row 4 rB h86.v x96 :: rs) w) go4 ⟨_, _, _, rfl, rfl, e3_1, e3_3, e3_4, e3_5, rfl, rfl, (hst.pk 4 [1, 1, 1, 0] rfl)⟩ ?_
    clear hst
    rintro _ _ w r4_ ⟨x96, x97, f, rfl, rfl, e4_1, e4_3, e4_4, e4_5, e4_6, e4_7, hst⟩ hM4 ho4 Q100004 n4 zz4
    refine seqQ fun Q64 k64 z64 => ?_
    refine seqQ fun Q65 k65 z65 => ?_
    refine wp_region_lit ?_
    refine Y wn rfl (ym (v := .int .i64 x97) (et rfl e4_7)) ?_
    refine Y wn rfl (yFb FL_27_0 (et rfl e4_1)) ?_
    refine Y wn rfl (yLb (u := h2.v) O_25 (et rfl rfl) hst mhR rfl) ?_
    refine Y wn rfl (ym (v := .int .i64 x42) (et rfl e4_5)) ?_
    obtain ⟨x113, gx113, hM4⟩ := bs hM4
    refine Y wn rfl (yIa SL_25 (et rfl rfl) (et rfl rfl) hst (rdI q1) gx113) ?_
    obtain ⟨h114, hst⟩ := iLs hst q1 gx113
    refine Y wn rfl (yCt O_22 (et rfl rfl) hst (mtF mhF) rfl) ?_
    refine Y wn rfl (yLen SL_22 (et rfl rfl) hst (rdI mhF)) ?_
    refine Y wn rfl (ylss (et rfl rfl) (et rfl rfl)) ?_
    refine wpList_nil ?_
    refine k65 _ _ ?_
    rcases iteS hM4 with ⟨c115, hM4⟩ | ⟨c115, hM4⟩
    · refine condT (et rfl rfl) (decide_eq_true c115) ?_
      refine wp_skip ?_
      refine k64 _ _ ?_
      refine seqQ fun Q66 k66 z66 => ?_
      refine blockQ fun Q67 qb67 => ?_
      refine wp_region_lit ?_
      refine Y wn rfl (ym (v := h86.v) (et rfl e4_6)) ?_
      refine Y wn rfl (yFb FL_27_0 (et rfl e4_1)) ?_
      refine Y wn rfl (yLb (u := h2.v) O_25 (et rfl rfl) hst mhR rfl) ?_
      refine Y wn rfl (ym (v := .int .i64 x42) (et rfl e4_5)) ?_
      obtain ⟨x116, gx116, hM4⟩ := bs hM4
      refine Y wn rfl (yIa SL_25 (et rfl rfl) (et rfl rfl) hst (rdI (mtF (mtF q1))) gx116) ?_
      obtain ⟨h117, hst⟩ := iLs hst (mtF (mtF q1)) gx116
      refine Y wn rfl (yCt O_22 (et rfl rfl) hst (mtF mhF) rfl) ?_
      refine Y wn rfl (ym (v := .int .i64 x97) (et rfl e4_7)) ?_
      obtain ⟨x118, gx118, hM4⟩ := bs hM4
      refine Y wn rfl (yIa SL_22 (et rfl rfl) (et rfl rfl) hst (rdI mhF) gx118) ?_
      refine Y wn rfl (yI O_3 (et rfl rfl) hst (rdI mhF) gx118) ?_
      obtain ⟨x119, gx119, hM4⟩ := bs hM4
      refine Y wn rfl (yIs SL_54 (et rfl rfl) (et rfl rfl) hst (rdO (mtR (mtR (mtR mhR)))) gx119) ?_
      replace hst := hst.pk 4 [3, 0, 0, 0] rfl
      refine YT wn rfl (r_sti (cs := [.bool true]) hst O_4 rfl (et rfl rfl) rfl rfl mkB gx119) ?_
      clear hst
      intro w hst
      refine wpList_nil ?_
      refine qb67 _ _ _ ?_
      refine k66 _ _ ?_
      refine wp_region_lit ?_
      refine Y wn rfl (ym (v := .int .i64 x97) (et rfl e4_7)) ?_
      refine Y wn rfl (yadd (et rfl rfl) rfl) ?_
      refine Y wn rfl (ya (v := .int .i64 (wa .i64 x97 1)) (et rfl rfl)) ?_
      refine wpList_nil ?_
      obtain rfl := someI hM4
      exact n4 _ _ _ rfl ⟨_, _, _, rfl, rfl, e4_1, e4_3, e4_4, e4_5, e4_6, rfl, ((hst.pk 4 [1, 1, 1, 0] rfl).facts (allT (allT (allT (allT allI)))))⟩
    · refine condF (et rfl rfl) (decide_eq_false c115) ?_
      refine wp_exit ?_
      refine z64 _ _ _ rfl ?_
      obtain rfl := someI hM4
      refine zz4 _ _ _ _ rfl rfl ?_
      exact je4_0 _ _ _ e4_1 e4_3 e4_4 e4_5 e4_6 (hst.facts (allT (allT allI))) (ho4 _ rfl)
  · refine condF (et rfl rfl) (decide_eq_false c85) ?_
    refine wp_exit ?_
    refine z48 _ _ _ rfl ?_
    obtain rfl := someI hM3
    refine zz3 _ _ _ _ rfl rfl ?_
    exact je3_0 _ _ _ _ _ e3_4 (hst.pk 3 [1, 1] rfl) (ho3 _ rfl)

theorem sparseref16_Begin_ok {w0 : World} {ros : List Fact} {rs : List Res} {w : World} {x1 : List (List Int)} {h2 : Hdr} {out : (List (List Bool)) × (List Bool)} (hM : sparseref16_Begin x1 = some out) (q1 : imm (rS (rI .i64)) h2.v x1 ∈ ros) (hst : St w0 ros (rs) w) :
    Calls Try.prog 44 #[.agg #[h2.v]] w (fun e w => ∃ (b100001 : Nat) (h100002 : Hdr) (y100003 : List Hdr) (h100005 : Hdr), e = .returned (.pointer (some ⟨b100001, 0, none⟩)) ∧ St w0 (ros) (row 54 rH h100002.v y100003 :: fam 4 rB y100003 out.1 :: row 4 rB h100005.v out.2 :: box b100001 89 [h100002.v, h100005.v] :: rs) w) := by
  refine enterQ Try.func44 rfl Try.ntmps44 rfl fun Q hQ => ?_
  refine seqQ fun Q1 k1 z1 => ?_
  refine wp_region_lit ?_
  refine YB wn rfl (r_box (vals := [h2.v]) hst (et rfl rfl) rfl) ?_
  clear hst
  intro b3 w hst
  refine Y wn rfl (ya (v := .pointer none) rfl) ?_
  refine wpList_nil ?_
  refine k1 _ _ ?_
  refine seqQ fun Q2 k2 z2 => ?_
  obtain ⟨r4, gr4, hM⟩ := bs hM
  obtain ⟨x9, gx9, hM⟩ := bs hM
  refine joinN (n := 11) (fun f w => ∃ (b11 : Nat) (h12 : Hdr) (y13 : List Hdr) (h14 : Hdr), f 2 = .pointer (some ⟨b11, 0, none⟩) ∧ St w0 (ros) (row 54 rH h12.v y13 :: fam 4 rB y13 r4 :: row 4 rB h14.v x9 :: box b11 89 [h12.v, h14.v] :: rs) w) (fun j1 => ?_) ?_
  · refine wp_drawR [0, 1, 0, 4, 12, 28, 63, 127, 255] [1, 5, 7, 8] 4 folM (by kernel_rfl) (by kernel_rfl) (by kernel_rfl) ?_
    replace hst := hst.drew
    refine DRn (l1 := [0, 2, 3, 4]) (l2 := []) (lc := [1, 5]) (by kernel_rfl) (by kernel_rfl) (by kernel_rfl) ?_
    refine Ry rfl rfl wn (yLbs (us := [h2.v]) ST_27 (et rfl rfl) hst mhR rfl rfl) ?_
    refine Ry rfl rfl wn (yFb FL_27_0 (et rfl rfl)) ?_
    refine Ry rfl rfl wn (yLb (u := h2.v) O_25 (et rfl rfl) hst mhR rfl) ?_
    refine Ry rfl rfl wn (yLen SL_25 (et rfl rfl) hst (rdI q1)) ?_
    refine Rn QSn ?_
    refine Lc rfl ?_ (Lc rfl ?_ LAn)
    · refine Lk wn (yCall FN_63 (a1 (et rfl rfl))) (sparseref12_Table_ok (hM := gr4) (hst := hst) (q1 := q1)) ?_
      clear hst
      rintro _ w ⟨h5, y6, rfl, hst⟩
      refine ⟨_, rfl, ?_⟩
      refine DRn (l1 := []) (l2 := [2, 3, 4]) (lc := [5]) (by kernel_rfl) (by kernel_rfl) (by kernel_rfl) ?_
      refine Rn (Sy rfl rfl wn (yFb FL_27_0 (et rfl rfl)) rfl (Sy rfl rfl wn (yLb (u := h2.v) O_25 (et rfl rfl) hst (mtR (mtR mhR)) rfl) rfl (Sy rfl rfl wn (yLen SL_25 (et rfl rfl) hst (rdI q1)) rfl QSn))) ?_
      refine Lc rfl ?_ LAn
      refine LH wn (rMk hst SL_54 (et rfl rfl) gx9) ?_
      clear hst
      intro h7 w hst
      refine DRn (l1 := [6]) (l2 := []) (lc := [7]) (by kernel_rfl) (by kernel_rfl) (by kernel_rfl) ?_
      refine Ry rfl rfl wn (ybuild (us := [h5.v, h7.v]) [(0, h5.v), (1, h7.v)] SO_89 (bp2 (et rfl rfl) (et rfl rfl)) rfl) ?_
      refine Rn QSn ?_
      refine Lc rfl ?_ LAn
      refine LB wn (r_box (vals := [h5.v, h7.v]) hst (et rfl rfl) rfl) ?_
      clear hst
      intro b10 w hst
      refine DRn (l1 := []) (l2 := []) (lc := [8]) (by kernel_rfl) (by kernel_rfl) (by kernel_rfl) ?_
      refine Rn QSn ?_
      refine Lc rfl ?_ LAn
      refine Ly wn (ya (v := .pointer (some ⟨b10, 0, none⟩)) (et rfl rfl)) ?_
      refine DRz (l1 := []) (l2 := []) (by kernel_rfl) (by kernel_rfl) ?_
      refine Rn QSn ?_
      exact j1 _ _ ⟨_, _, _, _, rfl, (hst.pk 5 [2, 2, 1, 0] rfl)⟩
    · refine LH wn (rMk hst SL_54 (et rfl rfl) gx9) ?_
      clear hst
      intro h7 w hst
      refine DRn (l1 := []) (l2 := [0]) (lc := [1]) (by kernel_rfl) (by kernel_rfl) (by kernel_rfl) ?_
      refine Rn (Sy rfl rfl wn (yLbs (us := [h2.v]) ST_27 (et rfl rfl) hst (mtR mhR) rfl rfl) rfl QSn) ?_
      refine Lc rfl ?_ LAn
      refine Lk wn (yCall FN_63 (a1 (et rfl rfl))) (sparseref12_Table_ok (hM := gr4) (hst := hst) (q1 := q1)) ?_
      clear hst
      rintro _ w ⟨h5, y6, rfl, hst⟩
      refine ⟨_, rfl, ?_⟩
      refine DRn (l1 := [6]) (l2 := []) (lc := [7]) (by kernel_rfl) (by kernel_rfl) (by kernel_rfl) ?_
      refine Ry rfl rfl wn (ybuild (us := [h5.v, h7.v]) [(0, h5.v), (1, h7.v)] SO_89 (bp2 (et rfl rfl) (et rfl rfl)) rfl) ?_
      refine Rn QSn ?_
      refine Lc rfl ?_ LAn
      refine LB wn (r_box (vals := [h5.v, h7.v]) hst (et rfl rfl) rfl) ?_
      clear hst
      intro b10 w hst
      refine DRn (l1 := []) (l2 := []) (lc := [8]) (by kernel_rfl) (by kernel_rfl) (by kernel_rfl) ?_
      refine Rn QSn ?_
      refine Lc rfl ?_ LAn
      refine Ly wn (ya (v := .pointer (some ⟨b10, 0, none⟩)) (et rfl rfl)) ?_
      refine DRz (l1 := []) (l2 := []) (by kernel_rfl) (by kernel_rfl) ?_
      refine Rn QSn ?_
      exact j1 _ _ ⟨_, _, _, _, rfl, (hst.pk 5 [1, 1, 1, 0] rfl)⟩
  clear hst
  rintro f w ⟨b11, h12, y13, h14, e15_2, hst⟩
  refine k2 _ _ ?_
  refine wp_ret ?_
  obtain rfl := someI hM
  exact hQ _ _ _ (fin1r Try.results44 ⟨rfl, e15_2⟩ ⟨_, _, _, _, rfl, hst⟩)

theorem sparseref16_Elimination_Neighbours_ok {w0 : World} {ros : List Fact} {rs : List Res} {w : World} {x2 : List (List Bool)} {x5 : List Bool} {x7 : Int} {b1 : Nat} {h3 : Hdr} {y4 : List Hdr} {h6 : Hdr} {out : (List Int)} (hM : sparseref16_Elimination_Neighbours x2 x5 x7 = some out) (hst : St w0 ros (box b1 89 [h3.v, h6.v] :: row 54 rH h3.v y4 :: fam 4 rB y4 x2 :: row 4 rB h6.v x5 :: rs) w) :
    Calls Try.prog 45 #[.pointer (some ⟨b1, 0, none⟩), .int .i64 x7] w (fun e w => ∃ (h100001 : Hdr), e = .returned (h100001.v) ∧ St w0 (ros) (row 54 rH h3.v y4 :: fam 4 rB y4 x2 :: row 4 rB h6.v x5 :: box b1 89 [h3.v, h6.v] :: row 3 (rI .i64) h100001.v out :: rs) w) := by
  refine enterQ Try.func45 rfl Try.ntmps45 rfl fun Q hQ => ?_
  refine seqQ fun Q1 k1 z1 => ?_
  refine wp_region_lit ?_
  refine Y wn rfl (ya (v := hnil.v) rfl) ?_
  refine wpList_nil ?_
  refine k1 _ _ ?_
  refine seqQ fun Q2 k2 z2 => ?_
  refine wp_region_lit ?_
  refine Y wn rfl (ya (v := hnil.v) rfl) ?_
  refine wpList_nil ?_
  refine k2 _ _ ?_
  refine seqQ fun Q3 k3 z3 => ?_
  refine seqQ fun Q4 k4 z4 => ?_
  refine wp_region_lit ?_
  refine Y wn rfl (ya (v := .int .i64 0) rfl) ?_
  refine wpList_nil ?_
  refine k4 _ _ ?_
  refine blockQ fun Q5 qb5 => ?_
  obtain ⟨o5, go5, hM⟩ := bs hM
  have je5_0 : ∀ (x51 : List Int) (h50 : Hdr) (f : Nat → Value) (w : World), f 5 = h50.v → St w0 (ros) (row 54 rH h3.v y4 :: fam 4 rB y4 x2 :: row 4 rB h6.v x5 :: box b1 89 [h3.v, h6.v] :: row 3 (rI .i64) h50.v x51 :: rs) w → x51 = o5 → Q5 (.exit 0) (fr 41 f) w := by
    intro x51 h50 f w eje5_0_5 hst ho
    subst ho
    refine qb5 _ _ _ ?_
    refine k3 _ _ ?_
    refine seqQ fun Q16 k16 z16 => ?_
    refine wp_region_lit ?_
    refine Y wn rfl (ym (v := h50.v) (et rfl eje5_0_5)) ?_
    refine Y wn rfl (ya (v := h50.v) (et rfl rfl)) ?_
    refine wpList_nil ?_
    refine k16 _ _ ?_
    refine wp_ret ?_
    obtain rfl := someI hM
    exact hQ _ _ _ (fin1r Try.results45 ⟨rfl, rfl⟩ ⟨_, rfl, hst⟩)
  replace hst := hst.rowNh 3 (rI .i64)
  refine loopQ (fun s a w => ∃ (x27 : List Int) (x28 : Int) (f : Nat → Value) (h26 : Hdr), (x27, x28) = s ∧ a = fr 41 f ∧ f 0 = .pointer (some ⟨b1, 0, none⟩) ∧ f 1 = .int .i64 x7 ∧ f 5 = h26.v ∧ f 6 = .int .i64 x28 ∧ St w0 (ros) (row 54 rH h3.v y4 :: fam 4 rB y4 x2 :: row 4 rB h6.v x5 :: box b1 89 [h3.v, h6.v] :: row 3 (rI .i64) h26.v x27 :: rs) w) go5 ⟨_, _, _, _, rfl, rfl, rfl, rfl, rfl, rfl, (hst.pk 5 [2, 2, 2, 1, 0] rfl)⟩ ?_
  clear hst
  rintro _ _ w r5_ ⟨x27, x28, f, h26, rfl, rfl, e5_0, e5_1, e5_5, e5_6, hst⟩ hM5 ho5 Q100005 n5 zz5
  refine seqQ fun Q17 k17 z17 => ?_
  refine seqQ fun Q18 k18 z18 => ?_
  refine wp_region_lit ?_
  refine Y wn rfl (ym (v := .int .i64 x28) (et rfl e5_6)) ?_
  refine Y wn rfl (ym (v := .pointer (some ⟨b1, 0, none⟩)) (et rfl e5_0)) ?_
  refine Y wn rfl (yn (et rfl rfl)) ?_
  refine Y wn rfl (yFb FL_89_0 (et rfl rfl)) ?_
  refine Y wn rfl (yLb (u := h3.v) O_53 (et rfl rfl) hst (mtR (mtR (mtR mhR))) rfl) ?_
  refine Y wn rfl (yLenF SLH_53 (et rfl rfl) hst (rdO mhR) (mtR mhR)) ?_
  refine Y wn rfl (ylss (et rfl rfl) (et rfl rfl)) ?_
  refine wpList_nil ?_
  refine k18 _ _ ?_
  rcases iteS hM5 with ⟨c52, hM5⟩ | ⟨c52, hM5⟩
  · refine condT (et rfl rfl) (decide_eq_true c52) ?_
    refine wp_skip ?_
    refine k17 _ _ ?_
    refine seqQ fun Q19 k19 z19 => ?_
    refine blockQ fun Q20 qb20 => ?_
    refine seqQ fun Q21 k21 z21 => ?_
    refine wp_region_lit ?_
    refine Y wn rfl (ym (v := .pointer (some ⟨b1, 0, none⟩)) (et rfl e5_0)) ?_
    refine Y wn rfl (yn (et rfl rfl)) ?_
    refine Y wn rfl (yFb FL_89_0 (et rfl rfl)) ?_
    refine Y wn rfl (yLb (u := h3.v) O_53 (et rfl rfl) hst (mtR (mtR (mtR mhR))) rfl) ?_
    refine Y wn rfl (ym (v := .int .i64 x7) (et rfl e5_1)) ?_
    obtain ⟨x53, gx53, hM5⟩ := bs hM5
    obtain ⟨h54, gh54⟩ := hst.famI (mtR mhR) gx53
    refine Y wn rfl (yIa SLH_53 (et rfl rfl) (et rfl rfl) hst (rdO mhR) gh54) ?_
    refine Y wn rfl (yF1 O_54 (et rfl rfl) hst (rdO mhR) gh54 rfl) ?_
    refine Y wn rfl (ym (v := .int .i64 x28) (et rfl e5_6)) ?_
    obtain ⟨x55, gx55, hM5⟩ := bs hM5
    refine Y wn rfl (yIa SL_54 (et rfl rfl) (et rfl rfl) hst (rdF (mtR mhR) gh54 gx53) gx55) ?_
    refine Y wn rfl (yB O_4 (et rfl rfl) hst (rdF (mtR mhR) gh54 gx53) gx55) ?_
    refine Y wn rfl (ym (v := .bool x55) (et rfl rfl)) ?_
    obtain ⟨r57, gr57, hM5⟩ := bs hM5
    refine joinW 9 (fun f w => f 0 = .pointer (some ⟨b1, 0, none⟩) ∧ f 1 = .int .i64 x7 ∧ f 5 = h26.v ∧ f 6 = .int .i64 x28 ∧ f 35 = .bool r57 ∧ St w0 (ros) (row 54 rH h3.v y4 :: fam 4 rB y4 x2 :: row 4 rB h6.v x5 :: box b1 89 [h3.v, h6.v] :: row 3 (rI .i64) h26.v x27 :: rs) w) (fun j6 => ?_) ?_
    · rcases iteS gr57 with ⟨c59, gr57⟩ | ⟨c59, gr57⟩
      · refine Y (wg rfl rfl rfl c59) rfl (ym (v := .pointer (some ⟨b1, 0, none⟩)) (et rfl e5_0)) ?_
        refine Y (wg rfl rfl rfl c59) rfl (yn (et rfl rfl)) ?_
        refine Y (wg rfl rfl rfl c59) rfl (yFb FL_89_1 (et rfl rfl)) ?_
        refine Y (wg rfl rfl rfl c59) rfl (yLb (u := h6.v) O_54 (et rfl rfl) hst (mtR (mtR (mtR mhR))) rfl) ?_
        refine Y (wg rfl rfl rfl c59) rfl (ym (v := .int .i64 x28) (et rfl e5_6)) ?_
        obtain ⟨x60, gx60, gr57⟩ := bs gr57
        refine Y (wg rfl rfl rfl c59) rfl (yIa SL_54 (et rfl rfl) (et rfl rfl) hst (rdO (mtR (mtR mhR))) gx60) ?_
        refine Y (wg rfl rfl rfl c59) rfl (yB O_4 (et rfl rfl) hst (rdO (mtR (mtR mhR))) gx60) ?_
        refine Y (wg rfl rfl rfl c59) rfl (ynot (et rfl rfl)) ?_
        refine Y wn rfl (ypt (v := .bool (!(x60))) (et rfl rfl) c59 (et rfl rfl)) ?_
        obtain rfl := someI gr57
        exact j6 _ _ ⟨e5_0, e5_1, e5_5, e5_6, rfl, hst⟩
      · refine Gn (wx rfl rfl rfl (bfalse c59)) rfl ?_
        refine Gn (wx rfl rfl rfl (bfalse c59)) rfl ?_
        refine Gn (wx rfl rfl rfl (bfalse c59)) rfl ?_
        refine Gn (wx rfl rfl rfl (bfalse c59)) rfl ?_
        refine Gn (wx rfl rfl rfl (bfalse c59)) rfl ?_
        refine Gn (wx rfl rfl rfl (bfalse c59)) rfl ?_
        refine Gn (wx rfl rfl rfl (bfalse c59)) rfl ?_
        refine Gn (wx rfl rfl rfl (bfalse c59)) rfl ?_
        refine Y wn rfl (ypf (v := .bool false) (et rfl rfl) (bfalse c59) rfl) ?_
        obtain rfl := someI gr57
        exact j6 _ _ ⟨e5_0, e5_1, e5_5, e5_6, rfl, hst⟩
    clear hst
    rintro f w ⟨e58_0, e58_1, e58_5, e58_6, e58_35, hst⟩
    refine wpList_nil ?_
    refine k21 _ _ ?_
    have j7 : ∀ (x65 : List Int) (h64 : Hdr) (f : Nat → Value) (w : World), f 0 = .pointer (some ⟨b1, 0, none⟩) → f 1 = .int .i64 x7 → f 5 = h64.v → f 6 = .int .i64 x28 → St w0 (ros) (row 54 rH h3.v y4 :: fam 4 rB y4 x2 :: row 4 rB h6.v x5 :: box b1 89 [h3.v, h6.v] :: row 3 (rI .i64) h64.v x65 :: rs) w → sparseref16_Elimination_Neighbours_j7 x28 x65 = some r5_ → Q20 .normal (fr 41 f) w := by
      intro x65 h64 f w ej7_0 ej7_1 ej7_5 ej7_6 hst hM
      refine qb20 _ _ _ ?_
      refine k19 _ _ ?_
      refine wp_region_lit ?_
      refine Y wn rfl (ym (v := .int .i64 x28) (et rfl ej7_6)) ?_
      refine Y wn rfl (yadd (et rfl rfl) rfl) ?_
      refine Y wn rfl (ya (v := .int .i64 (wa .i64 x28 1)) (et rfl rfl)) ?_
      refine wpList_nil ?_
      obtain rfl := someI hM
      exact n5 _ _ _ rfl ⟨_, _, _, _, rfl, rfl, ej7_0, ej7_1, ej7_5, rfl, hst⟩
    rcases iteS hM5 with ⟨c66, hM5⟩ | ⟨c66, hM5⟩
    · refine condT (et rfl e58_35) c66 ?_
      refine wp_region_lit ?_
      refine Y wn rfl (ym (v := h26.v) (et rfl e58_5)) ?_
      refine Y wn rfl (ym (v := .int .i64 x28) (et rfl e58_6)) ?_
      refine YH wn rfl (rLt (n := 1) (l := [x28]) hst SL_22 [.int .i64 x28] (bp1 (et rfl rfl)) rfl rfl (mks1 (cs := [.int .i64 x28]) rfl mkI mks0)) ?_
      clear hst
      intro h67 w hst
      obtain ⟨x69, gx69, hM5⟩ := bs hM5
      replace hst := hst.pk 6 [5, 0, 0, 0, 0, 0] rfl
      refine YH wn rfl (rAp hst SL_22 (et rfl rfl) (et rfl rfl) (rdO (mtR mhR)) gx69) ?_
      clear hst
      intro h68 w hst
      refine Y wn rfl (ya (v := h68.v) (et rfl rfl)) ?_
      refine wpList_nil ?_
      exact j7 _ _ _ _ e58_0 e58_1 rfl e58_6 (hst.pk 6 [2, 2, 2, 2, 0] rfl) hM5
    · refine condF (et rfl e58_35) (bfalse c66) ?_
      refine wp_skip ?_
      exact j7 _ _ _ _ e58_0 e58_1 e58_5 e58_6 hst hM5
  · refine condF (et rfl rfl) (decide_eq_false c52) ?_
    refine wp_exit ?_
    refine z17 _ _ _ rfl ?_
    obtain rfl := someI hM5
    refine zz5 _ _ _ _ rfl rfl ?_
    exact je5_0 _ _ _ _ e5_5 hst (ho5 _ rfl)

theorem sparseref16_Elimination_Eliminate_ok {w0 : World} {ros : List Fact} {rs : List Res} {w : World} {x2 : List (List Bool)} {x5 : List Bool} {x7 : Int} {b1 : Nat} {h3 : Hdr} {y4 : List Hdr} {h6 : Hdr} {out : (List (List Bool)) × (List Bool)} (hM : sparseref16_Elimination_Eliminate x2 x5 x7 = some out) (hst : St w0 ros (box b1 89 [h3.v, h6.v] :: row 54 rH h3.v y4 :: fam 4 rB y4 x2 :: row 4 rB h6.v x5 :: rs) w) :
    Calls Try.prog 46 #[.pointer (some ⟨b1, 0, none⟩), .int .i64 x7] w (fun e w => e = .returned (.tuple #[]) ∧ St w0 (ros) (row 54 rH h3.v y4 :: fam 4 rB y4 out.1 :: row 4 rB h6.v out.2 :: box b1 89 [h3.v, h6.v] :: rs) w) := by
  refine enterQ Try.func46 rfl Try.ntmps46 rfl fun Q hQ => ?_
  refine seqQ fun Q1 k1 z1 => ?_
  refine wp_region_lit ?_
  refine Y wn rfl (ym (v := .pointer (some ⟨b1, 0, none⟩)) (et rfl rfl)) ?_
  refine Y wn rfl (ym (v := .int .i64 x7) (et rfl rfl)) ?_
  obtain ⟨r8, gr8, hM⟩ := bs hM
  refine Yc wn rfl (yCall FN_45 (a2 (et rfl rfl) (et rfl rfl))) (sparseref16_Elimination_Neighbours_ok (hM := gr8) (hst := hst) ) ?_
  clear hst
  rintro _ w ⟨h9, rfl, hst⟩
  refine ⟨_, rfl, ?_⟩
  refine Y wn rfl (ya (v := h9.v) (et rfl rfl)) ?_
  refine wpList_nil ?_
  refine k1 _ _ ?_
  refine seqQ fun Q2 k2 z2 => ?_
  refine seqQ fun Q3 k3 z3 => ?_
  refine wp_region_lit ?_
  refine Y wn rfl (ya (v := .int .i64 0) rfl) ?_
  refine wpList_nil ?_
  refine k3 _ _ ?_
  refine blockQ fun Q4 qb4 => ?_
  obtain ⟨o9, go9, hM⟩ := bs hM
  have je9_0 : ∀ (x116 : List (List Bool)) (f : Nat → Value) (w : World), f 0 = .pointer (some ⟨b1, 0, none⟩) → f 1 = .int .i64 x7 → St w0 (ros) (row 54 rH h3.v y4 :: fam 4 rB y4 x116 :: row 4 rB h6.v x5 :: box b1 89 [h3.v, h6.v] :: rs) w → x116 = o9 → Q4 (.exit 0) (fr 46 f) w := by
    intro x116 f w eje9_0_0 eje9_0_1 hst ho
    subst ho
    refine qb4 _ _ _ ?_
    refine k2 _ _ ?_
    refine wp_region_lit ?_
    refine Y wn rfl (ym (v := .pointer (some ⟨b1, 0, none⟩)) (et rfl eje9_0_0)) ?_
    refine Y wn rfl (yn (et rfl rfl)) ?_
    refine Y wn rfl (yFb FL_89_1 (et rfl rfl)) ?_
    refine Y wn rfl (yLb (u := h6.v) O_54 (et rfl rfl) hst (mtR (mtR (mtR mhR))) rfl) ?_
    refine Y wn rfl (ym (v := .int .i64 x7) (et rfl eje9_0_1)) ?_
    obtain ⟨x117, gx117, hM⟩ := bs hM
    refine Y wn rfl (yIs SL_54 (et rfl rfl) (et rfl rfl) hst (rdO (mtR (mtR mhR))) gx117) ?_
    replace hst := hst.pk 3 [2, 0, 0] rfl
    refine YT wn rfl (r_sti (cs := [.bool true]) hst O_4 rfl (et rfl rfl) rfl rfl mkB gx117) ?_
    clear hst
    intro w hst
    refine wpList_nil ?_
    obtain rfl := someI hM
    exact hQ _ _ _ (fin0n Try.results46 ⟨rfl, (hst.pk 4 [1, 1, 0, 0] rfl)⟩)
  refine loopQ (fun s a w => ∃ (x61 : List (List Bool)) (x62 : Int) (f : Nat → Value), (x61, x62) = s ∧ a = fr 46 f ∧ f 0 = .pointer (some ⟨b1, 0, none⟩) ∧ f 1 = .int .i64 x7 ∧ f 4 = h9.v ∧ f 5 = .int .i64 x62 ∧ St w0 (ros) (row 54 rH h3.v y4 :: fam 4 rB y4 x61 :: row 4 rB h6.v x5 :: box b1 89 [h3.v, h6.v] :: row 3 (rI .i64) h9.v r8 :: rs) w) go9 ⟨_, _, _, rfl, rfl, rfl, rfl, rfl, rfl, hst⟩ ?_
  clear hst
  rintro _ _ w r9_ ⟨x61, x62, f, rfl, rfl, e9_0, e9_1, e9_4, e9_5, hst⟩ hM9 ho9 Q100009 n9 zz9
  refine seqQ fun Q47 k47 z47 => ?_
  refine seqQ fun Q48 k48 z48 => ?_
  refine wp_region_lit ?_
  refine Y wn rfl (ym (v := .int .i64 x62) (et rfl e9_5)) ?_
  refine Y wn rfl (ym (v := h9.v) (et rfl e9_4)) ?_
  refine Y wn rfl (yLen SL_22 (et rfl rfl) hst (rdO (mtR (mtR (mtR (mtR mhR)))))) ?_
  refine Y wn rfl (ylss (et rfl rfl) (et rfl rfl)) ?_
  refine wpList_nil ?_
  refine k48 _ _ ?_
  rcases iteS hM9 with ⟨c118, hM9⟩ | ⟨c118, hM9⟩
  · refine condT (et rfl rfl) (decide_eq_true c118) ?_
    refine wp_skip ?_
    refine k47 _ _ ?_
    refine seqQ fun Q49 k49 z49 => ?_
    refine blockQ fun Q50 qb50 => ?_
    refine seqQ fun Q51 k51 z51 => ?_
    refine wp_region_lit ?_
    refine Y wn rfl (ya (v := .int .i64 0) rfl) ?_
    refine wpList_nil ?_
    refine k51 _ _ ?_
    refine blockQ fun Q52 qb52 => ?_
    obtain ⟨o12, go12, hM9⟩ := bs hM9
    have je12_0 : ∀ (x153 : List (List Bool)) (f : Nat → Value) (w : World), f 0 = .pointer (some ⟨b1, 0, none⟩) → f 1 = .int .i64 x7 → f 4 = h9.v → f 5 = .int .i64 x62 → St w0 (ros) (row 54 rH h3.v y4 :: fam 4 rB y4 x153 :: row 4 rB h6.v x5 :: box b1 89 [h3.v, h6.v] :: row 3 (rI .i64) h9.v r8 :: rs) w → x153 = o12 → Q52 (.exit 2) (fr 46 f) w := by
      intro x153 f w eje12_0_0 eje12_0_1 eje12_0_4 eje12_0_5 hst ho
      subst ho
      refine qb52 _ _ _ ?_
      refine qb50 _ _ _ ?_
      refine k49 _ _ ?_
      refine wp_region_lit ?_
      refine Y wn rfl (ym (v := .int .i64 x62) (et rfl eje12_0_5)) ?_
      refine Y wn rfl (yadd (et rfl rfl) rfl) ?_
      refine Y wn rfl (ya (v := .int .i64 (wa .i64 x62 1)) (et rfl rfl)) ?_
      refine wpList_nil ?_
      obtain rfl := someI hM9
      exact n9 _ _ _ rfl ⟨_, _, _, rfl, rfl, eje12_0_0, eje12_0_1, eje12_0_4, rfl, hst⟩
    refine loopQ (fun s a w => ∃ (x134 : List (List Bool)) (x135 : Int) (f : Nat → Value), (x134, x135) = s ∧ a = fr 46 f ∧ f 0 = .pointer (some ⟨b1, 0, none⟩) ∧ f 1 = .int .i64 x7 ∧ f 4 = h9.v ∧ f 5 = .int .i64 x62 ∧ f 6 = .int .i64 x135 ∧ St w0 (ros) (row 54 rH h3.v y4 :: fam 4 rB y4 x134 :: row 4 rB h6.v x5 :: box b1 89 [h3.v, h6.v] :: row 3 (rI .i64) h9.v r8 :: rs) w) go12 ⟨_, _, _, rfl, rfl, e9_0, e9_1, e9_4, e9_5, rfl, hst⟩ ?_
    clear hst
    rintro _ _ w r12_ ⟨x134, x135, f, rfl, rfl, e12_0, e12_1, e12_4, e12_5, e12_6, hst⟩ hM12 ho12 Q100012 n12 zz12
    refine seqQ fun Q63 k63 z63 => ?_
    refine seqQ fun Q64 k64 z64 => ?_
    refine wp_region_lit ?_
    refine Y wn rfl (ym (v := .int .i64 x135) (et rfl e12_6)) ?_
    refine Y wn rfl (ym (v := h9.v) (et rfl e12_4)) ?_
    refine Y wn rfl (yLen SL_22 (et rfl rfl) hst (rdO (mtR (mtR (mtR (mtR mhR)))))) ?_
    refine Y wn rfl (ylss (et rfl rfl) (et rfl rfl)) ?_
    refine wpList_nil ?_
    refine k64 _ _ ?_
    rcases iteS hM12 with ⟨c154, hM12⟩ | ⟨c154, hM12⟩
    · refine condT (et rfl rfl) (decide_eq_true c154) ?_
      refine wp_skip ?_
      refine k63 _ _ ?_
      refine seqQ fun Q65 k65 z65 => ?_
      refine blockQ fun Q66 qb66 => ?_
      refine seqQ fun Q67 k67 z67 => ?_
      refine wp_region_lit ?_
      refine Y wn rfl (ym (v := .int .i64 x62) (et rfl e12_5)) ?_
      refine Y wn rfl (ym (v := .int .i64 x135) (et rfl e12_6)) ?_
      refine Y wn rfl (yneq (et rfl rfl) (et rfl rfl)) ?_
      refine wpList_nil ?_
      refine k67 _ _ ?_
      have j13 : ∀ (x161 : List (List Bool)) (f : Nat → Value) (w : World), f 0 = .pointer (some ⟨b1, 0, none⟩) → f 1 = .int .i64 x7 → f 4 = h9.v → f 5 = .int .i64 x62 → f 6 = .int .i64 x135 → St w0 (ros) (row 54 rH h3.v y4 :: fam 4 rB y4 x161 :: row 4 rB h6.v x5 :: box b1 89 [h3.v, h6.v] :: row 3 (rI .i64) h9.v r8 :: rs) w → sparseref16_Elimination_Eliminate_j13 x135 x161 = some r12_ → Q66 .normal (fr 46 f) w := by
        intro x161 f w ej13_0 ej13_1 ej13_4 ej13_5 ej13_6 hst hM
        refine qb66 _ _ _ ?_
        refine k65 _ _ ?_
        refine wp_region_lit ?_
        refine Y wn rfl (ym (v := .int .i64 x135) (et rfl ej13_6)) ?_
        refine Y wn rfl (yadd (et rfl rfl) rfl) ?_
        refine Y wn rfl (ya (v := .int .i64 (wa .i64 x135 1)) (et rfl rfl)) ?_
        refine wpList_nil ?_
        obtain rfl := someI hM
        exact n12 _ _ _ rfl ⟨_, _, _, rfl, rfl, ej13_0, ej13_1, ej13_4, ej13_5, rfl, hst⟩
      rcases iteS hM12 with ⟨c162, hM12⟩ | ⟨c162, hM12⟩
      · refine condF (et rfl rfl) (nF (decide_eq_true c162)) ?_
        refine wp_skip ?_
        exact j13 _ _ _ e12_0 e12_1 e12_4 e12_5 e12_6 hst hM12
      · refine condT (et rfl rfl) (nT (decide_eq_false c162)) ?_
        obtain ⟨x163, gx163, hM12⟩ := bs hM12
        obtain ⟨x164, gx164, hM12⟩ := bs hM12
        obtain ⟨x166, gx166, hM12⟩ := bs hM12
        obtain ⟨x167, gx167, hM12⟩ := bs hM12
        obtain ⟨x168, gx168, hM12⟩ := bs hM12
        refine wp_drawR [0, 1, 3, 7, 0, 0, 48, 112, 255, 511, 0, 0, 3072, 7168, 16383, 32767] [15] 1 folM (by kernel_rfl) (by kernel_rfl) (by kernel_rfl) ?_
        replace hst := hst.drew
        refine DRn (l1 := [0, 1, 2, 3, 4, 5, 6, 7, 8, 9, 10, 11, 12, 13, 14]) (l2 := []) (lc := [15]) (by kernel_rfl) (by kernel_rfl) (by kernel_rfl) ?_
        refine Ry rfl rfl wn (ym (v := .pointer (some ⟨b1, 0, none⟩)) (et rfl e12_0)) ?_
        refine Ry rfl rfl wn (yn (et rfl rfl)) ?_
        refine Ry rfl rfl wn (yFb FL_89_0 (et rfl rfl)) ?_
        refine Ry rfl rfl wn (yLb (u := h3.v) O_53 (et rfl rfl) hst (mtR (mtR (mtR mhR))) rfl) ?_
        refine Ry rfl rfl wn (ym (v := h9.v) (et rfl e12_4)) ?_
        refine Ry rfl rfl wn (ym (v := .int .i64 x62) (et rfl e12_5)) ?_
        refine Ry rfl rfl wn (yIa SL_22 (et rfl rfl) (et rfl rfl) hst (rdO (mtR (mtR (mtR (mtR mhR))))) gx163) ?_
        refine Ry rfl rfl wn (yI O_3 (et rfl rfl) hst (rdO (mtR (mtR (mtR (mtR mhR))))) gx163) ?_
        obtain ⟨h165, gh165⟩ := hst.famI (mtR mhR) gx164
        refine Ry rfl rfl wn (yIa SLH_53 (et rfl rfl) (et rfl rfl) hst (rdO mhR) gh165) ?_
        refine Ry rfl rfl wn (yF1 O_54 (et rfl rfl) hst (rdO mhR) gh165 rfl) ?_
        refine Ry rfl rfl wn (ym (v := h9.v) (et rfl e12_4)) ?_
        refine Ry rfl rfl wn (ym (v := .int .i64 x135) (et rfl e12_6)) ?_
        refine Ry rfl rfl wn (yIa SL_22 (et rfl rfl) (et rfl rfl) hst (rdO (mtR (mtR (mtR (mtR mhR))))) gx166) ?_
        refine Ry rfl rfl wn (yI O_3 (et rfl rfl) hst (rdO (mtR (mtR (mtR (mtR mhR))))) gx166) ?_
        refine Ry rfl rfl wn (yIs SL_54 (et rfl rfl) (et rfl rfl) hst (rdF (mtR mhR) gh165 gx164) gx167) ?_
        refine Rn QSn ?_
        refine Lc rfl ?_ LAn
        replace hst := hst.pk 2 [1, 0] rfl
        refine LT wn (r_sti (cs := [.bool true]) (hst.foc gh165 gx164) O_4 rfl (et rfl rfl) rfl rfl mkB gx167) ?_
        clear hst
        intro w hst
        replace hst := hst.unfoc' gh165 gx168
        refine DRz (l1 := []) (l2 := []) (by kernel_rfl) (by kernel_rfl) ?_
        refine Rn QSn ?_
        exact j13 _ _ _ e12_0 e12_1 e12_4 e12_5 e12_6 (hst.pk 5 [1, 0, 0, 0, 0] rfl) hM12
    · refine condF (et rfl rfl) (decide_eq_false c154) ?_
      refine wp_exit ?_
      refine z63 _ _ _ rfl ?_
      obtain rfl := someI hM12
      refine zz12 _ _ _ _ rfl rfl ?_
      exact je12_0 _ _ _ e12_0 e12_1 e12_4 e12_5 hst (ho12 _ rfl)
  · refine condF (et rfl rfl) (decide_eq_false c118) ?_
    refine wp_exit ?_
    refine z47 _ _ _ rfl ?_
    obtain rfl := someI hM9
    refine zz9 _ _ _ _ rfl rfl ?_
    exact je9_0 _ _ _ e9_0 e9_1 (hst.pk 5 [0, 0, 0, 0] rfl) (ho9 _ rfl)

theorem sparseref19_Parent_ok {w0 : World} {ros : List Fact} {rs : List Res} {w : World} {x1 : List (List Int)} {h2 : Hdr} {out : (List Int) × Int} (hM : sparseref19_Parent x1 = some out) (q1 : imm (rS (rI .i64)) h2.v x1 ∈ ros) (hst : St w0 ros (rs) w) :
    Calls Try.prog 24 #[.agg #[h2.v]] w (fun e w => ∃ (h100001 : Hdr), e = .returned (.tuple #[h100001.v, .int .i64 out.2]) ∧ St w0 (ros) (row 3 (rI .i64) h100001.v out.1 :: rs) w) := by
  refine enterQ Try.func24 rfl Try.ntmps24 rfl fun Q hQ => ?_
  refine seqQ fun Q1 k1 z1 => ?_
  refine wp_region_lit ?_
  refine YB wn rfl (r_box (vals := [h2.v]) hst (et rfl rfl) rfl) ?_
  clear hst
  intro b3 w hst
  refine Y wn rfl (ya (v := hnil.v) rfl) ?_
  refine Y wn rfl (ya (v := .int .i64 0) rfl) ?_
  refine wpList_nil ?_
  refine k1 _ _ ?_
  refine seqQ fun Q2 k2 z2 => ?_
  refine seqQ fun Q3 k3 z3 => ?_
  refine wp_region_lit ?_
  refine Y wn rfl (yLbs (us := [h2.v]) ST_27 (et rfl rfl) hst mhR rfl rfl) ?_
  obtain ⟨r4, gr4, hM⟩ := bs hM
  refine Yc wn rfl (yCall FN_43 (a1 (et rfl rfl))) (sparseref12_Check_ok (hM := gr4) (hst := hst) (q1 := q1)) ?_
  clear hst
  rintro _ w ⟨rfl, hst⟩
  refine ⟨_, rfl, ?_⟩
  refine Y wn rfl (ya (v := .int .i64 r4) (et rfl rfl)) ?_
  refine wpList_nil ?_
  refine k3 _ _ ?_
  refine seqQ fun Q4 k4 z4 => ?_
  refine wp_region_lit ?_
  refine Y wn rfl (ym (v := .int .i64 r4) (et rfl rfl)) ?_
  refine Y wn rfl (yneq (et rfl rfl) rfl) ?_
  refine wpList_nil ?_
  refine k4 _ _ ?_
  rcases iteS hM with ⟨c5, hM⟩ | ⟨c5, hM⟩
  · refine condF (et rfl rfl) (nF (decide_eq_true c5)) ?_
    refine wp_skip ?_
    refine k2 _ _ ?_
    refine seqQ fun Q5 k5 z5 => ?_
    refine wp_region_lit ?_
    refine Y wn rfl (yLbs (us := [h2.v]) ST_27 (et rfl rfl) hst mhR rfl rfl) ?_
    obtain ⟨r6, gr6, hM⟩ := bs hM
    refine Yc wn rfl (yCall FN_44 (a1 (et rfl rfl))) (sparseref16_Begin_ok (hM := gr6) (hst := hst) (q1 := q1)) ?_
    clear hst
    rintro _ w ⟨b7, h8, y9, h10, rfl, hst⟩
    refine ⟨_, rfl, ?_⟩
    refine Y wn rfl (ya (v := .pointer (some ⟨b7, 0, none⟩)) (et rfl rfl)) ?_
    refine wpList_nil ?_
    refine k5 _ _ ?_
    refine seqQ fun Q6 k6 z6 => ?_
    refine wp_region_lit ?_
    refine Y wn rfl (ya (v := hnil.v) rfl) ?_
    refine wpList_nil ?_
    refine k6 _ _ ?_
    refine seqQ fun Q7 k7 z7 => ?_
    refine seqQ fun Q8 k8 z8 => ?_
    refine wp_region_lit ?_
    refine Y wn rfl (ya (v := .int .i64 0) rfl) ?_
    refine wpList_nil ?_
    refine k8 _ _ ?_
    refine blockQ fun Q9 qb9 => ?_
    obtain ⟨o3, go3, hM⟩ := bs hM
    have je3_0 : ∀ (x44 : List Int) (h43 : Hdr) (f : Nat → Value) (w : World), f 6 = h43.v → St w0 (ros) (row 3 (rI .i64) h43.v x44 :: rs) w → x44 = o3 → Q9 (.exit 0) (fr 41 f) w := by
      intro x44 h43 f w eje3_0_6 hst ho
      subst ho
      refine qb9 _ _ _ ?_
      refine k7 _ _ ?_
      refine seqQ fun Q28 k28 z28 => ?_
      refine wp_region_lit ?_
      refine Y wn rfl (ym (v := h43.v) (et rfl eje3_0_6)) ?_
      refine Y wn rfl (ya (v := h43.v) (et rfl rfl)) ?_
      refine Y wn rfl (ya (v := .int .i64 0) rfl) ?_
      refine wpList_nil ?_
      refine k28 _ _ ?_
      refine wp_ret ?_
      obtain rfl := someI hM
      exact hQ _ _ _ (fin2r Try.results24 ⟨rfl, rfl⟩ ⟨rfl, rfl⟩ ⟨_, rfl, hst⟩)
    replace hst := hst.rowNh 3 (rI .i64)
    refine loopQ (fun s a w => ∃ (x22 : List (List Bool)) (x23 : List Bool) (x25 : List Int) (x26 : Int) (f : Nat → Value) (h24 : Hdr), (x22, x23, x25, x26) = s ∧ a = fr 41 f ∧ f 1 = .pointer (some ⟨b3, 0, none⟩) ∧ f 5 = .pointer (some ⟨b7, 0, none⟩) ∧ f 6 = h24.v ∧ f 7 = .int .i64 x26 ∧ St w0 (ros) (box b3 27 [h2.v] :: row 54 rH h8.v y9 :: fam 4 rB y9 x22 :: row 4 rB h10.v x23 :: box b7 89 [h8.v, h10.v] :: row 3 (rI .i64) h24.v x25 :: rs) w) go3 ⟨_, _, _, _, _, _, rfl, rfl, rfl, rfl, rfl, rfl, (hst.pk 6 [5, 1, 1, 1, 1, 0] rfl)⟩ ?_
    clear hst
    rintro _ _ w r3_ ⟨x22, x23, x25, x26, f, h24, rfl, rfl, e3_1, e3_5, e3_6, e3_7, hst⟩ hM3 ho3 Q100003 n3 zz3
    refine seqQ fun Q29 k29 z29 => ?_
    refine seqQ fun Q30 k30 z30 => ?_
    refine wp_region_lit ?_
    refine Y wn rfl (ym (v := .int .i64 x26) (et rfl e3_7)) ?_
    refine Y wn rfl (yFb FL_27_0 (et rfl e3_1)) ?_
    refine Y wn rfl (yLb (u := h2.v) O_25 (et rfl rfl) hst mhR rfl) ?_
    refine Y wn rfl (yLen SL_25 (et rfl rfl) hst (rdI q1)) ?_
    refine Y wn rfl (ylss (et rfl rfl) (et rfl rfl)) ?_
    refine wpList_nil ?_
    refine k30 _ _ ?_
    rcases iteS hM3 with ⟨c45, hM3⟩ | ⟨c45, hM3⟩
    · refine condT (et rfl rfl) (decide_eq_true c45) ?_
      refine wp_skip ?_
      refine k29 _ _ ?_
      refine seqQ fun Q31 k31 z31 => ?_
      refine blockQ fun Q32 qb32 => ?_
      refine seqQ fun Q33 k33 z33 => ?_
      refine wp_region_lit ?_
      refine Y wn rfl (ya (v := .int .i64 (-1)) rfl) ?_
      refine wpList_nil ?_
      refine k33 _ _ ?_
      refine seqQ fun Q34 k34 z34 => ?_
      refine seqQ fun Q35 k35 z35 => ?_
      refine wp_region_lit ?_
      refine Y wn rfl (ym (v := .pointer (some ⟨b7, 0, none⟩)) (et rfl e3_5)) ?_
      refine Y wn rfl (ym (v := .int .i64 x26) (et rfl e3_7)) ?_
      obtain ⟨r46, gr46, hM3⟩ := bs hM3
      replace hst := hst.pk 5 [4, 1, 1, 1, 0] rfl
      refine Yc wn rfl (yCall FN_45 (a2 (et rfl rfl) (et rfl rfl))) (sparseref16_Elimination_Neighbours_ok (hM := gr46) (hst := hst) ) ?_
      clear hst
      rintro _ w ⟨h47, rfl, hst⟩
      refine ⟨_, rfl, ?_⟩
      refine Y wn rfl (ya (v := h47.v) (et rfl rfl)) ?_
      refine wpList_nil ?_
      refine k35 _ _ ?_
      refine seqQ fun Q36 k36 z36 => ?_
      refine wp_region_lit ?_
      refine Y wn rfl (ym (v := h47.v) (et rfl rfl)) ?_
      refine Y wn rfl (yLen SL_22 (et rfl rfl) hst (rdO (mtR (mtR (mtR (mtR mhR)))))) ?_
      refine Y wn rfl (ygtr (et rfl rfl) rfl) ?_
      refine wpList_nil ?_
      refine k36 _ _ ?_
      have j4 : ∀ (x49 : Int) (f : Nat → Value) (w : World), f 1 = .pointer (some ⟨b3, 0, none⟩) → f 5 = .pointer (some ⟨b7, 0, none⟩) → f 6 = h24.v → f 7 = .int .i64 x26 → f 8 = .int .i64 x49 → St w0 (ros) (box b3 27 [h2.v] :: row 54 rH h8.v y9 :: fam 4 rB y9 x22 :: row 4 rB h10.v x23 :: box b7 89 [h8.v, h10.v] :: row 3 (rI .i64) h24.v x25 :: rs) w → sparseref19_Parent_j4 x25 x22 x23 x26 x49 = some r3_ → Q34 .normal (fr 41 f) w := by
        intro x49 f w ej4_1 ej4_5 ej4_6 ej4_7 ej4_8 hst hM
        refine k34 _ _ ?_
        refine seqQ fun Q37 k37 z37 => ?_
        refine wp_region_lit ?_
        refine Y wn rfl (ym (v := h24.v) (et rfl ej4_6)) ?_
        refine Y wn rfl (ym (v := .int .i64 x49) (et rfl ej4_8)) ?_
        refine YH wn rfl (rLt (n := 1) (l := [x49]) hst SL_22 [.int .i64 x49] (bp1 (et rfl rfl)) rfl rfl (mks1 (cs := [.int .i64 x49]) rfl mkI mks0)) ?_
        clear hst
        intro h50 w hst
        obtain ⟨x52, gx52, hM⟩ := bs hM
        replace hst := hst.pk 7 [6, 0, 0, 0, 0, 0, 0] rfl
        refine YH wn rfl (rAp hst SL_22 (et rfl rfl) (et rfl rfl) (rdO (mtR mhR)) gx52) ?_
        clear hst
        intro h51 w hst
        refine Y wn rfl (ya (v := h51.v) (et rfl rfl)) ?_
        refine wpList_nil ?_
        refine k37 _ _ ?_
        refine wp_region_lit ?_
        refine Y wn rfl (ym (v := .pointer (some ⟨b7, 0, none⟩)) (et rfl ej4_5)) ?_
        refine Y wn rfl (ym (v := .int .i64 x26) (et rfl ej4_7)) ?_
        obtain ⟨r53, gr53, hM⟩ := bs hM
        replace hst := hst.pk 7 [6, 3, 3, 3, 0, 0, 0] rfl
        refine Yc wn rfl (yCall FN_46 (a2 (et rfl rfl) (et rfl rfl))) (sparseref16_Elimination_Eliminate_ok (hM := gr53) (hst := hst) ) ?_
        clear hst
        rintro _ w ⟨rfl, hst⟩
        refine ⟨_, rfl, ?_⟩
        refine wpList_nil ?_
        refine qb32 _ _ _ ?_
        refine k31 _ _ ?_
        refine wp_region_lit ?_
        refine Y wn rfl (ym (v := .int .i64 x26) (et rfl ej4_7)) ?_
        refine Y wn rfl (yadd (et rfl rfl) rfl) ?_
        refine Y wn rfl (ya (v := .int .i64 (wa .i64 x26 1)) (et rfl rfl)) ?_
        refine wpList_nil ?_
        obtain rfl := someI hM
        exact n3 _ _ _ rfl ⟨_, _, _, _, _, _, rfl, rfl, ej4_1, ej4_5, rfl, rfl, (hst.pk 7 [6, 0, 0, 0, 0, 0] rfl)⟩
      rcases iteS hM3 with ⟨c54, hM3⟩ | ⟨c54, hM3⟩
      · refine condT (et rfl rfl) (decide_eq_true c54) ?_
        refine wp_region_lit ?_
        refine Y wn rfl (ym (v := h47.v) (et rfl rfl)) ?_
        obtain ⟨x55, gx55, hM3⟩ := bs hM3
        refine Y wn rfl (yIa SL_22 (et rfl rfl) rfl hst (rdO (mtR (mtR (mtR (mtR mhR))))) gx55) ?_
        refine Y wn rfl (yI O_3 (et rfl rfl) hst (rdO (mtR (mtR (mtR (mtR mhR))))) gx55) ?_
        refine Y wn rfl (ya (v := .int .i64 x55) (et rfl rfl)) ?_
        refine wpList_nil ?_
        exact j4 _ _ _ e3_1 e3_5 e3_6 e3_7 rfl (hst.pk 7 [5, 0, 0, 0, 0, 1] rfl) hM3
      · refine condF (et rfl rfl) (decide_eq_false c54) ?_
        refine wp_skip ?_
        exact j4 _ _ _ e3_1 e3_5 e3_6 e3_7 rfl (hst.pk 7 [5, 0, 0, 0, 0, 1] rfl) hM3
    · refine condF (et rfl rfl) (decide_eq_false c45) ?_
      refine wp_exit ?_
      refine z29 _ _ _ rfl ?_
      obtain rfl := someI hM3
      refine zz3 _ _ _ _ rfl rfl ?_
      exact je3_0 _ _ _ _ e3_6 (hst.pk 6 [5] rfl) (ho3 _ rfl)
  · refine condT (et rfl rfl) (nT (decide_eq_false c5)) ?_
    refine seqQ fun Q38 k38 z38 => ?_
    refine wp_region_lit ?_
    refine Y wn rfl (ym (v := .int .i64 r4) (et rfl rfl)) ?_
    refine Y wn rfl (ya (v := hnil.v) rfl) ?_
    refine Y wn rfl (ya (v := .int .i64 r4) (et rfl rfl)) ?_
    refine wpList_nil ?_
    refine k38 _ _ ?_
    refine wp_ret ?_
    refine z2 _ _ _ rfl ?_
    obtain rfl := someI hM
    replace hst := hst.rowNh 3 (rI .i64)
    exact hQ _ _ _ (fin2r Try.results24 ⟨rfl, rfl⟩ ⟨rfl, rfl⟩ ⟨_, rfl, (hst.pk 2 [0] rfl)⟩)
end Go.Proofs.Ytoelidgkfpmgnaa
