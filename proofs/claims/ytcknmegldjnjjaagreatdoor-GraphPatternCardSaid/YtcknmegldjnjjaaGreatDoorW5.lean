/- Walks: each function computes its model, printed. -/
import Derived.Test.YtcknmegldjnjjaaGreatDoorW4
namespace Go.Proofs.YtcknmegldjnjjaaGreatDoor
open Go Sx M
set_option maxRecDepth 100000
set_option maxHeartbeats 400000
set_option linter.unusedVariables false
attribute [local irreducible] wpList Code.wp Calls DR QR QS LA LS St
theorem slices_ContainsFunc_apiFloat_ok {w0 : World} {ros : List Fact} {rs : List Res} {w : World} {x1 : List Int} {h2 : Hdr} {out : Bool} (hM : slices_ContainsFunc_apiFloat x1 = some out) (q1 : imm (rI .u64) h2.v x1 ∈ ros) (hst : St w0 ros (rs) w) :
    Calls Tryz.prog 50 #[h2.v, .func (.func 51) #[] #[]] w (fun e w => e = .returned (.bool out) ∧ St w0 (ros) (rs) w) := by
  refine enterQ Tryz.func50 rfl Tryz.ntmps50 rfl fun Q hQ => ?_
  refine seqQ fun Q1 k1 z1 => ?_
  refine wp_region_lit ?_
  refine Y wn rfl (ya (v := .bool false) rfl) ?_
  refine wpList_nil ?_
  refine k1 _ _ ?_
  refine seqQ fun Q2 k2 z2 => ?_
  refine wp_region_lit ?_
  refine Y wn rfl (ym (v := h2.v) (et rfl rfl)) ?_
  refine Y wn rfl (ym (v := .func (.func 51) #[] #[]) (et rfl rfl)) ?_
  obtain ⟨r3, gr3, hM⟩ := bs hM
  refine Yc wn rfl (yCall FN_70 (a2 (et rfl rfl) (et rfl rfl))) (slices_IndexFunc_apiFloat_ok (hM := gr3) (hst := hst) (q1 := q1)) ?_
  clear hst
  rintro _ w ⟨rfl, hst⟩
  refine ⟨_, rfl, ?_⟩
  refine Y wn rfl (ygeq (et rfl rfl) rfl) ?_
  refine Y wn rfl (ya (v := .bool (decide ((0 : Int) ≤ r3))) (et rfl rfl)) ?_
  refine wpList_nil ?_
  refine k2 _ _ ?_
  refine wp_ret ?_
  obtain rfl := someI hM
  exact hQ _ _ _ (fin1r Tryz.results50 ⟨rfl, rfl⟩ ⟨rfl, hst⟩)

theorem matrix_Check_ok {w0 : World} {ros : List Fact} {rs : List Res} {w : World} {x1 : Int} {x2 : Int} {x3 : List Int} {x5 : List Int} {x7 : List Int} {h4 : Hdr} {h6 : Hdr} {h8 : Hdr} {out : Int} (hM : matrix_Check x1 x2 x3 x5 x7 = some out) (q1 : imm (rI .i64) h4.v x3 ∈ ros) (q2 : imm (rI .i64) h6.v x5 ∈ ros) (q3 : imm (rI .u64) h8.v x7 ∈ ros) (hst : St w0 ros (rs) w) :
    Calls Tryz.prog 25 #[.agg #[.int .i64 x1, .int .i64 x2, h4.v, h6.v, h8.v]] w (fun e w => e = .returned (.int .i64 out) ∧ St w0 (ros) (rs) w) := by
  refine enterQ Tryz.func25 rfl Tryz.ntmps25 rfl fun Q hQ => ?_
  refine seqQ fun Q1 k1 z1 => ?_
  refine wp_region_lit ?_
  refine YB wn rfl (r_box (vals := [.int .i64 x1, .int .i64 x2, h4.v, h6.v, h8.v]) hst (et rfl rfl) rfl) ?_
  clear hst
  intro b9 w hst
  refine Y wn rfl (ya (v := .int .i64 0) rfl) ?_
  refine wpList_nil ?_
  refine k1 _ _ ?_
  refine seqQ fun Q2 k2 z2 => ?_
  refine blockQ fun Q3 qb3 => ?_
  refine seqQ fun Q4 k4 z4 => ?_
  refine wp_region_lit ?_
  refine Y wn rfl (yFb FL_27_0 (et rfl rfl)) ?_
  refine Y wn rfl (yLb (u := .int .i64 x1) O_3 (et rfl rfl) hst mhR rfl) ?_
  obtain ⟨r10, gr10, hM⟩ := bs hM
  refine Yc wn rfl (yCall FN_48 (a3 (et rfl rfl) rfl rfl)) (matrix_within_ok (hM := gr10) (hst := hst) ) ?_
  clear hst
  rintro _ w ⟨rfl, hst⟩
  refine ⟨_, rfl, ?_⟩
  refine Y wn rfl (ynot (et rfl rfl)) ?_
  refine Y wn rfl (ym (v := .bool (!(r10))) (et rfl rfl)) ?_
  obtain ⟨r12, gr12, hM⟩ := bs hM
  refine joinW 5 (fun f w => f 1 = .pointer (some ⟨b9, 0, none⟩) ∧ f 13 = .bool r12 ∧ St w0 (ros) (box b9 27 [.int .i64 x1, .int .i64 x2, h4.v, h6.v, h8.v] :: rs) w) (fun j1 => ?_) ?_
  · rcases iteS gr12 with ⟨c14, gr12⟩ | ⟨c14, gr12⟩
    · refine Y (wg rfl rfl rfl (nF c14)) rfl (yFb FL_27_1 (et rfl rfl)) ?_
      refine Y (wg rfl rfl rfl (nF c14)) rfl (yLb (u := .int .i64 x2) O_3 (et rfl rfl) hst mhR rfl) ?_
      obtain ⟨r15, gr15, gr12⟩ := bs gr12
      refine Yc (wg rfl rfl rfl (nF c14)) rfl (yCall FN_48 (a3 (et rfl rfl) rfl rfl)) (matrix_within_ok (hM := gr15) (hst := hst) ) ?_
      clear hst
      rintro _ w ⟨rfl, hst⟩
      refine ⟨_, rfl, ?_⟩
      refine Y (wg rfl rfl rfl (nF c14)) rfl (ynot (et rfl rfl)) ?_
      refine Y wn rfl (ypf (v := .bool (!(r15))) (et rfl rfl) (nF c14) (et rfl rfl)) ?_
      obtain rfl := someI gr12
      exact j1 _ _ ⟨rfl, rfl, hst⟩
    · refine Gn (wx rfl rfl rfl (nT (bfalse c14))) rfl ?_
      refine Gn (wx rfl rfl rfl (nT (bfalse c14))) rfl ?_
      refine Gn (wx rfl rfl rfl (nT (bfalse c14))) rfl ?_
      refine Gn (wx rfl rfl rfl (nT (bfalse c14))) rfl ?_
      refine Y wn rfl (ypt (v := .bool true) (et rfl rfl) (nT (bfalse c14)) rfl) ?_
      obtain rfl := someI gr12
      exact j1 _ _ ⟨rfl, rfl, hst⟩
  clear hst
  rintro f w ⟨e13_1, e13_13, hst⟩
  refine Y wn rfl (ym (v := .bool r12) (et rfl e13_13)) ?_
  refine joinW 5 (fun f w => f 1 = .pointer (some ⟨b9, 0, none⟩) ∧ f 19 = .bool (r12 || (decide ((10000 : Int) < (x5.length : Int)))) ∧ St w0 (ros) (box b9 27 [.int .i64 x1, .int .i64 x2, h4.v, h6.v, h8.v] :: rs) w) (fun j2 => ?_) ?_
  · rcases Bool.eq_false_or_eq_true (r12) with c17 | c17
    · refine Gn (wx rfl rfl rfl c17) rfl ?_
      refine Gn (wx rfl rfl rfl c17) rfl ?_
      refine Gn (wx rfl rfl rfl c17) rfl ?_
      refine Gn (wx rfl rfl rfl c17) rfl ?_
      refine Y wn rfl (ypt (v := .bool true) (et rfl rfl) c17 rfl) ?_
      exact j2 _ _ ⟨e13_1, (congrArg Value.bool (orT c17)), hst⟩
    · refine Y (wg rfl rfl rfl c17) rfl (yFb FL_27_3 (et rfl e13_1)) ?_
      refine Y (wg rfl rfl rfl c17) rfl (yLb (u := h6.v) O_22 (et rfl rfl) hst mhR rfl) ?_
      refine Y (wg rfl rfl rfl c17) rfl (yLen SL_22 (et rfl rfl) hst (rdI q2)) ?_
      refine Y (wg rfl rfl rfl c17) rfl (ygtr (et rfl rfl) rfl) ?_
      refine Y wn rfl (ypf (v := .bool (decide ((10000 : Int) < (x5.length : Int)))) (et rfl rfl) c17 (et rfl rfl)) ?_
      exact j2 _ _ ⟨e13_1, (congrArg Value.bool (orF c17)), hst⟩
  clear hst
  rintro f w ⟨e16_1, e16_19, hst⟩
  refine Y wn rfl (ya (v := .bool (r12 || (decide ((10000 : Int) < (x5.length : Int))))) (et rfl e16_19)) ?_
  refine wpList_nil ?_
  refine k4 _ _ ?_
  rcases iteS hM with ⟨c18, hM⟩ | ⟨c18, hM⟩
  · refine condT (et rfl rfl) c18 ?_
    refine seqQ fun Q5 k5 z5 => ?_
    refine wp_region_lit ?_
    refine Y wn rfl (ya (v := .int .i64 6) rfl) ?_
    refine wpList_nil ?_
    refine k5 _ _ ?_
    refine wp_ret ?_
    refine qb3 _ _ _ ?_
    refine z2 _ _ _ rfl ?_
    obtain rfl := someI hM
    exact hQ _ _ _ (fin1r Tryz.results25 ⟨rfl, rfl⟩ ⟨rfl, (hst.pk 1 [] rfl)⟩)
  · refine condF (et rfl rfl) (bfalse c18) ?_
    refine seqQ fun Q6 k6 z6 => ?_
    refine wp_region_lit ?_
    refine Y wn rfl (yLbs (us := [.int .i64 x1, .int .i64 x2, h4.v, h6.v, h8.v]) ST_27 (et rfl e16_1) hst mhR rfl rfl) ?_
    obtain ⟨r19, gr19, hM⟩ := bs hM
    refine Yc wn rfl (yCall FN_49 (a1 (et rfl rfl))) (matrix_columns_ok (hM := gr19) (hst := hst) (q1 := q1) (q2 := q2) (q3 := q3)) ?_
    clear hst
    rintro _ w ⟨rfl, hst⟩
    refine ⟨_, rfl, ?_⟩
    refine Y wn rfl (ynot (et rfl rfl)) ?_
    refine Y wn rfl (ya (v := .bool (!(r19))) (et rfl rfl)) ?_
    refine wpList_nil ?_
    refine k6 _ _ ?_
    rcases iteS hM with ⟨c20, hM⟩ | ⟨c20, hM⟩
    · refine condF (et rfl rfl) (nF c20) ?_
      refine seqQ fun Q7 k7 z7 => ?_
      refine wp_region_lit ?_
      refine Y wn rfl (yFb FL_27_4 (et rfl e16_1)) ?_
      refine Y wn rfl (yLb (u := h8.v) O_25 (et rfl rfl) hst mhR rfl) ?_
      obtain ⟨r21, gr21, hM⟩ := bs hM
      refine Yc wn rfl (yCall FN_50 (a2 (et rfl rfl) rfl)) (slices_ContainsFunc_apiFloat_ok (hM := gr21) (hst := hst) (q1 := q3)) ?_
      clear hst
      rintro _ w ⟨rfl, hst⟩
      refine ⟨_, rfl, ?_⟩
      refine Y wn rfl (ya (v := .bool r21) (et rfl rfl)) ?_
      refine wpList_nil ?_
      refine k7 _ _ ?_
      rcases iteS hM with ⟨c22, hM⟩ | ⟨c22, hM⟩
      · refine condT (et rfl rfl) c22 ?_
        refine seqQ fun Q8 k8 z8 => ?_
        refine wp_region_lit ?_
        refine Y wn rfl (ya (v := .int .i64 4) rfl) ?_
        refine wpList_nil ?_
        refine k8 _ _ ?_
        refine wp_ret ?_
        refine qb3 _ _ _ ?_
        refine z2 _ _ _ rfl ?_
        obtain rfl := someI hM
        exact hQ _ _ _ (fin1r Tryz.results25 ⟨rfl, rfl⟩ ⟨rfl, (hst.pk 1 [] rfl)⟩)
      · refine condF (et rfl rfl) (bfalse c22) ?_
        refine wp_skip ?_
        refine qb3 _ _ _ ?_
        refine k2 _ _ ?_
        refine seqQ fun Q9 k9 z9 => ?_
        refine wp_region_lit ?_
        refine Y wn rfl (ya (v := .int .i64 0) rfl) ?_
        refine wpList_nil ?_
        refine k9 _ _ ?_
        refine wp_ret ?_
        obtain rfl := someI hM
        exact hQ _ _ _ (fin1r Tryz.results25 ⟨rfl, rfl⟩ ⟨rfl, (hst.pk 1 [] rfl)⟩)
    · refine condT (et rfl rfl) (nT (bfalse c20)) ?_
      refine seqQ fun Q10 k10 z10 => ?_
      refine wp_region_lit ?_
      refine Y wn rfl (ya (v := .int .i64 1) rfl) ?_
      refine wpList_nil ?_
      refine k10 _ _ ?_
      refine wp_ret ?_
      refine qb3 _ _ _ ?_
      refine z2 _ _ _ rfl ?_
      obtain rfl := someI hM
      exact hQ _ _ _ (fin1r Tryz.results25 ⟨rfl, rfl⟩ ⟨rfl, (hst.pk 1 [] rfl)⟩)

theorem matrix_entries_ok {w0 : World} {ros : List Fact} {rs : List Res} {w : World} {x1 : Int} {x2 : Int} {x3 : List Int} {x5 : List Int} {x7 : List Int} {h4 : Hdr} {h6 : Hdr} {h8 : Hdr} {out : (List (Int × Int × Int))} (hM : matrix_entries x1 x2 x3 x5 x7 = some out) (q1 : imm (rI .i64) h4.v x3 ∈ ros) (q2 : imm (rI .i64) h6.v x5 ∈ ros) (q3 : imm (rI .u64) h8.v x7 ∈ ros) (hst : St w0 ros (rs) w) :
    Calls Tryz.prog 32 #[.agg #[.int .i64 x1, .int .i64 x2, h4.v, h6.v, h8.v]] w (fun e w => ∃ (h100001 : Hdr), e = .returned (h100001.v) ∧ St w0 (ros) (row 57 rTi64i64u64 h100001.v out :: rs) w) := by
  refine enterQ Tryz.func32 rfl Tryz.ntmps32 rfl fun Q hQ => ?_
  refine seqQ fun Q1 k1 z1 => ?_
  refine wp_region_lit ?_
  refine YB wn rfl (r_box (vals := [.int .i64 x1, .int .i64 x2, h4.v, h6.v, h8.v]) hst (et rfl rfl) rfl) ?_
  clear hst
  intro b9 w hst
  refine Y wn rfl (ya (v := hnil.v) rfl) ?_
  refine wpList_nil ?_
  refine k1 _ _ ?_
  refine seqQ fun Q2 k2 z2 => ?_
  refine wp_region_lit ?_
  refine Y wn rfl (ya (v := hnil.v) rfl) ?_
  refine wpList_nil ?_
  refine k2 _ _ ?_
  refine seqQ fun Q3 k3 z3 => ?_
  refine seqQ fun Q4 k4 z4 => ?_
  refine wp_region_lit ?_
  refine Y wn rfl (yFb FL_27_1 (et rfl rfl)) ?_
  refine Y wn rfl (yLb (u := .int .i64 x2) O_3 (et rfl rfl) hst mhR rfl) ?_
  refine Y wn rfl (ym (v := .int .i64 0) rfl) ?_
  refine wpList_nil ?_
  refine k4 _ _ ?_
  refine blockQ fun Q5 qb5 => ?_
  obtain ⟨o3, go3, hM⟩ := bs hM
  have je3_0 : ∀ (x79 : List (Int × Int × Int)) (h78 : Hdr) (f : Nat → Value) (w : World), f 3 = h78.v → St w0 (ros) (row 57 rTi64i64u64 h78.v x79 :: rs) w → x79 = o3 → Q5 (.exit 0) (fr 43 f) w := by
    intro x79 h78 f w eje3_0_3 hst ho
    subst ho
    refine qb5 _ _ _ ?_
    refine k3 _ _ ?_
    refine seqQ fun Q44 k44 z44 => ?_
    refine wp_region_lit ?_
    refine Y wn rfl (ym (v := h78.v) (et rfl eje3_0_3)) ?_
    refine Y wn rfl (ya (v := h78.v) (et rfl rfl)) ?_
    refine wpList_nil ?_
    refine k44 _ _ ?_
    refine wp_ret ?_
    obtain rfl := someI hM
    exact hQ _ _ _ (fin1r Tryz.results32 ⟨rfl, rfl⟩ ⟨_, rfl, hst⟩)
  replace hst := hst.rowNh 57 rTi64i64u64
  refine loopQ (fun s a w => ∃ (x42 : List (Int × Int × Int)) (x43 : Int) (f : Nat → Value) (h41 : Hdr), (x42, x43) = s ∧ a = fr 43 f ∧ f 1 = .pointer (some ⟨b9, 0, none⟩) ∧ f 3 = h41.v ∧ f 7 = .int .i64 x2 ∧ f 8 = .int .i64 x43 ∧ St w0 (ros) (box b9 27 [.int .i64 x1, .int .i64 x2, h4.v, h6.v, h8.v] :: row 57 rTi64i64u64 h41.v x42 :: rs) w) go3 ⟨_, _, _, _, rfl, rfl, rfl, rfl, rfl, rfl, (hst.pk 2 [1, 0] rfl)⟩ ?_
  clear hst
  rintro _ _ w r3_ ⟨x42, x43, f, h41, rfl, rfl, e3_1, e3_3, e3_7, e3_8, hst⟩ hM3 ho3 Q100003 n3 zz3
  refine seqQ fun Q45 k45 z45 => ?_
  refine wp_region_lit ?_
  refine Y wn rfl (ylss (et rfl e3_8) (et rfl e3_7)) ?_
  refine wpList_nil ?_
  refine k45 _ _ ?_
  refine seqQ fun Q46 k46 z46 => ?_
  rcases iteS hM3 with ⟨c80, hM3⟩ | ⟨c80, hM3⟩
  · refine condT (et rfl rfl) (decide_eq_true c80) ?_
    refine wp_skip ?_
    refine k46 _ _ ?_
    refine seqQ fun Q47 k47 z47 => ?_
    refine blockQ fun Q48 qb48 => ?_
    refine seqQ fun Q49 k49 z49 => ?_
    refine wp_region_lit ?_
    refine Y wn rfl (ym (v := .int .i64 x43) (et rfl e3_8)) ?_
    refine Y wn rfl (ya (v := .int .i64 x43) (et rfl rfl)) ?_
    refine wpList_nil ?_
    refine k49 _ _ ?_
    refine seqQ fun Q50 k50 z50 => ?_
    refine wp_region_lit ?_
    refine Y wn rfl (yFb FL_27_2 (et rfl e3_1)) ?_
    refine Y wn rfl (yLb (u := h4.v) O_22 (et rfl rfl) hst mhR rfl) ?_
    refine Y wn rfl (ym (v := .int .i64 x43) (et rfl rfl)) ?_
    obtain ⟨x81, gx81, hM3⟩ := bs hM3
    refine Y wn rfl (yIa SL_22 (et rfl rfl) (et rfl rfl) hst (rdI q1) gx81) ?_
    refine Y wn rfl (yI O_3 (et rfl rfl) hst (rdI q1) gx81) ?_
    refine Y wn rfl (ya (v := .int .i64 x81) (et rfl rfl)) ?_
    refine wpList_nil ?_
    refine k50 _ _ ?_
    refine blockQ fun Q51 qb51 => ?_
    obtain ⟨o4, go4, hM3⟩ := bs hM3
    have je4_0 : ∀ (x103 : List (Int × Int × Int)) (h102 : Hdr) (f : Nat → Value) (w : World), f 1 = .pointer (some ⟨b9, 0, none⟩) → f 3 = h102.v → f 7 = .int .i64 x2 → f 8 = .int .i64 x43 → St w0 (ros) (box b9 27 [.int .i64 x1, .int .i64 x2, h4.v, h6.v, h8.v] :: row 57 rTi64i64u64 h102.v x103 :: rs) w → x103 = o4 → Q51 (.exit 2) (fr 43 f) w := by
      intro x103 h102 f w eje4_0_1 eje4_0_3 eje4_0_7 eje4_0_8 hst ho
      subst ho
      refine qb51 _ _ _ ?_
      refine qb48 _ _ _ ?_
      refine k47 _ _ ?_
      refine wp_region_lit ?_
      refine Y wn rfl (yadd (et rfl eje4_0_8) rfl) ?_
      refine Y wn rfl (ym (v := .int .i64 (wa .i64 x43 1)) (et rfl rfl)) ?_
      refine wpList_nil ?_
      obtain rfl := someI hM3
      exact n3 _ _ _ rfl ⟨_, _, _, _, rfl, rfl, eje4_0_1, eje4_0_3, eje4_0_7, rfl, hst⟩
    refine loopQ (fun s a w => ∃ (x90 : List (Int × Int × Int)) (x91 : Int) (f : Nat → Value) (h89 : Hdr), (x90, x91) = s ∧ a = fr 43 f ∧ f 1 = .pointer (some ⟨b9, 0, none⟩) ∧ f 3 = h89.v ∧ f 4 = .int .i64 x43 ∧ f 5 = .int .i64 x91 ∧ f 7 = .int .i64 x2 ∧ f 8 = .int .i64 x43 ∧ St w0 (ros) (box b9 27 [.int .i64 x1, .int .i64 x2, h4.v, h6.v, h8.v] :: row 57 rTi64i64u64 h89.v x90 :: rs) w) go4 ⟨_, _, _, _, rfl, rfl, e3_1, e3_3, rfl, rfl, e3_7, e3_8, hst⟩ ?_
    clear hst
    rintro _ _ w r4_ ⟨x90, x91, f, h89, rfl, rfl, e4_1, e4_3, e4_4, e4_5, e4_7, e4_8, hst⟩ hM4 ho4 Q100004 n4 zz4
    refine seqQ fun Q60 k60 z60 => ?_
    refine seqQ fun Q61 k61 z61 => ?_
    refine wp_region_lit ?_
    refine Y wn rfl (ym (v := .int .i64 x91) (et rfl e4_5)) ?_
    refine Y wn rfl (yFb FL_27_2 (et rfl e4_1)) ?_
    refine Y wn rfl (yLb (u := h4.v) O_22 (et rfl rfl) hst mhR rfl) ?_
    refine Y wn rfl (ym (v := .int .i64 x43) (et rfl e4_4)) ?_
    refine Y wn rfl (yadd (et rfl rfl) rfl) ?_
    obtain ⟨x104, gx104, hM4⟩ := bs hM4
    refine Y wn rfl (yIa SL_22 (et rfl rfl) (et rfl rfl) hst (rdI q1) gx104) ?_
    refine Y wn rfl (yI O_3 (et rfl rfl) hst (rdI q1) gx104) ?_
    refine Y wn rfl (ylss (et rfl rfl) (et rfl rfl)) ?_
    refine wpList_nil ?_
    refine k61 _ _ ?_
    rcases iteS hM4 with ⟨c105, hM4⟩ | ⟨c105, hM4⟩
    · refine condT (et rfl rfl) (decide_eq_true c105) ?_
      refine wp_skip ?_
      refine k60 _ _ ?_
      refine seqQ fun Q62 k62 z62 => ?_
      refine blockQ fun Q63 qb63 => ?_
      obtain ⟨x106, gx106, hM4⟩ := bs hM4
      obtain ⟨x107, gx107, hM4⟩ := bs hM4
      obtain ⟨x110, gx110, hM4⟩ := bs hM4
      refine wp_drawR [0, 0, 2, 0, 14, 30, 0, 0, 128, 0, 896, 1920, 4094, 8190, 16383, 32767] [13, 14, 15] 3 folM (by kernel_rfl) (by kernel_rfl) (by kernel_rfl) ?_
      replace hst := hst.drew
      refine DRn (l1 := [0, 1, 2, 3, 4, 5, 6, 7, 8, 9, 10, 11, 12]) (l2 := []) (lc := [13]) (by kernel_rfl) (by kernel_rfl) (by kernel_rfl) ?_
      refine Ry rfl rfl wn (ym (v := h89.v) (et rfl e4_3)) ?_
      refine Ry rfl rfl wn (yFb FL_27_3 (et rfl e4_1)) ?_
      refine Ry rfl rfl wn (yLb (u := h6.v) O_22 (et rfl rfl) hst mhR rfl) ?_
      refine Ry rfl rfl wn (ym (v := .int .i64 x91) (et rfl e4_5)) ?_
      refine Ry rfl rfl wn (yIa SL_22 (et rfl rfl) (et rfl rfl) hst (rdI q2) gx106) ?_
      refine Ry rfl rfl wn (yI O_3 (et rfl rfl) hst (rdI q2) gx106) ?_
      refine Ry rfl rfl wn (ym (v := .int .i64 x43) (et rfl e4_4)) ?_
      refine Ry rfl rfl wn (yFb FL_27_4 (et rfl e4_1)) ?_
      refine Ry rfl rfl wn (yLb (u := h8.v) O_25 (et rfl rfl) hst mhR rfl) ?_
      refine Ry rfl rfl wn (ym (v := .int .i64 x91) (et rfl e4_5)) ?_
      refine Ry rfl rfl wn (yIa SL_25 (et rfl rfl) (et rfl rfl) hst (rdI q3) gx107) ?_
      refine Ry rfl rfl wn (yI O_46 (et rfl rfl) hst (rdI q3) gx107) ?_
      refine Ry rfl rfl wn (ybuild (us := [.int .i64 x106, .int .i64 x43, .int .u64 x107]) [(0, .int .i64 x106), (1, .int .i64 x43), (2, .int .u64 x107)] SO_57 (bp3 (et rfl rfl) (et rfl rfl) (et rfl rfl)) rfl) ?_
      refine Rn QSn ?_
      refine Lc rfl ?_ LAn
      refine LH wn (rLt (n := 1) (l := [(x106, x43, x107)]) hst SL_54 [.agg #[.int .i64 x106, .int .i64 x43, .int .u64 x107]] (bp1 (et rfl rfl)) rfl rfl (mks1 (cs := [.int .i64 x106, .int .i64 x43, .int .u64 x107]) rfl (mkF rfl) mks0)) ?_
      clear hst
      intro h108 w hst
      refine DRn (l1 := []) (l2 := [0]) (lc := [14]) (by kernel_rfl) (by kernel_rfl) (by kernel_rfl) ?_
      refine Rn (Sy rfl rfl wn (ym (v := h89.v) (et rfl e4_3)) rfl QSn) ?_
      refine Lc rfl ?_ LAn
      replace hst := hst.pk 3 [2, 0, 0] rfl
      refine LH wn (rAp hst SL_54 (et rfl rfl) (et rfl rfl) (rdO (mtR mhR)) gx110) ?_
      clear hst
      intro h109 w hst
      refine DRn (l1 := []) (l2 := []) (lc := [15]) (by kernel_rfl) (by kernel_rfl) (by kernel_rfl) ?_
      refine Rn QSn ?_
      refine Lc rfl ?_ LAn
      refine Ly wn (ya (v := h109.v) (et rfl rfl)) ?_
      refine DRz (l1 := []) (l2 := []) (by kernel_rfl) (by kernel_rfl) ?_
      refine Rn QSn ?_
      refine qb63 _ _ _ ?_
      refine k62 _ _ ?_
      refine wp_region_lit ?_
      refine Y wn rfl (ym (v := .int .i64 x91) (et rfl e4_5)) ?_
      refine Y wn rfl (yadd (et rfl rfl) rfl) ?_
      refine Y wn rfl (ya (v := .int .i64 (wa .i64 x91 1)) (et rfl rfl)) ?_
      refine wpList_nil ?_
      obtain rfl := someI hM4
      exact n4 _ _ _ rfl ⟨_, _, _, _, rfl, rfl, e4_1, rfl, e4_4, rfl, e4_7, e4_8, (hst.pk 3 [2, 0] rfl)⟩
    · refine condF (et rfl rfl) (decide_eq_false c105) ?_
      refine wp_exit ?_
      refine z60 _ _ _ rfl ?_
      obtain rfl := someI hM4
      refine zz4 _ _ _ _ rfl rfl ?_
      exact je4_0 _ _ _ _ e4_1 e4_3 e4_7 e4_8 hst (ho4 _ rfl)
  · refine condF (et rfl rfl) (decide_eq_false c80) ?_
    refine wp_exit ?_
    refine z46 _ _ _ rfl ?_
    obtain rfl := someI hM3
    refine zz3 _ _ _ _ rfl rfl ?_
    exact je3_0 _ _ _ _ e3_3 (hst.pk 2 [1] rfl) (ho3 _ rfl)

theorem matrix_Entries_ok {w0 : World} {ros : List Fact} {rs : List Res} {w : World} {x1 : Int} {x2 : Int} {x3 : List Int} {x5 : List Int} {x7 : List Int} {h4 : Hdr} {h6 : Hdr} {h8 : Hdr} {out : (List (Int × Int × Int))} (hM : matrix_Entries x1 x2 x3 x5 x7 = some out) (q1 : imm (rI .i64) h4.v x3 ∈ ros) (q2 : imm (rI .i64) h6.v x5 ∈ ros) (q3 : imm (rI .u64) h8.v x7 ∈ ros) (hst : St w0 ros (rs) w) :
    Calls Tryz.prog 26 #[.agg #[.int .i64 x1, .int .i64 x2, h4.v, h6.v, h8.v]] w (fun e w => ∃ (h100001 : Hdr), e = .returned (h100001.v) ∧ St w0 (ros) (row 57 rTi64i64u64 h100001.v out :: rs) w) := by
  refine enterQ Tryz.func26 rfl Tryz.ntmps26 rfl fun Q hQ => ?_
  refine seqQ fun Q1 k1 z1 => ?_
  refine wp_region_lit ?_
  refine YB wn rfl (r_box (vals := [.int .i64 x1, .int .i64 x2, h4.v, h6.v, h8.v]) hst (et rfl rfl) rfl) ?_
  clear hst
  intro b9 w hst
  refine Y wn rfl (ya (v := hnil.v) rfl) ?_
  refine wpList_nil ?_
  refine k1 _ _ ?_
  refine seqQ fun Q2 k2 z2 => ?_
  refine seqQ fun Q3 k3 z3 => ?_
  refine wp_region_lit ?_
  refine Y wn rfl (yLbs (us := [.int .i64 x1, .int .i64 x2, h4.v, h6.v, h8.v]) ST_27 (et rfl rfl) hst mhR rfl rfl) ?_
  obtain ⟨r10, gr10, hM⟩ := bs hM
  refine Yc wn rfl (yCall FN_25 (a1 (et rfl rfl))) (matrix_Check_ok (hM := gr10) (hst := hst) (q1 := q1) (q2 := q2) (q3 := q3)) ?_
  clear hst
  rintro _ w ⟨rfl, hst⟩
  refine ⟨_, rfl, ?_⟩
  refine Y wn rfl (yneq (et rfl rfl) rfl) ?_
  refine wpList_nil ?_
  refine k3 _ _ ?_
  rcases iteS hM with ⟨c11, hM⟩ | ⟨c11, hM⟩
  · refine condF (et rfl rfl) (nF (decide_eq_true c11)) ?_
    refine wp_skip ?_
    refine k2 _ _ ?_
    refine seqQ fun Q4 k4 z4 => ?_
    refine wp_region_lit ?_
    refine Y wn rfl (yLbs (us := [.int .i64 x1, .int .i64 x2, h4.v, h6.v, h8.v]) ST_27 (et rfl rfl) hst mhR rfl rfl) ?_
    obtain ⟨r12, gr12, hM⟩ := bs hM
    refine Yc wn rfl (yCall FN_32 (a1 (et rfl rfl))) (matrix_entries_ok (hM := gr12) (hst := hst) (q1 := q1) (q2 := q2) (q3 := q3)) ?_
    clear hst
    rintro _ w ⟨h13, rfl, hst⟩
    refine ⟨_, rfl, ?_⟩
    refine Y wn rfl (ya (v := h13.v) (et rfl rfl)) ?_
    refine wpList_nil ?_
    refine k4 _ _ ?_
    refine wp_ret ?_
    obtain rfl := someI hM
    exact hQ _ _ _ (fin1r Tryz.results26 ⟨rfl, rfl⟩ ⟨_, rfl, (hst.pk 2 [0] rfl)⟩)
  · refine condT (et rfl rfl) (nT (decide_eq_false c11)) ?_
    refine seqQ fun Q5 k5 z5 => ?_
    refine wp_region_lit ?_
    refine Y wn rfl (ya (v := hnil.v) rfl) ?_
    refine wpList_nil ?_
    refine k5 _ _ ?_
    refine wp_ret ?_
    refine z2 _ _ _ rfl ?_
    obtain rfl := someI hM
    replace hst := hst.rowNh 57 rTi64i64u64
    exact hQ _ _ _ (fin1r Tryz.results26 ⟨rfl, rfl⟩ ⟨_, rfl, (hst.pk 2 [0] rfl)⟩)

theorem graph_NewSets_ok {w0 : World} {ros : List Fact} {rs : List Res} {w : World} {x1 : Int} {out : (List (List Bool))} (hM : graph_NewSets x1 = some out) (hst : St w0 ros (rs) w) :
    Calls Tryz.prog 27 #[.int .i64 x1] w (fun e w => ∃ (h100001 : Hdr) (y100002 : List Hdr), e = .returned (h100001.v) ∧ St w0 (ros) (row 76 rH h100001.v y100002 :: fam 4 rB y100002 out :: rs) w) := by
  refine enterQ Tryz.func27 rfl Tryz.ntmps27 rfl fun Q hQ => ?_
  refine seqQ fun Q1 k1 z1 => ?_
  refine wp_region_lit ?_
  refine Y wn rfl (ya (v := hnil.v) rfl) ?_
  refine wpList_nil ?_
  refine k1 _ _ ?_
  refine seqQ fun Q2 k2 z2 => ?_
  refine wp_region_lit ?_
  refine Y wn rfl (ym (v := .int .i64 x1) (et rfl rfl)) ?_
  obtain ⟨x4, gx4, hM⟩ := bs hM
  obtain ⟨m3, em3, gm3⟩ := mkL_rep gx4 hnil
  refine YH wn rfl (rMk hst SLH_62 (et rfl rfl) gm3) ?_
  clear hst
  intro h2 w hst
  replace hst := (hst.fReps 4 rB m3).pk 2 [1, 0] rfl
  rw [← em3] at hst
  refine Y wn rfl (ya (v := h2.v) (et rfl rfl)) ?_
  refine wpList_nil ?_
  refine k2 _ _ ?_
  refine seqQ fun Q3 k3 z3 => ?_
  refine seqQ fun Q4 k4 z4 => ?_
  refine wp_region_lit ?_
  refine Y wn rfl (ym (v := h2.v) (et rfl rfl)) ?_
  refine Y wn rfl (yLenF SLH_62 (et rfl rfl) hst (rdO mhR) (mtR mhR)) ?_
  refine Y wn rfl (ym (v := .int .i64 0) rfl) ?_
  refine wpList_nil ?_
  refine k4 _ _ ?_
  refine blockQ fun Q5 qb5 => ?_
  obtain ⟨o1, go1, hM⟩ := bs hM
  have je1_0 : ∀ (x24 : List (List Bool)) (y23 : List Hdr) (f : Nat → Value) (w : World), f 3 = h2.v → St w0 (ros) (row 76 rH h2.v y23 :: fam 4 rB y23 x24 :: rs) w → x24 = o1 → Q5 (.exit 0) (fr 19 f) w := by
    intro x24 y23 f w eje1_0_3 hst ho
    subst ho
    refine qb5 _ _ _ ?_
    refine k3 _ _ ?_
    refine seqQ fun Q16 k16 z16 => ?_
    refine wp_region_lit ?_
    refine Y wn rfl (ym (v := h2.v) (et rfl eje1_0_3)) ?_
    refine Y wn rfl (ya (v := h2.v) (et rfl rfl)) ?_
    refine wpList_nil ?_
    refine k16 _ _ ?_
    refine wp_ret ?_
    obtain rfl := someI hM
    exact hQ _ _ _ (fin1r Tryz.results27 ⟨rfl, rfl⟩ ⟨_, _, rfl, hst⟩)
  refine loopQ (fun s a w => ∃ (x12 : List (List Bool)) (x13 : Int) (f : Nat → Value) (y11 : List Hdr), (x12, x13) = s ∧ a = fr 19 f ∧ f 0 = .int .i64 x1 ∧ f 3 = h2.v ∧ f 8 = .int .i64 (x4.length : Int) ∧ f 9 = .int .i64 x13 ∧ St w0 (ros) (row 76 rH h2.v y11 :: fam 4 rB y11 x12 :: rs) w) go1 ⟨_, _, _, _, rfl, rfl, rfl, rfl, rfl, rfl, hst⟩ ?_
  clear hst
  rintro _ _ w r1_ ⟨x12, x13, f, y11, rfl, rfl, e1_0, e1_3, e1_8, e1_9, hst⟩ hM1 ho1 Q100001 n1 zz1
  refine seqQ fun Q17 k17 z17 => ?_
  refine wp_region_lit ?_
  refine Y wn rfl (ylss (et rfl e1_9) (et rfl e1_8)) ?_
  refine wpList_nil ?_
  refine k17 _ _ ?_
  refine seqQ fun Q18 k18 z18 => ?_
  rcases iteS hM1 with ⟨c25, hM1⟩ | ⟨c25, hM1⟩
  · refine condT (et rfl rfl) (decide_eq_true c25) ?_
    refine wp_skip ?_
    refine k18 _ _ ?_
    refine seqQ fun Q19 k19 z19 => ?_
    refine blockQ fun Q20 qb20 => ?_
    refine seqQ fun Q21 k21 z21 => ?_
    refine wp_region_lit ?_
    refine Y wn rfl (ym (v := .int .i64 x13) (et rfl e1_9)) ?_
    refine Y wn rfl (ya (v := .int .i64 x13) (et rfl rfl)) ?_
    refine wpList_nil ?_
    refine k21 _ _ ?_
    refine wp_region_lit ?_
    refine Y wn rfl (ym (v := h2.v) (et rfl e1_3)) ?_
    refine Y wn rfl (ym (v := .int .i64 x13) (et rfl rfl)) ?_
    refine Y wn rfl (ym (v := .int .i64 x1) (et rfl e1_0)) ?_
    obtain ⟨x28, gx28, hM1⟩ := bs hM1
    refine YH wn rfl (rMk hst SL_76 (et rfl rfl) gx28) ?_
    clear hst
    intro h26 w hst
    obtain ⟨x29, gx29, hM1⟩ := bs hM1
    obtain ⟨y30, gy30⟩ := setI_len (u := h26) gx29 (hst.famL (mtR (mtR mhR)))
    refine Y wn rfl (yIs SLH_62 (et rfl rfl) (et rfl rfl) hst (rdO (mtR mhR)) gy30) ?_
    replace hst := hst.pk 2 [1, 0] rfl
    refine YT wn rfl (r_sti (cs := [h26.v]) hst O_76 rfl (et rfl rfl) (et rfl rfl) rfl (mkF rfl) gy30) ?_
    clear hst
    intro w hst
    replace hst := hst.pk 3 [1, 1, 0] rfl
    replace hst := hst.fput gy30 gx29
    refine wpList_nil ?_
    refine qb20 _ _ _ ?_
    refine k19 _ _ ?_
    refine wp_region_lit ?_
    refine Y wn rfl (yadd (et rfl e1_9) rfl) ?_
    refine Y wn rfl (ym (v := .int .i64 (wa .i64 x13 1)) (et rfl rfl)) ?_
    refine wpList_nil ?_
    obtain rfl := someI hM1
    exact n1 _ _ _ rfl ⟨_, _, _, _, rfl, rfl, e1_0, e1_3, e1_8, rfl, (hst.pk 2 [1, 0] rfl)⟩
  · refine condF (et rfl rfl) (decide_eq_false c25) ?_
    refine wp_exit ?_
    refine z18 _ _ _ rfl ?_
    obtain rfl := someI hM1
    refine zz1 _ _ _ _ rfl rfl ?_
    exact je1_0 _ _ _ _ e1_3 hst (ho1 _ rfl)

theorem graph_Sets_Join_ok {w0 : World} {ros : List Fact} {rs : List Res} {w : World} {x1 : List (List Bool)} {x4 : Int} {x5 : Int} {h2 : Hdr} {y3 : List Hdr} {out : (List (List Bool))} (hM : graph_Sets_Join x1 x4 x5 = some out) (hst : St w0 ros (row 76 rH h2.v y3 :: fam 4 rB y3 x1 :: rs) w) :
    Calls Tryz.prog 28 #[h2.v, .int .i64 x4, .int .i64 x5] w (fun e w => e = .returned (.tuple #[]) ∧ St w0 (ros) (row 76 rH h2.v y3 :: fam 4 rB y3 out :: rs) w) := by
  refine enterQ Tryz.func28 rfl Tryz.ntmps28 rfl fun Q hQ => ?_
  refine seqQ fun Q1 k1 z1 => ?_
  refine wp_region_lit ?_
  refine Y wn rfl (ym (v := .int .i64 x4) (et rfl rfl)) ?_
  refine Y wn rfl (ym (v := .int .i64 x5) (et rfl rfl)) ?_
  refine Y wn rfl (yneq (et rfl rfl) (et rfl rfl)) ?_
  refine wpList_nil ?_
  refine k1 _ _ ?_
  have j1 : ∀ (x15 : List (List Bool)) (f : Nat → Value) (w : World), St w0 (ros) (row 76 rH h2.v y3 :: fam 4 rB y3 x15 :: rs) w → graph_Sets_Join_j1 x15 = some out → Q .normal (fr 21 f) w := by
    intro x15 f w hst hM
    obtain rfl := someI hM
    exact hQ _ _ _ (fin0n Tryz.results28 ⟨rfl, hst⟩)
  rcases iteS hM with ⟨c16, hM⟩ | ⟨c16, hM⟩
  · refine condF (et rfl rfl) (nF (decide_eq_true c16)) ?_
    refine wp_skip ?_
    exact j1 _ _ _ hst hM
  · refine condT (et rfl rfl) (nT (decide_eq_false c16)) ?_
    obtain ⟨x17, gx17, hM⟩ := bs hM
    obtain ⟨x19, gx19, hM⟩ := bs hM
    obtain ⟨x21, gx21, hM⟩ := bs hM
    obtain ⟨x22, gx22, hM⟩ := bs hM
    obtain ⟨x23, gx23, hM⟩ := bs hM
    obtain ⟨x24, gx24, hM⟩ := bs hM
    obtain ⟨x25, gx25, hM⟩ := bs hM
    refine wp_drawR [0, 0, 3, 7, 0, 0, 0, 96, 224, 0, 511, 1535, 4095, 8191] [11, 13] 2 folM (by kernel_rfl) (by kernel_rfl) (by kernel_rfl) ?_
    replace hst := hst.drew
    refine DRn (l1 := [0, 1, 2, 3, 4, 5, 6, 7, 8, 9, 10]) (l2 := []) (lc := [11]) (by kernel_rfl) (by kernel_rfl) (by kernel_rfl) ?_
    refine Ry rfl rfl wn (ym (v := h2.v) (et rfl rfl)) ?_
    refine Ry rfl rfl wn (ym (v := .int .i64 x4) (et rfl rfl)) ?_
    obtain ⟨h18, gh18⟩ := hst.famI (mtR mhR) gx17
    refine Ry rfl rfl wn (yIa SLH_62 (et rfl rfl) (et rfl rfl) hst (rdO mhR) gh18) ?_
    refine Ry rfl rfl wn (yF1 O_76 (et rfl rfl) hst (rdO mhR) gh18 rfl) ?_
    refine Ry rfl rfl wn (ym (v := .int .i64 x5) (et rfl rfl)) ?_
    refine Ry rfl rfl wn (ym (v := h2.v) (et rfl rfl)) ?_
    refine Ry rfl rfl wn (ym (v := .int .i64 x5) (et rfl rfl)) ?_
    obtain ⟨h20, gh20⟩ := hst.famI (mtR mhR) gx19
    refine Ry rfl rfl wn (yIa SLH_62 (et rfl rfl) (et rfl rfl) hst (rdO mhR) gh20) ?_
    refine Ry rfl rfl wn (yF1 O_76 (et rfl rfl) hst (rdO mhR) gh20 rfl) ?_
    refine Ry rfl rfl wn (ym (v := .int .i64 x4) (et rfl rfl)) ?_
    refine Ry rfl rfl wn (yIs SL_76 (et rfl rfl) (et rfl rfl) hst (rdF (mtR mhR) gh18 gx17) gx21) ?_
    refine Rn QSn ?_
    refine Lc rfl ?_ LAn
    replace hst := hst.pk 2 [1, 0] rfl
    refine LT wn (r_sti (cs := [.bool true]) (hst.foc gh18 gx17) O_4 rfl (et rfl rfl) rfl rfl mkB gx21) ?_
    clear hst
    intro w hst
    replace hst := hst.unfoc' gh18 gx22
    refine DRn (l1 := [12]) (l2 := [9]) (lc := [13]) (by kernel_rfl) (by kernel_rfl) (by kernel_rfl) ?_
    refine Ry rfl rfl wn (yIs SL_76 (et rfl rfl) (et rfl rfl) hst (rdF mhR gh20 gx23) gx24) ?_
    refine Rn (Sy rfl rfl wn (ym (v := .int .i64 x4) (et rfl rfl)) rfl QSn) ?_
    refine Lc rfl ?_ LAn
    refine LT wn (r_sti (cs := [.bool true]) (hst.foc gh20 gx23) O_4 rfl (et rfl rfl) rfl rfl mkB gx24) ?_
    clear hst
    intro w hst
    replace hst := hst.unfoc' gh20 gx25
    refine DRz (l1 := []) (l2 := []) (by kernel_rfl) (by kernel_rfl) ?_
    refine Rn QSn ?_
    exact j1 _ _ _ (hst.pk 2 [1, 0] rfl) hM

theorem graph_Sets_List_ok {w0 : World} {ros : List Fact} {rs : List Res} {w : World} {x1 : List (List Bool)} {x3 : Int} {h2 : Hdr} {out : (List Int)} (hM : graph_Sets_List x1 x3 = some out) (q1 : imm (rS rB) h2.v x1 ∈ ros) (hst : St w0 ros (rs) w) :
    Calls Tryz.prog 53 #[h2.v, .int .i64 x3] w (fun e w => ∃ (h100001 : Hdr), e = .returned (h100001.v) ∧ St w0 (ros) (row 3 (rI .i64) h100001.v out :: rs) w) := by
  refine enterQ Tryz.func53 rfl Tryz.ntmps53 rfl fun Q hQ => ?_
  refine seqQ fun Q1 k1 z1 => ?_
  refine wp_region_lit ?_
  refine Y wn rfl (ya (v := hnil.v) rfl) ?_
  refine wpList_nil ?_
  refine k1 _ _ ?_
  refine seqQ fun Q2 k2 z2 => ?_
  refine wp_region_lit ?_
  refine Y wn rfl (ya (v := hnil.v) rfl) ?_
  refine wpList_nil ?_
  refine k2 _ _ ?_
  refine seqQ fun Q3 k3 z3 => ?_
  refine seqQ fun Q4 k4 z4 => ?_
  refine wp_region_lit ?_
  refine Y wn rfl (ym (v := h2.v) (et rfl rfl)) ?_
  refine Y wn rfl (ym (v := .int .i64 x3) (et rfl rfl)) ?_
  obtain ⟨x4, gx4, hM⟩ := bs hM
  refine Y wn rfl (yIa SL_62 (et rfl rfl) (et rfl rfl) hst (rdI q1) gx4) ?_
  obtain ⟨h5, hst⟩ := iLs hst q1 gx4
  refine Y wn rfl (yCt O_76 (et rfl rfl) hst (mtF mhF) rfl) ?_
  refine Y wn rfl (yLen SL_76 (et rfl rfl) hst (rdI mhF)) ?_
  refine Y wn rfl (ym (v := .int .i64 0) rfl) ?_
  refine wpList_nil ?_
  refine k4 _ _ ?_
  refine blockQ fun Q5 qb5 => ?_
  obtain ⟨o3, go3, hM⟩ := bs hM
  have je3_0 : ∀ (x35 : List Int) (h34 : Hdr) (f : Nat → Value) (w : World), f 5 = h34.v → St w0 (ros) (row 3 (rI .i64) h34.v x35 :: rs) w → x35 = o3 → Q5 (.exit 0) (fr 25 f) w := by
    intro x35 h34 f w eje3_0_5 hst ho
    subst ho
    refine qb5 _ _ _ ?_
    refine k3 _ _ ?_
    refine seqQ fun Q18 k18 z18 => ?_
    refine wp_region_lit ?_
    refine Y wn rfl (ym (v := h34.v) (et rfl eje3_0_5)) ?_
    refine Y wn rfl (ya (v := h34.v) (et rfl rfl)) ?_
    refine wpList_nil ?_
    refine k18 _ _ ?_
    refine wp_ret ?_
    obtain rfl := someI hM
    exact hQ _ _ _ (fin1r Tryz.results53 ⟨rfl, rfl⟩ ⟨_, rfl, hst⟩)
  replace hst := hst.rowNh 3 (rI .i64)
  refine loopQ (fun s a w => ∃ (x18 : List Int) (x19 : Int) (f : Nat → Value) (h17 : Hdr), (x18, x19) = s ∧ a = fr 25 f ∧ f 5 = h17.v ∧ f 11 = h5.v ∧ f 12 = .int .i64 (x4.length : Int) ∧ f 13 = .int .i64 x19 ∧ St w0 (imm rB h5.v x4 :: ros) (row 3 (rI .i64) h17.v x18 :: rs) w) go3 ⟨_, _, _, _, rfl, rfl, rfl, rfl, rfl, rfl, (hst.facts (allC mhF (allT (allT allI))))⟩ ?_
  clear hst
  rintro _ _ w r3_ ⟨x18, x19, f, h17, rfl, rfl, e3_5, e3_11, e3_12, e3_13, hst⟩ hM3 ho3 Q100003 n3 zz3
  refine seqQ fun Q19 k19 z19 => ?_
  refine wp_region_lit ?_
  refine Y wn rfl (ylss (et rfl e3_13) (et rfl e3_12)) ?_
  refine wpList_nil ?_
  refine k19 _ _ ?_
  refine seqQ fun Q20 k20 z20 => ?_
  rcases iteS hM3 with ⟨c36, hM3⟩ | ⟨c36, hM3⟩
  · refine condT (et rfl rfl) (decide_eq_true c36) ?_
    refine wp_skip ?_
    refine k20 _ _ ?_
    refine seqQ fun Q21 k21 z21 => ?_
    refine blockQ fun Q22 qb22 => ?_
    refine seqQ fun Q23 k23 z23 => ?_
    refine wp_region_lit ?_
    refine Y wn rfl (ym (v := .int .i64 x19) (et rfl e3_13)) ?_
    obtain ⟨x37, gx37, hM3⟩ := bs hM3
    refine Y wn rfl (yIa SL_76 (et rfl e3_11) (et rfl e3_13) hst (rdI mhF) gx37) ?_
    refine Y wn rfl (yB O_4 (et rfl rfl) hst (rdI mhF) gx37) ?_
    refine Y wn rfl (ya (v := .int .i64 x19) (et rfl rfl)) ?_
    refine Y wn rfl (ya (v := .bool x37) (et rfl rfl)) ?_
    refine wpList_nil ?_
    refine k23 _ _ ?_
    refine seqQ fun Q24 k24 z24 => ?_
    refine wp_region_lit ?_
    refine Y wn rfl (ym (v := .bool x37) (et rfl rfl)) ?_
    refine wpList_nil ?_
    refine k24 _ _ ?_
    have j4 : ∀ (x42 : List Int) (h41 : Hdr) (f : Nat → Value) (w : World), f 5 = h41.v → f 11 = h5.v → f 12 = .int .i64 (x4.length : Int) → f 13 = .int .i64 x19 → St w0 (imm rB h5.v x4 :: ros) (row 3 (rI .i64) h41.v x42 :: rs) w → graph_Sets_List_j4 x19 x42 = some r3_ → Q22 .normal (fr 25 f) w := by
      intro x42 h41 f w ej4_5 ej4_11 ej4_12 ej4_13 hst hM
      refine qb22 _ _ _ ?_
      refine k21 _ _ ?_
      refine wp_region_lit ?_
      refine Y wn rfl (yadd (et rfl ej4_13) rfl) ?_
      refine Y wn rfl (ym (v := .int .i64 (wa .i64 x19 1)) (et rfl rfl)) ?_
      refine wpList_nil ?_
      obtain rfl := someI hM
      exact n3 _ _ _ rfl ⟨_, _, _, _, rfl, rfl, ej4_5, ej4_11, ej4_12, rfl, hst⟩
    rcases iteS hM3 with ⟨c43, hM3⟩ | ⟨c43, hM3⟩
    · refine condT (et rfl rfl) c43 ?_
      refine wp_region_lit ?_
      refine Y wn rfl (ym (v := h17.v) (et rfl e3_5)) ?_
      refine Y wn rfl (ym (v := .int .i64 x19) (et rfl rfl)) ?_
      refine YH wn rfl (rLt (n := 1) (l := [x19]) hst SL_22 [.int .i64 x19] (bp1 (et rfl rfl)) rfl rfl (mks1 (cs := [.int .i64 x19]) rfl mkI mks0)) ?_
      clear hst
      intro h44 w hst
      obtain ⟨x46, gx46, hM3⟩ := bs hM3
      replace hst := hst.pk 2 [1, 0] rfl
      refine YH wn rfl (rAp hst SL_22 (et rfl rfl) (et rfl rfl) (rdO (mtR mhR)) gx46) ?_
      clear hst
      intro h45 w hst
      refine Y wn rfl (ya (v := h45.v) (et rfl rfl)) ?_
      refine wpList_nil ?_
      exact j4 _ _ _ _ rfl e3_11 e3_12 e3_13 (hst.pk 2 [0] rfl) hM3
    · refine condF (et rfl rfl) (bfalse c43) ?_
      refine wp_skip ?_
      exact j4 _ _ _ _ e3_5 e3_11 e3_12 e3_13 hst hM3
  · refine condF (et rfl rfl) (decide_eq_false c36) ?_
    refine wp_exit ?_
    refine z20 _ _ _ rfl ?_
    obtain rfl := someI hM3
    refine zz3 _ _ _ _ rfl rfl ?_
    exact je3_0 _ _ _ _ e3_5 (hst.facts (allT allI)) (ho3 _ rfl)

theorem graph_Sets_Graph_ok {w0 : World} {ros : List Fact} {rs : List Res} {w : World} {x1 : List (List Bool)} {h2 : Hdr} {out : (List (List Int))} (hM : graph_Sets_Graph x1 = some out) (q1 : imm (rS rB) h2.v x1 ∈ ros) (hst : St w0 ros (rs) w) :
    Calls Tryz.prog 29 #[h2.v] w (fun e w => ∃ (h100001 : Hdr), e = .returned (.agg #[h100001.v]) ∧ St w0 (ros) (row 22 (rS (rI .i64)) h100001.v out :: rs) w) := by
  refine enterQ Tryz.func29 rfl Tryz.ntmps29 rfl fun Q hQ => ?_
  refine seqQ fun Q1 k1 z1 => ?_
  refine wp_region_lit ?_
  refine YB wn rfl (rAl hst ZT_31) ?_
  clear hst
  intro b3 w hst
  refine wpList_nil ?_
  refine k1 _ _ ?_
  refine seqQ fun Q2 k2 z2 => ?_
  refine wp_region_lit ?_
  refine Y wn rfl (ym (v := h2.v) (et rfl rfl)) ?_
  refine Y wn rfl (yLen SL_62 (et rfl rfl) hst (rdI q1)) ?_
  obtain ⟨x6, gx6, hM⟩ := bs hM
  refine YH wn rfl (rMk hst SL_29 (et rfl rfl) gx6) ?_
  clear hst
  intro h4 w hst
  refine Y wn rfl (ybuild (us := [h4.v]) [(0, h4.v)] SO_31 (bp1 (et rfl rfl)) rfl) ?_
  refine YB wn rfl (rAl hst ZT_31) ?_
  clear hst
  intro b7 w hst
  refine YT wn rfl (r_stbn (vals' := [h4.v]) (us := [h4.v]) hst ST_31 (et rfl rfl) (et rfl rfl) rfl rfl (one_of rfl) rfl) ?_
  clear hst
  intro w hst
  refine wpList_nil ?_
  refine k2 _ _ ?_
  refine seqQ fun Q3 k3 z3 => ?_
  refine seqQ fun Q4 k4 z4 => ?_
  refine wp_region_lit ?_
  refine Y wn rfl (ym (v := h2.v) (et rfl rfl)) ?_
  refine Y wn rfl (yLen SL_62 (et rfl rfl) hst (rdI q1)) ?_
  refine Y wn rfl (ym (v := .int .i64 0) rfl) ?_
  refine wpList_nil ?_
  refine k4 _ _ ?_
  refine blockQ fun Q5 qb5 => ?_
  obtain ⟨o1, go1, hM⟩ := bs hM
  have je1_0 : ∀ (x20 : List (List Int)) (f : Nat → Value) (w : World), f 2 = .pointer (some ⟨b3, 0, none⟩) → f 3 = .pointer (some ⟨b7, 0, none⟩) → St w0 (ros) (box b3 31 [hnil.v] :: row 22 (rS (rI .i64)) h4.v x20 :: box b7 31 [h4.v] :: rs) w → x20 = o1 → Q5 (.exit 0) (fr 23 f) w := by
    intro x20 f w eje1_0_2 eje1_0_3 hst ho
    subst ho
    refine qb5 _ _ _ ?_
    refine k3 _ _ ?_
    refine seqQ fun Q16 k16 z16 => ?_
    refine wp_region_lit ?_
    refine Y wn rfl (yLbs (us := [h4.v]) ST_31 (et rfl eje1_0_3) hst (mtR (mtR mhR)) rfl rfl) ?_
    refine YT wn rfl (r_stbn (vals' := [h4.v]) (us := [h4.v]) hst ST_31 (et rfl eje1_0_2) (et rfl rfl) rfl rfl (one_of rfl) rfl) ?_
    clear hst
    intro w hst
    refine wpList_nil ?_
    refine k16 _ _ ?_
    refine wp_ret ?_
    obtain rfl := someI hM
    exact hQ _ _ _ (fin1r Tryz.results29 (rcs2 rfl eje1_0_2 hst mhR ST_31 rfl) ⟨_, rfl, (hst.pk 3 [1] rfl)⟩)
  refine loopQ (fun s a w => ∃ (x12 : List (List Int)) (x13 : Int) (f : Nat → Value), (x12, x13) = s ∧ a = fr 23 f ∧ f 0 = h2.v ∧ f 2 = .pointer (some ⟨b3, 0, none⟩) ∧ f 3 = .pointer (some ⟨b7, 0, none⟩) ∧ f 10 = .int .i64 (x1.length : Int) ∧ f 11 = .int .i64 x13 ∧ St w0 (ros) (box b3 31 [hnil.v] :: row 22 (rS (rI .i64)) h4.v x12 :: box b7 31 [h4.v] :: rs) w) go1 ⟨_, _, _, rfl, rfl, rfl, rfl, rfl, rfl, rfl, (hst.pk 3 [2, 1, 0] rfl)⟩ ?_
  clear hst
  rintro _ _ w r1_ ⟨x12, x13, f, rfl, rfl, e1_0, e1_2, e1_3, e1_10, e1_11, hst⟩ hM1 ho1 Q100001 n1 zz1
  refine seqQ fun Q17 k17 z17 => ?_
  refine wp_region_lit ?_
  refine Y wn rfl (ylss (et rfl e1_11) (et rfl e1_10)) ?_
  refine wpList_nil ?_
  refine k17 _ _ ?_
  refine seqQ fun Q18 k18 z18 => ?_
  rcases iteS hM1 with ⟨c21, hM1⟩ | ⟨c21, hM1⟩
  · refine condT (et rfl rfl) (decide_eq_true c21) ?_
    refine wp_skip ?_
    refine k18 _ _ ?_
    refine seqQ fun Q19 k19 z19 => ?_
    refine blockQ fun Q20 qb20 => ?_
    refine seqQ fun Q21 k21 z21 => ?_
    refine wp_region_lit ?_
    refine Y wn rfl (ym (v := .int .i64 x13) (et rfl e1_11)) ?_
    refine Y wn rfl (ya (v := .int .i64 x13) (et rfl rfl)) ?_
    refine wpList_nil ?_
    refine k21 _ _ ?_
    obtain ⟨r22, gr22, hM1⟩ := bs hM1
    obtain ⟨x24, gx24, hM1⟩ := bs hM1
    refine wp_drawR [0, 1, 0, 0, 0, 24, 63, 127] [5, 7] 2 folM (by kernel_rfl) (by kernel_rfl) (by kernel_rfl) ?_
    replace hst := hst.drew
    refine DRn (l1 := [0, 1, 2, 3, 4]) (l2 := []) (lc := [5]) (by kernel_rfl) (by kernel_rfl) (by kernel_rfl) ?_
    refine Ry rfl rfl wn (yFb FL_31_0 (et rfl e1_3)) ?_
    refine Ry rfl rfl wn (yLb (u := h4.v) O_29 (et rfl rfl) hst (mtR (mtR mhR)) rfl) ?_
    refine Ry rfl rfl wn (ym (v := .int .i64 x13) (et rfl rfl)) ?_
    refine Ry rfl rfl wn (ym (v := h2.v) (et rfl e1_0)) ?_
    refine Ry rfl rfl wn (ym (v := .int .i64 x13) (et rfl rfl)) ?_
    refine Rn QSn ?_
    refine Lc rfl ?_ LAn
    refine Lk wn (yCall FN_53 (a2 (et rfl rfl) (et rfl rfl))) (graph_Sets_List_ok (hM := gr22) (hst := hst) (q1 := q1)) ?_
    clear hst
    rintro _ w ⟨h23, rfl, hst⟩
    refine ⟨_, rfl, ?_⟩
    refine DRn (l1 := [6]) (l2 := [0, 1, 2]) (lc := [7]) (by kernel_rfl) (by kernel_rfl) (by kernel_rfl) ?_
    refine Ry rfl rfl wn (yIs SL_29 (et rfl rfl) (et rfl rfl) hst (rdO (mtR (mtR mhR))) gx24) ?_
    refine Rn (Sy rfl rfl wn (yFb FL_31_0 (et rfl e1_3)) rfl (Sy rfl rfl wn (yLb (u := h4.v) O_29 (et rfl rfl) hst (mtR (mtR (mtR mhR))) rfl) rfl (Sy rfl rfl wn (ym (v := .int .i64 x13) (et rfl rfl)) rfl QSn))) ?_
    refine Lc rfl ?_ LAn
    replace hst := hst.fz
    replace hst := hst.pk 2 [1, 0] rfl
    refine LT wn (r_sti (cs := [h23.v]) hst O_22 rfl (et rfl rfl) (et rfl rfl) rfl (mkS mhF) gx24) ?_
    clear hst
    intro w hst
    refine DRz (l1 := []) (l2 := []) (by kernel_rfl) (by kernel_rfl) ?_
    refine Rn QSn ?_
    refine qb20 _ _ _ ?_
    refine k19 _ _ ?_
    refine wp_region_lit ?_
    refine Y wn rfl (yadd (et rfl e1_11) rfl) ?_
    refine Y wn rfl (ym (v := .int .i64 (wa .i64 x13 1)) (et rfl rfl)) ?_
    refine wpList_nil ?_
    obtain rfl := someI hM1
    exact n1 _ _ _ rfl ⟨_, _, _, rfl, rfl, e1_0, e1_2, e1_3, e1_10, rfl, ((hst.pk 3 [1, 0, 0] rfl).facts (allT allI))⟩
  · refine condF (et rfl rfl) (decide_eq_false c21) ?_
    refine wp_exit ?_
    refine z18 _ _ _ rfl ?_
    obtain rfl := someI hM1
    refine zz1 _ _ _ _ rfl rfl ?_
    exact je1_0 _ _ _ e1_2 e1_3 hst (ho1 _ rfl)

theorem graph_FromNormal_ok {w0 : World} {ros : List Fact} {rs : List Res} {w : World} {x1 : Int} {x2 : Int} {x3 : List Int} {x5 : List Int} {x7 : List Int} {h4 : Hdr} {h6 : Hdr} {h8 : Hdr} {out : (List (List Int)) × Int} (hM : graph_FromNormal x1 x2 x3 x5 x7 = some out) (q1 : imm (rI .i64) h4.v x3 ∈ ros) (q2 : imm (rI .i64) h6.v x5 ∈ ros) (q3 : imm (rI .u64) h8.v x7 ∈ ros) (hst : St w0 ros (rs) w) :
    Calls Tryz.prog 8 #[.agg #[.int .i64 x1, .int .i64 x2, h4.v, h6.v, h8.v]] w (fun e w => ∃ (h100001 : Hdr), e = .returned (.tuple #[.agg #[h100001.v], .int .i64 out.2]) ∧ St w0 (ros) (row 22 (rS (rI .i64)) h100001.v out.1 :: rs) w) := by
  refine enterQ Tryz.func8 rfl Tryz.ntmps8 rfl fun Q hQ => ?_
  refine seqQ fun Q1 k1 z1 => ?_
  refine wp_region_lit ?_
  refine YB wn rfl (r_box (vals := [.int .i64 x1, .int .i64 x2, h4.v, h6.v, h8.v]) hst (et rfl rfl) rfl) ?_
  clear hst
  intro b9 w hst
  refine YB wn rfl (rAl hst ZT_31) ?_
  clear hst
  intro b10 w hst
  refine Y wn rfl (ya (v := .int .i64 0) rfl) ?_
  refine wpList_nil ?_
  refine k1 _ _ ?_
  refine seqQ fun Q2 k2 z2 => ?_
  refine wp_region_lit ?_
  refine Y wn rfl (yLbs (us := [.int .i64 x1, .int .i64 x2, h4.v, h6.v, h8.v]) ST_27 (et rfl rfl) hst (mtR mhR) rfl rfl) ?_
  obtain ⟨r11, gr11, hM⟩ := bs hM
  refine Yc wn rfl (yCall FN_25 (a1 (et rfl rfl))) (matrix_Check_ok (hM := gr11) (hst := hst) (q1 := q1) (q2 := q2) (q3 := q3)) ?_
  clear hst
  rintro _ w ⟨rfl, hst⟩
  refine ⟨_, rfl, ?_⟩
  refine Y wn rfl (ya (v := .int .i64 r11) (et rfl rfl)) ?_
  refine wpList_nil ?_
  refine k2 _ _ ?_
  refine seqQ fun Q3 k3 z3 => ?_
  refine seqQ fun Q4 k4 z4 => ?_
  refine wp_region_lit ?_
  refine Y wn rfl (ym (v := .int .i64 r11) (et rfl rfl)) ?_
  refine Y wn rfl (yneq (et rfl rfl) rfl) ?_
  refine wpList_nil ?_
  refine k4 _ _ ?_
  rcases iteS hM with ⟨c12, hM⟩ | ⟨c12, hM⟩
  · refine condF (et rfl rfl) (nF (decide_eq_true c12)) ?_
    refine wp_skip ?_
    refine k3 _ _ ?_
    refine seqQ fun Q5 k5 z5 => ?_
    refine wp_region_lit ?_
    refine Y wn rfl (yFb FL_27_0 (et rfl rfl)) ?_
    refine Y wn rfl (yLb (u := .int .i64 x1) O_3 (et rfl rfl) hst (mtR mhR) rfl) ?_
    obtain ⟨x15, gx15, hM⟩ := bs hM
    obtain ⟨m14, em14, gm14⟩ := mkL_rep gx15 hnil
    refine YH wn rfl (rMk hst SLH_29 (et rfl rfl) gm14) ?_
    clear hst
    intro h13 w hst
    replace hst := (hst.fReps 3 (rI .i64) m14).pk 2 [1, 0] rfl
    rw [← em14] at hst
    refine Y wn rfl (ya (v := h13.v) (et rfl rfl)) ?_
    refine wpList_nil ?_
    refine k5 _ _ ?_
    refine seqQ fun Q6 k6 z6 => ?_
    refine seqQ fun Q7 k7 z7 => ?_
    refine wp_region_lit ?_
    refine Y wn rfl (yLbs (us := [.int .i64 x1, .int .i64 x2, h4.v, h6.v, h8.v]) ST_27 (et rfl rfl) hst (mtR (mtR (mtR mhR))) rfl rfl) ?_
    obtain ⟨r16, gr16, hM⟩ := bs hM
    refine Yc wn rfl (yCall FN_26 (a1 (et rfl rfl))) (matrix_Entries_ok (hM := gr16) (hst := hst) (q1 := q1) (q2 := q2) (q3 := q3)) ?_
    clear hst
    rintro _ w ⟨h17, rfl, hst⟩
    refine ⟨_, rfl, ?_⟩
    refine Y wn rfl (yLen SL_54 (et rfl rfl) hst (rdO mhR)) ?_
    refine Y wn rfl (ym (v := .int .i64 0) rfl) ?_
    refine wpList_nil ?_
    refine k7 _ _ ?_
    refine blockQ fun Q8 qb8 => ?_
    obtain ⟨o1, go1, hM⟩ := bs hM
    have je1_0 : ∀ (x45 : List (List Int)) (y44 : List Hdr) (f : Nat → Value) (w : World), f 1 = .pointer (some ⟨b9, 0, none⟩) → f 2 = .pointer (some ⟨b10, 0, none⟩) → f 5 = h13.v → St w0 (ros) (box b9 27 [.int .i64 x1, .int .i64 x2, h4.v, h6.v, h8.v] :: box b10 31 [hnil.v] :: row 22 rH h13.v y44 :: fam 3 (rI .i64) y44 x45 :: rs) w → x45 = o1 → Q8 (.exit 0) (fr 78 f) w := by
      intro x45 y44 f w eje1_0_1 eje1_0_2 eje1_0_5 hst ho
      subst ho
      refine qb8 _ _ _ ?_
      refine k6 _ _ ?_
      refine seqQ fun Q19 k19 z19 => ?_
      refine wp_region_lit ?_
      refine Y wn rfl (yFb FL_27_1 (et rfl eje1_0_1)) ?_
      refine Y wn rfl (yLb (u := .int .i64 x2) O_3 (et rfl rfl) hst mhR rfl) ?_
      obtain ⟨r46, gr46, hM⟩ := bs hM
      refine Yc wn rfl (yCall FN_27 (a1 (et rfl rfl))) (graph_NewSets_ok (hM := gr46) (hst := hst) ) ?_
      clear hst
      rintro _ w ⟨h47, y48, rfl, hst⟩
      refine ⟨_, rfl, ?_⟩
      refine Y wn rfl (ya (v := h47.v) (et rfl rfl)) ?_
      refine wpList_nil ?_
      refine k19 _ _ ?_
      refine seqQ fun Q20 k20 z20 => ?_
      refine seqQ fun Q21 k21 z21 => ?_
      refine wp_region_lit ?_
      refine Y wn rfl (ym (v := h13.v) (et rfl eje1_0_5)) ?_
      refine Y wn rfl (yLenF SLH_29 (et rfl rfl) hst (rdO (mtR (mtR (mtR (mtR mhR))))) (mtR (mtR (mtR (mtR (mtR mhR)))))) ?_
      refine Y wn rfl (ym (v := .int .i64 0) rfl) ?_
      refine wpList_nil ?_
      refine k21 _ _ ?_
      refine blockQ fun Q22 qb22 => ?_
      replace hst := hst.pk 6 [4, 4, 0, 0, 0, 0] rfl
      replace hst := hst.ffz
      obtain ⟨o10, go10, hM⟩ := bs hM
      have je10_0 : ∀ (x171 : List (List Bool)) (f : Nat → Value) (w : World), f 2 = .pointer (some ⟨b10, 0, none⟩) → f 8 = h47.v → St w0 (ros) (box b10 31 [hnil.v] :: row 76 rH h47.v y48 :: fam 4 rB y48 x171 :: rs) w → x171 = o10 → Q22 (.exit 2) (fr 78 f) w := by
        intro x171 f w eje10_0_2 eje10_0_8 hst ho
        subst ho
        refine qb22 _ _ _ ?_
        refine k20 _ _ ?_
        refine seqQ fun Q169 k169 z169 => ?_
        refine wp_region_lit ?_
        refine Y wn rfl (ym (v := h47.v) (et rfl eje10_0_8)) ?_
        obtain ⟨r172, gr172, hM⟩ := bs hM
        replace hst := hst.pk 3 [1, 1, 0] rfl
        replace hst := hst.ffz
        refine Yc wn rfl (yCall FN_29 (a1 (et rfl rfl))) (graph_Sets_Graph_ok (hM := gr172) (hst := hst) (q1 := mhF)) ?_
        clear hst
        rintro _ w ⟨h173, rfl, hst⟩
        refine ⟨_, rfl, ?_⟩
        replace hst := hst.pk 2 [1, 0] rfl
        refine YT wn rfl (r_stbn (vals' := [h173.v]) (us := [h173.v]) hst ST_31 (et rfl eje10_0_2) (et rfl rfl) rfl rfl (one_of rfl) rfl) ?_
        clear hst
        intro w hst
        refine Y wn rfl (ya (v := .int .i64 0) rfl) ?_
        refine wpList_nil ?_
        refine k169 _ _ ?_
        refine wp_ret ?_
        obtain rfl := someI hM
        exact hQ _ _ _ (fin2r Tryz.results8 (rcs2 rfl eje10_0_2 hst mhR ST_31 rfl) ⟨rfl, rfl⟩ ⟨_, rfl, ((hst.pk 2 [1] rfl).facts (allT allI))⟩)
      refine loopQ (fun s a w => ∃ (x108 : List (List Bool)) (x109 : Int) (f : Nat → Value), (x108, x109) = s ∧ a = fr 78 f ∧ f 2 = .pointer (some ⟨b10, 0, none⟩) ∧ f 8 = h47.v ∧ f 48 = h13.v ∧ f 49 = .int .i64 (x45.length : Int) ∧ f 50 = .int .i64 x109 ∧ St w0 (imm (rS (rI .i64)) h13.v x45 :: ros) (box b10 31 [hnil.v] :: row 76 rH h47.v y48 :: fam 4 rB y48 x108 :: rs) w) go10 ⟨_, _, _, rfl, rfl, eje1_0_2, rfl, rfl, rfl, rfl, (hst.pk 4 [3, 0, 0] rfl)⟩ ?_
      clear hst
      rintro _ _ w r10_ ⟨x108, x109, f, rfl, rfl, e10_2, e10_8, e10_48, e10_49, e10_50, hst⟩ hM10 ho10 Q100010 n10 zz10
      refine seqQ fun Q170 k170 z170 => ?_
      refine wp_region_lit ?_
      refine Y wn rfl (ylss (et rfl e10_50) (et rfl e10_49)) ?_
      refine wpList_nil ?_
      refine k170 _ _ ?_
      refine seqQ fun Q171 k171 z171 => ?_
      rcases iteS hM10 with ⟨c174, hM10⟩ | ⟨c174, hM10⟩
      · refine condT (et rfl rfl) (decide_eq_true c174) ?_
        refine wp_skip ?_
        refine k171 _ _ ?_
        refine seqQ fun Q172 k172 z172 => ?_
        refine blockQ fun Q173 qb173 => ?_
        refine seqQ fun Q174 k174 z174 => ?_
        refine wp_region_lit ?_
        obtain ⟨x175, gx175, hM10⟩ := bs hM10
        refine Y wn rfl (yIa SL_29 (et rfl e10_48) (et rfl e10_50) hst (rdI mhF) gx175) ?_
        obtain ⟨h176, hst⟩ := iLs hst mhF gx175
        refine Y wn rfl (yCt O_22 (et rfl rfl) hst (mtF mhF) rfl) ?_
        refine Y wn rfl (ya (v := h176.v) (et rfl rfl)) ?_
        refine wpList_nil ?_
        refine k174 _ _ ?_
        refine seqQ fun Q175 k175 z175 => ?_
        refine wp_region_lit ?_
        refine Y wn rfl (ym (v := h176.v) (et rfl rfl)) ?_
        refine Y wn rfl (yLen SL_22 (et rfl rfl) hst (rdI mhF)) ?_
        refine Y wn rfl (ym (v := .int .i64 0) rfl) ?_
        refine wpList_nil ?_
        refine k175 _ _ ?_
        refine blockQ fun Q176 qb176 => ?_
        obtain ⟨o13, go13, hM10⟩ := bs hM10
        have je13_0 : ∀ (x215 : List (List Bool)) (f : Nat → Value) (w : World), f 2 = .pointer (some ⟨b10, 0, none⟩) → f 8 = h47.v → f 48 = h13.v → f 49 = .int .i64 (x45.length : Int) → f 50 = .int .i64 x109 → St w0 (imm (rS (rI .i64)) h13.v x45 :: ros) (box b10 31 [hnil.v] :: row 76 rH h47.v y48 :: fam 4 rB y48 x215 :: rs) w → x215 = o13 → Q176 (.exit 4) (fr 78 f) w := by
          intro x215 f w eje13_0_2 eje13_0_8 eje13_0_48 eje13_0_49 eje13_0_50 hst ho
          subst ho
          refine qb176 _ _ _ ?_
          refine qb173 _ _ _ ?_
          refine k172 _ _ ?_
          refine wp_region_lit ?_
          refine Y wn rfl (yadd (et rfl eje13_0_50) rfl) ?_
          refine Y wn rfl (ym (v := .int .i64 (wa .i64 x109 1)) (et rfl rfl)) ?_
          refine wpList_nil ?_
          obtain rfl := someI hM10
          exact n10 _ _ _ rfl ⟨_, _, _, rfl, rfl, eje13_0_2, eje13_0_8, eje13_0_48, eje13_0_49, rfl, hst⟩
        refine loopQ (fun s a w => ∃ (x194 : List (List Bool)) (x195 : Int) (f : Nat → Value), (x194, x195) = s ∧ a = fr 78 f ∧ f 2 = .pointer (some ⟨b10, 0, none⟩) ∧ f 8 = h47.v ∧ f 10 = h176.v ∧ f 48 = h13.v ∧ f 49 = .int .i64 (x45.length : Int) ∧ f 50 = .int .i64 x109 ∧ f 54 = h176.v ∧ f 55 = .int .i64 (x175.length : Int) ∧ f 56 = .int .i64 x195 ∧ St w0 (imm (rI .i64) h176.v x175 :: imm (rS (rI .i64)) h13.v x45 :: ros) (box b10 31 [hnil.v] :: row 76 rH h47.v y48 :: fam 4 rB y48 x194 :: rs) w) go13 ⟨_, _, _, rfl, rfl, e10_2, e10_8, rfl, e10_48, e10_49, e10_50, rfl, rfl, rfl, (hst.facts (allC mhF (allC (mtF (mtF mhF)) (allT (allT (allT allI))))))⟩ ?_
        clear hst
        rintro _ _ w r13_ ⟨x194, x195, f, rfl, rfl, e13_2, e13_8, e13_10, e13_48, e13_49, e13_50, e13_54, e13_55, e13_56, hst⟩ hM13 ho13 Q100013 n13 zz13
        refine seqQ fun Q221 k221 z221 => ?_
        refine wp_region_lit ?_
        refine Y wn rfl (ylss (et rfl e13_56) (et rfl e13_55)) ?_
        refine wpList_nil ?_
        refine k221 _ _ ?_
        refine seqQ fun Q222 k222 z222 => ?_
        rcases iteS hM13 with ⟨c216, hM13⟩ | ⟨c216, hM13⟩
        · refine condT (et rfl rfl) (decide_eq_true c216) ?_
          refine wp_skip ?_
          refine k222 _ _ ?_
          refine seqQ fun Q223 k223 z223 => ?_
          refine blockQ fun Q224 qb224 => ?_
          refine seqQ fun Q225 k225 z225 => ?_
          refine wp_region_lit ?_
          refine Y wn rfl (ym (v := .int .i64 x195) (et rfl e13_56)) ?_
          obtain ⟨x217, gx217, hM13⟩ := bs hM13
          refine Y wn rfl (yIa SL_22 (et rfl e13_54) (et rfl e13_56) hst (rdI mhF) gx217) ?_
          refine Y wn rfl (yI O_3 (et rfl rfl) hst (rdI mhF) gx217) ?_
          refine Y wn rfl (ya (v := .int .i64 x195) (et rfl rfl)) ?_
          refine Y wn rfl (ya (v := .int .i64 x217) (et rfl rfl)) ?_
          refine wpList_nil ?_
          refine k225 _ _ ?_
          refine seqQ fun Q226 k226 z226 => ?_
          refine wp_region_lit ?_
          refine Y wn rfl (ym (v := h176.v) (et rfl e13_10)) ?_
          refine Y wn rfl (ym (v := .int .i64 x195) (et rfl rfl)) ?_
          obtain ⟨x218, gx218, hM13⟩ := bs hM13
          refine Y wn rfl (ySl (k1 := .i64) SL_22 (et rfl rfl) hst (rdI mhF) (.inr ⟨rfl, rfl⟩) (.inl (congrArg some (et rfl rfl))) gx218) ?_
          replace hst := hst.sub mhF gx218
          refine Y wn rfl (yLen SL_22 (et rfl rfl) hst (rdI mhF)) ?_
          refine Y wn rfl (ym (v := .int .i64 0) rfl) ?_
          refine wpList_nil ?_
          refine k226 _ _ ?_
          refine blockQ fun Q227 qb227 => ?_
          obtain ⟨o14, go14, hM13⟩ := bs hM13
          have je14_0 : ∀ (x229 : List (List Bool)) (f : Nat → Value) (w : World), f 2 = .pointer (some ⟨b10, 0, none⟩) → f 8 = h47.v → f 10 = h176.v → f 48 = h13.v → f 49 = .int .i64 (x45.length : Int) → f 50 = .int .i64 x109 → f 54 = h176.v → f 55 = .int .i64 (x175.length : Int) → f 56 = .int .i64 x195 → St w0 (imm (rI .i64) h176.v x175 :: imm (rS (rI .i64)) h13.v x45 :: ros) (box b10 31 [hnil.v] :: row 76 rH h47.v y48 :: fam 4 rB y48 x229 :: rs) w → x229 = o14 → Q227 (.exit 6) (fr 78 f) w := by
            intro x229 f w eje14_0_2 eje14_0_8 eje14_0_10 eje14_0_48 eje14_0_49 eje14_0_50 eje14_0_54 eje14_0_55 eje14_0_56 hst ho
            subst ho
            refine qb227 _ _ _ ?_
            refine qb224 _ _ _ ?_
            refine k223 _ _ ?_
            refine wp_region_lit ?_
            refine Y wn rfl (yadd (et rfl eje14_0_56) rfl) ?_
            refine Y wn rfl (ym (v := .int .i64 (wa .i64 x195 1)) (et rfl rfl)) ?_
            refine wpList_nil ?_
            obtain rfl := someI hM13
            exact n13 _ _ _ rfl ⟨_, _, _, rfl, rfl, eje14_0_2, eje14_0_8, eje14_0_10, eje14_0_48, eje14_0_49, eje14_0_50, eje14_0_54, eje14_0_55, rfl, hst⟩
          refine loopQ (fun s a w => ∃ (x222 : List (List Bool)) (x223 : Int) (f : Nat → Value), (x222, x223) = s ∧ a = fr 78 f ∧ f 2 = .pointer (some ⟨b10, 0, none⟩) ∧ f 8 = h47.v ∧ f 10 = h176.v ∧ f 12 = .int .i64 x217 ∧ f 48 = h13.v ∧ f 49 = .int .i64 (x45.length : Int) ∧ f 50 = .int .i64 x109 ∧ f 54 = h176.v ∧ f 55 = .int .i64 (x175.length : Int) ∧ f 56 = .int .i64 x195 ∧ f 63 = (subH h176 1 0 x195).v ∧ f 64 = .int .i64 (x218.length : Int) ∧ f 65 = .int .i64 x223 ∧ St w0 (imm (rI .i64) h176.v x175 :: imm (rS (rI .i64)) h13.v x45 :: imm (rI .i64) (subH h176 1 0 x195).v x218 :: ros) (box b10 31 [hnil.v] :: row 76 rH h47.v y48 :: fam 4 rB y48 x222 :: rs) w) go14 ⟨_, _, _, rfl, rfl, e13_2, e13_8, e13_10, rfl, e13_48, e13_49, e13_50, e13_54, e13_55, e13_56, rfl, rfl, rfl, (hst.facts (allC (mtF mhF) (allC (mtF (mtF mhF)) (allC mhF (allT (allT (allT allI)))))))⟩ ?_
          clear hst
          rintro _ _ w r14_ ⟨x222, x223, f, rfl, rfl, e14_2, e14_8, e14_10, e14_12, e14_48, e14_49, e14_50, e14_54, e14_55, e14_56, e14_63, e14_64, e14_65, hst⟩ hM14 ho14 Q100014 n14 zz14
          refine seqQ fun Q238 k238 z238 => ?_
          refine wp_region_lit ?_
          refine Y wn rfl (ylss (et rfl e14_65) (et rfl e14_64)) ?_
          refine wpList_nil ?_
          refine k238 _ _ ?_
          refine seqQ fun Q239 k239 z239 => ?_
          rcases iteS hM14 with ⟨c230, hM14⟩ | ⟨c230, hM14⟩
          · refine condT (et rfl rfl) (decide_eq_true c230) ?_
            refine wp_skip ?_
            refine k239 _ _ ?_
            refine seqQ fun Q240 k240 z240 => ?_
            refine blockQ fun Q241 qb241 => ?_
            refine seqQ fun Q242 k242 z242 => ?_
            refine wp_region_lit ?_
            obtain ⟨x231, gx231, hM14⟩ := bs hM14
            refine Y wn rfl (yIa SL_22 (et rfl e14_63) (et rfl e14_65) hst (rdI (mtF (mtF mhF))) gx231) ?_
            refine Y wn rfl (yI O_3 (et rfl rfl) hst (rdI (mtF (mtF mhF))) gx231) ?_
            refine Y wn rfl (ya (v := .int .i64 x231) (et rfl rfl)) ?_
            refine wpList_nil ?_
            refine k242 _ _ ?_
            refine wp_region_lit ?_
            refine Y wn rfl (ym (v := h47.v) (et rfl e14_8)) ?_
            refine Y wn rfl (ym (v := .int .i64 x231) (et rfl rfl)) ?_
            refine Y wn rfl (ym (v := .int .i64 x217) (et rfl e14_12)) ?_
            obtain ⟨r232, gr232, hM14⟩ := bs hM14
            replace hst := hst.pk 3 [1, 1, 0] rfl
            refine Yc wn rfl (yCall FN_28 (a3 (et rfl rfl) (et rfl rfl) (et rfl rfl))) (graph_Sets_Join_ok (hM := gr232) (hst := hst) ) ?_
            clear hst
            rintro _ w ⟨rfl, hst⟩
            refine ⟨_, rfl, ?_⟩
            refine wpList_nil ?_
            refine qb241 _ _ _ ?_
            refine k240 _ _ ?_
            refine wp_region_lit ?_
            refine Y wn rfl (yadd (et rfl e14_65) rfl) ?_
            refine Y wn rfl (ym (v := .int .i64 (wa .i64 x223 1)) (et rfl rfl)) ?_
            refine wpList_nil ?_
            obtain rfl := someI hM14
            exact n14 _ _ _ rfl ⟨_, _, _, rfl, rfl, e14_2, e14_8, e14_10, e14_12, e14_48, e14_49, e14_50, e14_54, e14_55, e14_56, e14_63, e14_64, rfl, (hst.pk 3 [2, 0, 0] rfl)⟩
          · refine condF (et rfl rfl) (decide_eq_false c230) ?_
            refine wp_exit ?_
            refine z239 _ _ _ rfl ?_
            obtain rfl := someI hM14
            refine zz14 _ _ _ _ rfl rfl ?_
            exact je14_0 _ _ _ e14_2 e14_8 e14_10 e14_48 e14_49 e14_50 e14_54 e14_55 e14_56 (hst.facts (allC mhF (allC (mtF mhF) (allT (allT (allT allI)))))) (ho14 _ rfl)
        · refine condF (et rfl rfl) (decide_eq_false c216) ?_
          refine wp_exit ?_
          refine z222 _ _ _ rfl ?_
          obtain rfl := someI hM13
          refine zz13 _ _ _ _ rfl rfl ?_
          exact je13_0 _ _ _ e13_2 e13_8 e13_48 e13_49 e13_50 (hst.facts (allC (mtF mhF) (allT (allT allI)))) (ho13 _ rfl)
      · refine condF (et rfl rfl) (decide_eq_false c174) ?_
        refine wp_exit ?_
        refine z171 _ _ _ rfl ?_
        obtain rfl := someI hM10
        refine zz10 _ _ _ _ rfl rfl ?_
        exact je10_0 _ _ _ e10_2 e10_8 (hst.facts (allT allI)) (ho10 _ rfl)
    refine loopQ (fun s a w => ∃ (x29 : List (List Int)) (x30 : Int) (f : Nat → Value) (y28 : List Hdr), (x29, x30) = s ∧ a = fr 78 f ∧ f 1 = .pointer (some ⟨b9, 0, none⟩) ∧ f 2 = .pointer (some ⟨b10, 0, none⟩) ∧ f 5 = h13.v ∧ f 25 = h17.v ∧ f 26 = .int .i64 (r16.length : Int) ∧ f 27 = .int .i64 x30 ∧ St w0 (ros) (box b9 27 [.int .i64 x1, .int .i64 x2, h4.v, h6.v, h8.v] :: box b10 31 [hnil.v] :: row 22 rH h13.v y28 :: fam 3 (rI .i64) y28 x29 :: row 57 rTi64i64u64 h17.v r16 :: rs) w) go1 ⟨_, _, _, _, rfl, rfl, rfl, rfl, rfl, rfl, rfl, rfl, (hst.pk 5 [4, 3, 1, 1, 0] rfl)⟩ ?_
    clear hst
    rintro _ _ w r1_ ⟨x29, x30, f, y28, rfl, rfl, e1_1, e1_2, e1_5, e1_25, e1_26, e1_27, hst⟩ hM1 ho1 Q100001 n1 zz1
    refine seqQ fun Q243 k243 z243 => ?_
    refine wp_region_lit ?_
    refine Y wn rfl (ylss (et rfl e1_27) (et rfl e1_26)) ?_
    refine wpList_nil ?_
    refine k243 _ _ ?_
    refine seqQ fun Q244 k244 z244 => ?_
    rcases iteS hM1 with ⟨c233, hM1⟩ | ⟨c233, hM1⟩
    · refine condT (et rfl rfl) (decide_eq_true c233) ?_
      refine wp_skip ?_
      refine k244 _ _ ?_
      refine seqQ fun Q245 k245 z245 => ?_
      refine blockQ fun Q246 qb246 => ?_
      refine seqQ fun Q247 k247 z247 => ?_
      refine wp_region_lit ?_
      obtain ⟨x234, gx234, hM1⟩ := bs hM1
      refine Y wn rfl (yIa SL_54 (et rfl e1_25) (et rfl e1_27) hst (rdO (mtR (mtR (mtR (mtR mhR))))) gx234) ?_
      refine Y wn rfl (yFn ST_57 (et rfl rfl) hst (rdO (mtR (mtR (mtR (mtR mhR))))) gx234 rfl) ?_
      refine YB wn rfl (rAl hst ZT_57) ?_
      clear hst
      intro b235 w hst
      refine YT wn rfl (r_stbn (vals' := [.int .i64 x234.1, .int .i64 x234.2.1, .int .u64 x234.2.2]) (us := [.int .i64 x234.1, .int .i64 x234.2.1, .int .u64 x234.2.2]) hst ST_57 (et rfl rfl) (et rfl rfl) rfl rfl (one_of rfl) rfl) ?_
      clear hst
      intro w hst
      refine wpList_nil ?_
      refine k247 _ _ ?_
      obtain ⟨x236, gx236, hM1⟩ := bs hM1
      obtain ⟨x240, gx240, hM1⟩ := bs hM1
      obtain ⟨x241, gx241, hM1⟩ := bs hM1
      refine wp_drawR [0, 0, 2, 0, 0, 16, 56, 120, 0, 256, 768, 2040, 4095, 8191] [10, 11, 13] 3 folM (by kernel_rfl) (by kernel_rfl) (by kernel_rfl) ?_
      replace hst := hst.drew
      refine DRn (l1 := [0, 1, 2, 3, 4, 5, 6, 7, 8, 9]) (l2 := []) (lc := [10]) (by kernel_rfl) (by kernel_rfl) (by kernel_rfl) ?_
      refine Ry rfl rfl wn (ym (v := h13.v) (et rfl e1_5)) ?_
      refine Ry rfl rfl wn (yFb FL_57_0 (et rfl rfl)) ?_
      refine Ry rfl rfl wn (yLb (u := .int .i64 x234.1) O_3 (et rfl rfl) hst mhR rfl) ?_
      refine Ry rfl rfl wn (ym (v := h13.v) (et rfl e1_5)) ?_
      refine Ry rfl rfl wn (yFb FL_57_0 (et rfl rfl)) ?_
      refine Ry rfl rfl wn (yLb (u := .int .i64 x234.1) O_3 (et rfl rfl) hst mhR rfl) ?_
      obtain ⟨h237, gh237⟩ := hst.famI (mtR (mtR (mtR (mtR mhR)))) gx236
      refine Ry rfl rfl wn (yIa SLH_29 (et rfl rfl) (et rfl rfl) hst (rdO (mtR (mtR (mtR mhR)))) gh237) ?_
      refine Ry rfl rfl wn (yF1 O_22 (et rfl rfl) hst (rdO (mtR (mtR (mtR mhR)))) gh237 rfl) ?_
      refine Ry rfl rfl wn (yFb FL_57_1 (et rfl rfl)) ?_
      refine Ry rfl rfl wn (yLb (u := .int .i64 x234.2.1) O_3 (et rfl rfl) hst mhR rfl) ?_
      refine Rn QSn ?_
      refine Lc rfl ?_ LAn
      refine LH wn (rLt (n := 1) (l := [x234.2.1]) hst SL_22 [.int .i64 x234.2.1] (bp1 (et rfl rfl)) rfl rfl (mks1 (cs := [.int .i64 x234.2.1]) rfl mkI mks0)) ?_
      clear hst
      intro h238 w hst
      refine DRn (l1 := []) (l2 := [0, 1, 2, 3, 4, 5, 6, 7]) (lc := [11]) (by kernel_rfl) (by kernel_rfl) (by kernel_rfl) ?_
      refine Rn (Sy rfl rfl wn (ym (v := h13.v) (et rfl e1_5)) rfl (Sy rfl rfl wn (yFb FL_57_0 (et rfl rfl)) rfl (Sy rfl rfl wn (yLb (u := .int .i64 x234.1) O_3 (et rfl rfl) hst (mtR mhR) rfl) rfl (Sy rfl rfl wn (ym (v := h13.v) (et rfl e1_5)) rfl (Sy rfl rfl wn (yFb FL_57_0 (et rfl rfl)) rfl (Sy rfl rfl wn (yLb (u := .int .i64 x234.1) O_3 (et rfl rfl) hst (mtR mhR) rfl) rfl (Sy rfl rfl wn (yIa SLH_29 (et rfl rfl) (et rfl rfl) hst (rdO (mtR (mtR (mtR (mtR mhR))))) gh237) rfl (Sy rfl rfl wn (yF1 O_22 (et rfl rfl) hst (rdO (mtR (mtR (mtR (mtR mhR))))) gh237 rfl) rfl QSn)))))))) ?_
      refine Lc rfl ?_ LAn
      replace hst := hst.pk 6 [5, 0, 0, 0, 0, 0] rfl
      replace hst := hst.foc gh237 gx236
      refine LH wn (rAp hst SL_22 (et rfl rfl) (et rfl rfl) (rdO (mtR (mtR mhR))) gx240) ?_
      clear hst
      intro h239 w hst
      refine DRn (l1 := [12]) (l2 := [0, 1, 2]) (lc := [13]) (by kernel_rfl) (by kernel_rfl) (by kernel_rfl) ?_
      obtain ⟨y242, gy242⟩ := setI_len (u := h239) gx241 (hst.famLx (mtR mhR))
      refine Ry rfl rfl wn (yIs SLH_29 (et rfl rfl) (et rfl rfl) hst (rdO (mtR (mtR (mtR (mtR (mtR (mtR mhR))))))) gy242) ?_
      refine Rn (Sy rfl rfl wn (ym (v := h13.v) (et rfl e1_5)) rfl (Sy rfl rfl wn (yFb FL_57_0 (et rfl rfl)) rfl (Sy rfl rfl wn (yLb (u := .int .i64 x234.1) O_3 (et rfl rfl) hst (mtR (mtR (mtR mhR))) rfl) rfl QSn))) ?_
      refine Lc rfl ?_ LAn
      replace hst := hst.pk 7 [6, 0, 0, 0, 0, 0, 0] rfl
      refine LT wn (r_sti (cs := [h239.v]) hst O_22 rfl (et rfl rfl) (et rfl rfl) rfl (mkF rfl) gy242) ?_
      clear hst
      intro w hst
      replace hst := hst.pk 3 [1, 1, 0] rfl
      replace hst := hst.unfS gh237 gy242 gx241
      refine DRz (l1 := []) (l2 := []) (by kernel_rfl) (by kernel_rfl) ?_
      refine Rn QSn ?_
      refine qb246 _ _ _ ?_
      refine k245 _ _ ?_
      refine wp_region_lit ?_
      refine Y wn rfl (yadd (et rfl e1_27) rfl) ?_
      refine Y wn rfl (ym (v := .int .i64 (wa .i64 x30 1)) (et rfl rfl)) ?_
      refine wpList_nil ?_
      obtain rfl := someI hM1
      exact n1 _ _ _ rfl ⟨_, _, _, _, rfl, rfl, e1_1, e1_2, e1_5, e1_25, e1_26, rfl, (hst.pk 7 [4, 4, 1, 0, 2] rfl)⟩
    · refine condF (et rfl rfl) (decide_eq_false c233) ?_
      refine wp_exit ?_
      refine z244 _ _ _ rfl ?_
      obtain rfl := someI hM1
      refine zz1 _ _ _ _ rfl rfl ?_
      exact je1_0 _ _ _ _ e1_1 e1_2 e1_5 (hst.pk 5 [0, 0, 0, 0] rfl) (ho1 _ rfl)
  · refine condT (et rfl rfl) (nT (decide_eq_false c12)) ?_
    refine seqQ fun Q248 k248 z248 => ?_
    refine wp_region_lit ?_
    refine Y wn rfl (ybuild (us := [hnil.v]) [] SO_31 bp0 rfl) ?_
    refine Y wn rfl (ym (v := .int .i64 r11) (et rfl rfl)) ?_
    refine YT wn rfl (r_stbn (vals' := [hnil.v]) (us := [hnil.v]) hst ST_31 (et rfl rfl) (et rfl rfl) rfl rfl (one_of rfl) rfl) ?_
    clear hst
    intro w hst
    refine Y wn rfl (ya (v := .int .i64 r11) (et rfl rfl)) ?_
    refine wpList_nil ?_
    refine k248 _ _ ?_
    refine wp_ret ?_
    refine z3 _ _ _ rfl ?_
    obtain rfl := someI hM
    replace hst := hst.rowNh 22 (rS (rI .i64))
    exact hQ _ _ _ (fin2r Tryz.results8 (rcs2 rfl rfl hst (mtR mhR) ST_31 rfl) ⟨rfl, rfl⟩ ⟨_, rfl, (hst.pk 3 [0] rfl)⟩)

theorem sparsekit_Shuffle_ok {w0 : World} {ros : List Fact} {rs : List Res} {w : World} {x1 : List Int} {x3 : Int} {h2 : Hdr} {out : (List Int)} (hM : sparsekit_Shuffle x1 x3 = some out) (q1 : imm (rI .i64) h2.v x1 ∈ ros) (hst : St w0 ros (rs) w) :
    Calls Tryz.prog 10 #[h2.v, .int .i64 x3] w (fun e w => ∃ (h100001 : Hdr), e = .returned (h100001.v) ∧ St w0 (ros) (row 3 (rI .i64) h100001.v out :: rs) w) := by
  refine enterQ Tryz.func10 rfl Tryz.ntmps10 rfl fun Q hQ => ?_
  refine seqQ fun Q1 k1 z1 => ?_
  refine wp_region_lit ?_
  refine Y wn rfl (ya (v := hnil.v) rfl) ?_
  refine wpList_nil ?_
  refine k1 _ _ ?_
  refine seqQ fun Q2 k2 z2 => ?_
  refine wp_region_lit ?_
  refine Y wn rfl (ya (v := hnil.v) rfl) ?_
  refine wpList_nil ?_
  refine k2 _ _ ?_
  refine seqQ fun Q3 k3 z3 => ?_
  refine seqQ fun Q4 k4 z4 => ?_
  refine wp_region_lit ?_
  refine Y wn rfl (ya (v := .int .i64 0) rfl) ?_
  refine wpList_nil ?_
  refine k4 _ _ ?_
  refine blockQ fun Q5 qb5 => ?_
  obtain ⟨o1, go1, hM⟩ := bs hM
  have je1_0 : ∀ (x19 : List Int) (h18 : Hdr) (f : Nat → Value) (w : World), f 0 = h2.v → f 1 = .int .i64 x3 → f 5 = h18.v → St w0 (ros) (row 3 (rI .i64) h18.v x19 :: rs) w → x19 = o1 → Q5 (.exit 0) (fr 51 f) w := by
    intro x19 h18 f w eje1_0_0 eje1_0_1 eje1_0_5 hst ho
    subst ho
    refine qb5 _ _ _ ?_
    refine k3 _ _ ?_
    refine seqQ fun Q14 k14 z14 => ?_
    refine wp_region_lit ?_
    refine Y wn rfl (ya (v := hnil.v) rfl) ?_
    refine wpList_nil ?_
    refine k14 _ _ ?_
    refine seqQ fun Q15 k15 z15 => ?_
    refine seqQ fun Q16 k16 z16 => ?_
    refine wp_region_lit ?_
    refine Y wn rfl (ya (v := .int .i64 0) rfl) ?_
    refine wpList_nil ?_
    refine k16 _ _ ?_
    refine blockQ fun Q17 qb17 => ?_
    obtain ⟨o4, go4, hM⟩ := bs hM
    have je4_0 : ∀ (x61 : List Int) (h60 : Hdr) (f : Nat → Value) (w : World), f 7 = h60.v → St w0 (ros) (row 3 (rI .i64) h60.v x61 :: rs) w → x61 = o4 → Q17 (.exit 2) (fr 51 f) w := by
      intro x61 h60 f w eje4_0_7 hst ho
      subst ho
      refine qb17 _ _ _ ?_
      refine k15 _ _ ?_
      refine seqQ fun Q34 k34 z34 => ?_
      refine wp_region_lit ?_
      refine Y wn rfl (ym (v := h60.v) (et rfl eje4_0_7)) ?_
      refine Y wn rfl (ya (v := h60.v) (et rfl rfl)) ?_
      refine wpList_nil ?_
      refine k34 _ _ ?_
      refine wp_ret ?_
      obtain rfl := someI hM
      exact hQ _ _ _ (fin1r Tryz.results10 ⟨rfl, rfl⟩ ⟨_, rfl, hst⟩)
    replace hst := hst.rowNh 3 (rI .i64)
    refine loopQ (fun s a w => ∃ (x36 : List Int) (x38 : List Int) (x39 : Int) (f : Nat → Value) (h35 : Hdr) (h37 : Hdr), (x36, x38, x39) = s ∧ a = fr 51 f ∧ f 0 = h2.v ∧ f 1 = .int .i64 x3 ∧ f 5 = h35.v ∧ f 7 = h37.v ∧ f 8 = .int .i64 x39 ∧ St w0 (ros) (row 3 (rI .i64) h35.v x36 :: row 3 (rI .i64) h37.v x38 :: rs) w) go4 ⟨_, _, _, _, _, _, rfl, rfl, eje1_0_0, eje1_0_1, eje1_0_5, rfl, rfl, (hst.pk 2 [1, 0] rfl)⟩ ?_
    clear hst
    rintro _ _ w r4_ ⟨x36, x38, x39, f, h35, h37, rfl, rfl, e4_0, e4_1, e4_5, e4_7, e4_8, hst⟩ hM4 ho4 Q100004 n4 zz4
    refine seqQ fun Q35 k35 z35 => ?_
    refine seqQ fun Q36 k36 z36 => ?_
    refine wp_region_lit ?_
    refine Y wn rfl (ym (v := .int .i64 x39) (et rfl e4_8)) ?_
    refine Y wn rfl (ym (v := .int .i64 x3) (et rfl e4_1)) ?_
    refine Y wn rfl (ylss (et rfl rfl) (et rfl rfl)) ?_
    refine wpList_nil ?_
    refine k36 _ _ ?_
    rcases iteS hM4 with ⟨c62, hM4⟩ | ⟨c62, hM4⟩
    · refine condT (et rfl rfl) (decide_eq_true c62) ?_
      refine wp_skip ?_
      refine k35 _ _ ?_
      refine seqQ fun Q37 k37 z37 => ?_
      refine blockQ fun Q38 qb38 => ?_
      refine seqQ fun Q39 k39 z39 => ?_
      refine wp_region_lit ?_
      refine Y wn rfl (ya (v := .int .i64 0) rfl) ?_
      refine wpList_nil ?_
      refine k39 _ _ ?_
      refine seqQ fun Q40 k40 z40 => ?_
      refine seqQ fun Q41 k41 z41 => ?_
      refine wp_region_lit ?_
      refine Y wn rfl (ym (v := .int .i64 x39) (et rfl e4_8)) ?_
      refine Y wn rfl (ym (v := h2.v) (et rfl e4_0)) ?_
      refine Y wn rfl (yLen SL_22 (et rfl rfl) hst (rdI q1)) ?_
      refine Y wn rfl (ylss (et rfl rfl) (et rfl rfl)) ?_
      refine wpList_nil ?_
      refine k41 _ _ ?_
      have j5 : ∀ (x65 : Int) (f : Nat → Value) (w : World), f 0 = h2.v → f 1 = .int .i64 x3 → f 5 = h35.v → f 7 = h37.v → f 8 = .int .i64 x39 → f 9 = .int .i64 x65 → St w0 (ros) (row 3 (rI .i64) h35.v x36 :: row 3 (rI .i64) h37.v x38 :: rs) w → sparsekit_Shuffle_j5 x36 x38 x39 x65 = some r4_ → Q40 .normal (fr 51 f) w := by
        intro x65 f w ej5_0 ej5_1 ej5_5 ej5_7 ej5_8 ej5_9 hst hM
        refine k40 _ _ ?_
        refine seqQ fun Q42 k42 z42 => ?_
        refine wp_region_lit ?_
        refine Y wn rfl (ym (v := h37.v) (et rfl ej5_7)) ?_
        refine Y wn rfl (ym (v := h35.v) (et rfl ej5_5)) ?_
        refine Y wn rfl (ym (v := .int .i64 x65) (et rfl ej5_9)) ?_
        obtain ⟨x66, gx66, hM⟩ := bs hM
        refine Y wn rfl (yIa SL_22 (et rfl rfl) (et rfl rfl) hst (rdO mhR) gx66) ?_
        refine Y wn rfl (yI O_3 (et rfl rfl) hst (rdO mhR) gx66) ?_
        refine YH wn rfl (rLt (n := 1) (l := [x66]) hst SL_22 [.int .i64 x66] (bp1 (et rfl rfl)) rfl rfl (mks1 (cs := [.int .i64 x66]) rfl mkI mks0)) ?_
        clear hst
        intro h67 w hst
        obtain ⟨x69, gx69, hM⟩ := bs hM
        replace hst := hst.pk 3 [2, 0, 0] rfl
        refine YH wn rfl (rAp hst SL_22 (et rfl rfl) (et rfl rfl) (rdO (mtR mhR)) gx69) ?_
        clear hst
        intro h68 w hst
        refine Y wn rfl (ya (v := h68.v) (et rfl rfl)) ?_
        refine wpList_nil ?_
        refine k42 _ _ ?_
        obtain ⟨x70, gx70, hM⟩ := bs hM
        obtain ⟨x71, gx71, hM⟩ := bs hM
        obtain ⟨x73, gx73, hM⟩ := bs hM
        refine wp_drawR [0, 0, 3, 0, 0, 16, 56, 127, 255] [7, 8] 2 folM (by kernel_rfl) (by kernel_rfl) (by kernel_rfl) ?_
        replace hst := hst.drew
        refine DRn (l1 := [0, 1, 2, 3, 4, 5, 6]) (l2 := []) (lc := [7]) (by kernel_rfl) (by kernel_rfl) (by kernel_rfl) ?_
        refine Ry rfl rfl wn (ym (v := h35.v) (et rfl ej5_5)) ?_
        refine Ry rfl rfl wn (ym (v := .int .i64 x65) (et rfl ej5_9)) ?_
        refine Ry rfl rfl wn (ySl (k1 := .i64) SL_22 (et rfl rfl) hst (rdO (mtR (mtR mhR))) (.inr ⟨rfl, rfl⟩) (.inl (congrArg some (et rfl rfl))) gx70) ?_
        refine Ry rfl rfl wn (ym (v := h35.v) (et rfl ej5_5)) ?_
        refine Ry rfl rfl wn (ym (v := .int .i64 x65) (et rfl ej5_9)) ?_
        refine Ry rfl rfl wn (yadd (et rfl rfl) rfl) ?_
        refine Ry rfl rfl wn (ySl (k2 := .i64) SL_22 (et rfl rfl) hst (rdO (mtR (mtR mhR))) (.inl (congrArg some (et rfl rfl))) (.inr ⟨rfl, rfl⟩) gx71) ?_
        refine Rn QSn ?_
        refine Lc rfl ?_ LAn
        replace hst := hst.pk 3 [2, 0, 0] rfl
        refine LH wn (rAp2 hst SL_22 (et rfl rfl) (et rfl rfl) gx70 gx71 gx73) ?_
        clear hst
        intro h72 w hst
        refine DRn (l1 := []) (l2 := []) (lc := [8]) (by kernel_rfl) (by kernel_rfl) (by kernel_rfl) ?_
        refine Rn QSn ?_
        refine Lc rfl ?_ LAn
        refine Ly wn (ya (v := h72.v) (et rfl rfl)) ?_
        refine DRz (l1 := []) (l2 := []) (by kernel_rfl) (by kernel_rfl) ?_
        refine Rn QSn ?_
        refine qb38 _ _ _ ?_
        refine k37 _ _ ?_
        refine wp_region_lit ?_
        refine Y wn rfl (ym (v := .int .i64 x39) (et rfl ej5_8)) ?_
        refine Y wn rfl (yadd (et rfl rfl) rfl) ?_
        refine Y wn rfl (ya (v := .int .i64 (wa .i64 x39 1)) (et rfl rfl)) ?_
        refine wpList_nil ?_
        obtain rfl := someI hM
        exact n4 _ _ _ rfl ⟨_, _, _, _, _, _, rfl, rfl, ej5_0, ej5_1, rfl, rfl, rfl, (hst.pk 3 [0, 0] rfl)⟩
      rcases iteS hM4 with ⟨c74, hM4⟩ | ⟨c74, hM4⟩
      · refine condT (et rfl rfl) (decide_eq_true c74) ?_
        refine wp_region_lit ?_
        refine Y wn rfl (ym (v := h2.v) (et rfl e4_0)) ?_
        refine Y wn rfl (ym (v := .int .i64 x39) (et rfl e4_8)) ?_
        obtain ⟨x75, gx75, hM4⟩ := bs hM4
        refine Y wn rfl (yIa SL_22 (et rfl rfl) (et rfl rfl) hst (rdI q1) gx75) ?_
        refine Y wn rfl (yI O_3 (et rfl rfl) hst (rdI q1) gx75) ?_
        refine Y wn rfl (ym (v := h35.v) (et rfl e4_5)) ?_
        refine Y wn rfl (yLen SL_22 (et rfl rfl) hst (rdO mhR)) ?_
        obtain ⟨r76, gr76, hM4⟩ := bs hM4
        refine Yc wn rfl (yCall FN_6 (a2 (et rfl rfl) (et rfl rfl))) (sparsekit_Place_ok (hM := gr76) (hst := hst) ) ?_
        clear hst
        rintro _ w ⟨rfl, hst⟩
        refine ⟨_, rfl, ?_⟩
        refine Y wn rfl (ya (v := .int .i64 r76) (et rfl rfl)) ?_
        refine wpList_nil ?_
        exact j5 _ _ _ e4_0 e4_1 e4_5 e4_7 e4_8 rfl hst hM4
      · refine condF (et rfl rfl) (decide_eq_false c74) ?_
        refine wp_skip ?_
        exact j5 _ _ _ e4_0 e4_1 e4_5 e4_7 e4_8 rfl hst hM4
    · refine condF (et rfl rfl) (decide_eq_false c62) ?_
      refine wp_exit ?_
      refine z35 _ _ _ rfl ?_
      obtain rfl := someI hM4
      refine zz4 _ _ _ _ rfl rfl ?_
      exact je4_0 _ _ _ _ e4_7 (hst.pk 2 [1] rfl) (ho4 _ rfl)
  replace hst := hst.rowNh 3 (rI .i64)
  refine loopQ (fun s a w => ∃ (x9 : List Int) (x10 : Int) (f : Nat → Value) (h8 : Hdr), (x9, x10) = s ∧ a = fr 51 f ∧ f 0 = h2.v ∧ f 1 = .int .i64 x3 ∧ f 5 = h8.v ∧ f 6 = .int .i64 x10 ∧ St w0 (ros) (row 3 (rI .i64) h8.v x9 :: rs) w) go1 ⟨_, _, _, _, rfl, rfl, rfl, rfl, rfl, rfl, hst⟩ ?_
  clear hst
  rintro _ _ w r1_ ⟨x9, x10, f, h8, rfl, rfl, e1_0, e1_1, e1_5, e1_6, hst⟩ hM1 ho1 Q100001 n1 zz1
  refine seqQ fun Q43 k43 z43 => ?_
  refine seqQ fun Q44 k44 z44 => ?_
  refine wp_region_lit ?_
  refine Y wn rfl (ym (v := .int .i64 x10) (et rfl e1_6)) ?_
  refine Y wn rfl (ym (v := .int .i64 x3) (et rfl e1_1)) ?_
  refine Y wn rfl (ylss (et rfl rfl) (et rfl rfl)) ?_
  refine wpList_nil ?_
  refine k44 _ _ ?_
  rcases iteS hM1 with ⟨c77, hM1⟩ | ⟨c77, hM1⟩
  · refine condT (et rfl rfl) (decide_eq_true c77) ?_
    refine wp_skip ?_
    refine k43 _ _ ?_
    refine seqQ fun Q45 k45 z45 => ?_
    refine blockQ fun Q46 qb46 => ?_
    refine wp_region_lit ?_
    refine Y wn rfl (ym (v := h8.v) (et rfl e1_5)) ?_
    refine Y wn rfl (ym (v := .int .i64 x10) (et rfl e1_6)) ?_
    refine YH wn rfl (rLt (n := 1) (l := [x10]) hst SL_22 [.int .i64 x10] (bp1 (et rfl rfl)) rfl rfl (mks1 (cs := [.int .i64 x10]) rfl mkI mks0)) ?_
    clear hst
    intro h78 w hst
    obtain ⟨x80, gx80, hM1⟩ := bs hM1
    replace hst := hst.pk 2 [1, 0] rfl
    refine YH wn rfl (rAp hst SL_22 (et rfl rfl) (et rfl rfl) (rdO (mtR mhR)) gx80) ?_
    clear hst
    intro h79 w hst
    refine Y wn rfl (ya (v := h79.v) (et rfl rfl)) ?_
    refine wpList_nil ?_
    refine qb46 _ _ _ ?_
    refine k45 _ _ ?_
    refine wp_region_lit ?_
    refine Y wn rfl (ym (v := .int .i64 x10) (et rfl e1_6)) ?_
    refine Y wn rfl (yadd (et rfl rfl) rfl) ?_
    refine Y wn rfl (ya (v := .int .i64 (wa .i64 x10 1)) (et rfl rfl)) ?_
    refine wpList_nil ?_
    obtain rfl := someI hM1
    exact n1 _ _ _ rfl ⟨_, _, _, _, rfl, rfl, e1_0, e1_1, rfl, rfl, (hst.pk 2 [0] rfl)⟩
  · refine condF (et rfl rfl) (decide_eq_false c77) ?_
    refine wp_exit ?_
    refine z43 _ _ _ rfl ?_
    obtain rfl := someI hM1
    refine zz1 _ _ _ _ rfl rfl ?_
    exact je1_0 _ _ _ _ e1_0 e1_1 e1_5 hst (ho1 _ rfl)

theorem matrix_places_ok {w0 : World} {ros : List Fact} {rs : List Res} {w : World} {x1 : List Int} {x3 : Int} {h2 : Hdr} {out : (List Int) × Int} (hM : matrix_places x1 x3 = some out) (q1 : imm (rI .i64) h2.v x1 ∈ ros) (hst : St w0 ros (rs) w) :
    Calls Tryz.prog 30 #[h2.v, .int .i64 x3] w (fun e w => ∃ (h100001 : Hdr), e = .returned (.tuple #[h100001.v, .int .i64 out.2]) ∧ St w0 (ros) (row 3 (rI .i64) h100001.v out.1 :: rs) w) := by
  refine enterQ Tryz.func30 rfl Tryz.ntmps30 rfl fun Q hQ => ?_
  refine seqQ fun Q1 k1 z1 => ?_
  refine wp_region_lit ?_
  refine Y wn rfl (ya (v := hnil.v) rfl) ?_
  refine Y wn rfl (ya (v := .int .i64 0) rfl) ?_
  refine wpList_nil ?_
  refine k1 _ _ ?_
  refine seqQ fun Q2 k2 z2 => ?_
  refine wp_region_lit ?_
  refine Y wn rfl (ym (v := .int .i64 x3) (et rfl rfl)) ?_
  obtain ⟨x6, gx6, hM⟩ := bs hM
  refine YH wn rfl (rMk hst SL_22 (et rfl rfl) gx6) ?_
  clear hst
  intro h4 w hst
  refine Y wn rfl (ya (v := h4.v) (et rfl rfl)) ?_
  refine wpList_nil ?_
  refine k2 _ _ ?_
  refine seqQ fun Q3 k3 z3 => ?_
  refine seqQ fun Q4 k4 z4 => ?_
  refine wp_region_lit ?_
  refine Y wn rfl (ym (v := h4.v) (et rfl rfl)) ?_
  refine Y wn rfl (yLen SL_22 (et rfl rfl) hst (rdO mhR)) ?_
  refine Y wn rfl (ym (v := .int .i64 0) rfl) ?_
  refine wpList_nil ?_
  refine k4 _ _ ?_
  refine blockQ fun Q5 qb5 => ?_
  obtain ⟨o1, go1, hM⟩ := bs hM
  have je1_0 : ∀ (x15 : List Int) (f : Nat → Value) (w : World), f 0 = h2.v → f 1 = .int .i64 x3 → f 6 = h4.v → St w0 (ros) (row 3 (rI .i64) h4.v x15 :: rs) w → x15 = o1 → Q5 (.exit 0) (fr 53 f) w := by
    intro x15 f w eje1_0_0 eje1_0_1 eje1_0_6 hst ho
    subst ho
    refine qb5 _ _ _ ?_
    refine k3 _ _ ?_
    refine seqQ fun Q16 k16 z16 => ?_
    refine seqQ fun Q17 k17 z17 => ?_
    refine wp_region_lit ?_
    refine Y wn rfl (ym (v := h2.v) (et rfl eje1_0_0)) ?_
    refine Y wn rfl (yLen SL_22 (et rfl rfl) hst (rdI q1)) ?_
    refine Y wn rfl (ym (v := .int .i64 0) rfl) ?_
    refine wpList_nil ?_
    refine k17 _ _ ?_
    refine blockQ fun Q18 qb18 => ?_
    obtain ⟨o2, go2, hM⟩ := bs hM
    have je2_0 : ∀ (f : Nat → Value) (w : World), f 0 = h2.v → f 6 = h4.v → St w0 (ros) (row 3 (rI .i64) h4.v x15 :: rs) w → .inl () = o2 → Q18 (.exit 2) (fr 53 f) w := by
      intro f w eje2_0_0 eje2_0_6 hst ho
      subst ho
      refine qb18 _ _ _ ?_
      refine k16 _ _ ?_
      refine seqQ fun Q33 k33 z33 => ?_
      refine seqQ fun Q34 k34 z34 => ?_
      refine wp_region_lit ?_
      refine Y wn rfl (ym (v := h2.v) (et rfl eje2_0_0)) ?_
      refine Y wn rfl (yLen SL_22 (et rfl rfl) hst (rdI q1)) ?_
      refine Y wn rfl (ym (v := .int .i64 0) rfl) ?_
      refine wpList_nil ?_
      refine k34 _ _ ?_
      refine blockQ fun Q35 qb35 => ?_
      obtain ⟨o3, go3, hM⟩ := bs hM
      have je3_0 : ∀ (x40 : List Int) (f : Nat → Value) (w : World), f 6 = h4.v → St w0 (ros) (row 3 (rI .i64) h4.v x40 :: rs) w → .inl x40 = o3 → Q35 (.exit 4) (fr 53 f) w := by
        intro x40 f w eje3_0_6 hst ho
        subst ho
        refine qb35 _ _ _ ?_
        refine k33 _ _ ?_
        refine seqQ fun Q52 k52 z52 => ?_
        refine wp_region_lit ?_
        refine Y wn rfl (ym (v := h4.v) (et rfl eje3_0_6)) ?_
        refine Y wn rfl (ya (v := h4.v) (et rfl rfl)) ?_
        refine Y wn rfl (ya (v := .int .i64 0) rfl) ?_
        refine wpList_nil ?_
        refine k52 _ _ ?_
        refine wp_ret ?_
        obtain rfl := someI hM
        exact hQ _ _ _ (fin2r Tryz.results30 ⟨rfl, rfl⟩ ⟨rfl, rfl⟩ ⟨_, rfl, hst⟩)
      have je3_1 : ∀ (f : Nat → Value) (w : World), f 4 = hnil.v → f 5 = .int .i64 90 → St w0 (ros) (rs) w → .inr () = o3 → Q35 .ret (fr 53 f) w := by
        intro f w eje3_1_4 eje3_1_5 hst ho
        subst ho
        refine qb35 _ _ _ ?_
        refine z33 _ _ _ rfl ?_
        obtain rfl := someI hM
        replace hst := hst.rowNh 3 (rI .i64)
        exact hQ _ _ _ (fin2r Tryz.results30 ⟨rfl, eje3_1_4⟩ ⟨rfl, eje3_1_5⟩ ⟨_, rfl, hst⟩)
      refine loopQ (fun s a w => ∃ (x31 : List Int) (x32 : Int) (f : Nat → Value), (x31, x32) = s ∧ a = fr 53 f ∧ f 6 = h4.v ∧ f 35 = h2.v ∧ f 36 = .int .i64 (x1.length : Int) ∧ f 37 = .int .i64 x32 ∧ St w0 (ros) (row 3 (rI .i64) h4.v x31 :: rs) w) go3 ⟨_, _, _, rfl, rfl, eje2_0_6, rfl, rfl, rfl, hst⟩ ?_
      clear hst
      rintro _ _ w r3_ ⟨x31, x32, f, rfl, rfl, e3_6, e3_35, e3_36, e3_37, hst⟩ hM3 ho3 Q100003 n3 zz3
      refine seqQ fun Q53 k53 z53 => ?_
      refine wp_region_lit ?_
      refine Y wn rfl (ylss (et rfl e3_37) (et rfl e3_36)) ?_
      refine wpList_nil ?_
      refine k53 _ _ ?_
      refine seqQ fun Q54 k54 z54 => ?_
      rcases iteS hM3 with ⟨c41, hM3⟩ | ⟨c41, hM3⟩
      · refine condT (et rfl rfl) (decide_eq_true c41) ?_
        refine wp_skip ?_
        refine k54 _ _ ?_
        refine seqQ fun Q55 k55 z55 => ?_
        refine blockQ fun Q56 qb56 => ?_
        refine seqQ fun Q57 k57 z57 => ?_
        refine wp_region_lit ?_
        refine Y wn rfl (ym (v := .int .i64 x32) (et rfl e3_37)) ?_
        obtain ⟨x42, gx42, hM3⟩ := bs hM3
        refine Y wn rfl (yIa SL_22 (et rfl e3_35) (et rfl e3_37) hst (rdI q1) gx42) ?_
        refine Y wn rfl (yI O_3 (et rfl rfl) hst (rdI q1) gx42) ?_
        refine Y wn rfl (ya (v := .int .i64 x32) (et rfl rfl)) ?_
        refine Y wn rfl (ya (v := .int .i64 x42) (et rfl rfl)) ?_
        refine wpList_nil ?_
        refine k57 _ _ ?_
        refine seqQ fun Q58 k58 z58 => ?_
        refine seqQ fun Q59 k59 z59 => ?_
        refine wp_region_lit ?_
        refine Y wn rfl (ym (v := h4.v) (et rfl e3_6)) ?_
        refine Y wn rfl (ym (v := .int .i64 x42) (et rfl rfl)) ?_
        obtain ⟨x43, gx43, hM3⟩ := bs hM3
        refine Y wn rfl (yIa SL_22 (et rfl rfl) (et rfl rfl) hst (rdO mhR) gx43) ?_
        refine Y wn rfl (yI O_3 (et rfl rfl) hst (rdO mhR) gx43) ?_
        refine Y wn rfl (ygeq (et rfl rfl) rfl) ?_
        refine wpList_nil ?_
        refine k59 _ _ ?_
        rcases iteS hM3 with ⟨c44, hM3⟩ | ⟨c44, hM3⟩
        · refine condT (et rfl rfl) (decide_eq_true c44) ?_
          refine seqQ fun Q60 k60 z60 => ?_
          refine wp_region_lit ?_
          refine Y wn rfl (ya (v := hnil.v) rfl) ?_
          refine Y wn rfl (ya (v := .int .i64 90) rfl) ?_
          refine wpList_nil ?_
          refine k60 _ _ ?_
          refine wp_ret ?_
          refine z58 _ _ _ rfl ?_
          refine qb56 _ _ _ ?_
          refine z55 _ _ _ rfl ?_
          obtain rfl := someI hM3
          refine zz3 _ _ _ _ rfl rfl ?_
          exact je3_1 _ _ rfl rfl (hst.pk 1 [] rfl) (ho3 _ rfl)
        · refine condF (et rfl rfl) (decide_eq_false c44) ?_
          refine wp_skip ?_
          refine k58 _ _ ?_
          refine wp_region_lit ?_
          refine Y wn rfl (ym (v := h4.v) (et rfl e3_6)) ?_
          refine Y wn rfl (ym (v := .int .i64 x42) (et rfl rfl)) ?_
          refine Y wn rfl (ym (v := .int .i64 x32) (et rfl rfl)) ?_
          obtain ⟨x45, gx45, hM3⟩ := bs hM3
          refine Y wn rfl (yIs SL_22 (et rfl rfl) (et rfl rfl) hst (rdO mhR) gx45) ?_
          refine YT wn rfl (r_sti (cs := [.int .i64 x32]) hst O_3 rfl (et rfl rfl) (et rfl rfl) rfl mkI gx45) ?_
          clear hst
          intro w hst
          refine wpList_nil ?_
          refine qb56 _ _ _ ?_
          refine k55 _ _ ?_
          refine wp_region_lit ?_
          refine Y wn rfl (yadd (et rfl e3_37) rfl) ?_
          refine Y wn rfl (ym (v := .int .i64 (wa .i64 x32 1)) (et rfl rfl)) ?_
          refine wpList_nil ?_
          obtain rfl := someI hM3
          exact n3 _ _ _ rfl ⟨_, _, _, rfl, rfl, e3_6, e3_35, e3_36, rfl, hst⟩
      · refine condF (et rfl rfl) (decide_eq_false c41) ?_
        refine wp_exit ?_
        refine z54 _ _ _ rfl ?_
        obtain rfl := someI hM3
        refine zz3 _ _ _ _ rfl rfl ?_
        exact je3_0 _ _ _ e3_6 hst (ho3 _ rfl)
    have je2_1 : ∀ (f : Nat → Value) (w : World), f 4 = hnil.v → f 5 = .int .i64 3 → St w0 (ros) (rs) w → .inr () = o2 → Q18 .ret (fr 53 f) w := by
      intro f w eje2_1_4 eje2_1_5 hst ho
      subst ho
      refine qb18 _ _ _ ?_
      refine z16 _ _ _ rfl ?_
      obtain rfl := someI hM
      replace hst := hst.rowNh 3 (rI .i64)
      exact hQ _ _ _ (fin2r Tryz.results30 ⟨rfl, eje2_1_4⟩ ⟨rfl, eje2_1_5⟩ ⟨_, rfl, hst⟩)
    refine loopQ (fun s a w => ∃ (x20 : Int) (f : Nat → Value), x20 = s ∧ a = fr 53 f ∧ f 0 = h2.v ∧ f 1 = .int .i64 x3 ∧ f 6 = h4.v ∧ f 23 = h2.v ∧ f 24 = .int .i64 (x1.length : Int) ∧ f 25 = .int .i64 x20 ∧ St w0 (ros) (row 3 (rI .i64) h4.v x15 :: rs) w) go2 ⟨_, _, rfl, rfl, eje1_0_0, eje1_0_1, eje1_0_6, rfl, rfl, rfl, hst⟩ ?_
    clear hst
    rintro _ _ w r2_ ⟨x20, f, rfl, rfl, e2_0, e2_1, e2_6, e2_23, e2_24, e2_25, hst⟩ hM2 ho2 Q100002 n2 zz2
    refine seqQ fun Q61 k61 z61 => ?_
    refine wp_region_lit ?_
    refine Y wn rfl (ylss (et rfl e2_25) (et rfl e2_24)) ?_
    refine wpList_nil ?_
    refine k61 _ _ ?_
    refine seqQ fun Q62 k62 z62 => ?_
    rcases iteS hM2 with ⟨c46, hM2⟩ | ⟨c46, hM2⟩
    · refine condT (et rfl rfl) (decide_eq_true c46) ?_
      refine wp_skip ?_
      refine k62 _ _ ?_
      refine seqQ fun Q63 k63 z63 => ?_
      refine blockQ fun Q64 qb64 => ?_
      refine seqQ fun Q65 k65 z65 => ?_
      refine wp_region_lit ?_
      obtain ⟨x47, gx47, hM2⟩ := bs hM2
      refine Y wn rfl (yIa SL_22 (et rfl e2_23) (et rfl e2_25) hst (rdI q1) gx47) ?_
      refine Y wn rfl (yI O_3 (et rfl rfl) hst (rdI q1) gx47) ?_
      refine Y wn rfl (ya (v := .int .i64 x47) (et rfl rfl)) ?_
      refine wpList_nil ?_
      refine k65 _ _ ?_
      refine seqQ fun Q66 k66 z66 => ?_
      refine wp_region_lit ?_
      refine Y wn rfl (ym (v := .int .i64 x47) (et rfl rfl)) ?_
      refine Y wn rfl (ym (v := .int .i64 x3) (et rfl e2_1)) ?_
      refine Y wn rfl (ysub (et rfl rfl) rfl) ?_
      obtain ⟨r48, gr48, hM2⟩ := bs hM2
      refine Yc wn rfl (yCall FN_48 (a3 (et rfl rfl) rfl (et rfl rfl))) (matrix_within_ok (hM := gr48) (hst := hst) ) ?_
      clear hst
      rintro _ w ⟨rfl, hst⟩
      refine ⟨_, rfl, ?_⟩
      refine Y wn rfl (ynot (et rfl rfl)) ?_
      refine wpList_nil ?_
      refine k66 _ _ ?_
      rcases iteS hM2 with ⟨c49, hM2⟩ | ⟨c49, hM2⟩
      · refine condF (et rfl rfl) (nF c49) ?_
        refine wp_skip ?_
        refine qb64 _ _ _ ?_
        refine k63 _ _ ?_
        refine wp_region_lit ?_
        refine Y wn rfl (yadd (et rfl e2_25) rfl) ?_
        refine Y wn rfl (ym (v := .int .i64 (wa .i64 x20 1)) (et rfl rfl)) ?_
        refine wpList_nil ?_
        obtain rfl := someI hM2
        exact n2 _ _ _ rfl ⟨_, _, rfl, rfl, e2_0, e2_1, e2_6, e2_23, e2_24, rfl, hst⟩
      · refine condT (et rfl rfl) (nT (bfalse c49)) ?_
        refine seqQ fun Q67 k67 z67 => ?_
        refine wp_region_lit ?_
        refine Y wn rfl (ya (v := hnil.v) rfl) ?_
        refine Y wn rfl (ya (v := .int .i64 3) rfl) ?_
        refine wpList_nil ?_
        refine k67 _ _ ?_
        refine wp_ret ?_
        refine qb64 _ _ _ ?_
        refine z63 _ _ _ rfl ?_
        obtain rfl := someI hM2
        refine zz2 _ _ _ _ rfl rfl ?_
        exact je2_1 _ _ rfl rfl (hst.pk 1 [] rfl) (ho2 _ rfl)
    · refine condF (et rfl rfl) (decide_eq_false c46) ?_
      refine wp_exit ?_
      refine z62 _ _ _ rfl ?_
      obtain rfl := someI hM2
      refine zz2 _ _ _ _ rfl rfl ?_
      exact je2_0 _ _ e2_0 e2_6 hst (ho2 _ rfl)
  refine loopQ (fun s a w => ∃ (x9 : List Int) (x10 : Int) (f : Nat → Value), (x9, x10) = s ∧ a = fr 53 f ∧ f 0 = h2.v ∧ f 1 = .int .i64 x3 ∧ f 6 = h4.v ∧ f 15 = .int .i64 (x6.length : Int) ∧ f 16 = .int .i64 x10 ∧ St w0 (ros) (row 3 (rI .i64) h4.v x9 :: rs) w) go1 ⟨_, _, _, rfl, rfl, rfl, rfl, rfl, rfl, rfl, hst⟩ ?_
  clear hst
  rintro _ _ w r1_ ⟨x9, x10, f, rfl, rfl, e1_0, e1_1, e1_6, e1_15, e1_16, hst⟩ hM1 ho1 Q100001 n1 zz1
  refine seqQ fun Q68 k68 z68 => ?_
  refine wp_region_lit ?_
  refine Y wn rfl (ylss (et rfl e1_16) (et rfl e1_15)) ?_
  refine wpList_nil ?_
  refine k68 _ _ ?_
  refine seqQ fun Q69 k69 z69 => ?_
  rcases iteS hM1 with ⟨c50, hM1⟩ | ⟨c50, hM1⟩
  · refine condT (et rfl rfl) (decide_eq_true c50) ?_
    refine wp_skip ?_
    refine k69 _ _ ?_
    refine seqQ fun Q70 k70 z70 => ?_
    refine blockQ fun Q71 qb71 => ?_
    refine seqQ fun Q72 k72 z72 => ?_
    refine wp_region_lit ?_
    refine Y wn rfl (ym (v := .int .i64 x10) (et rfl e1_16)) ?_
    refine Y wn rfl (ya (v := .int .i64 x10) (et rfl rfl)) ?_
    refine wpList_nil ?_
    refine k72 _ _ ?_
    refine wp_region_lit ?_
    refine Y wn rfl (ym (v := h4.v) (et rfl e1_6)) ?_
    refine Y wn rfl (ym (v := .int .i64 x10) (et rfl rfl)) ?_
    obtain ⟨x51, gx51, hM1⟩ := bs hM1
    refine Y wn rfl (yIs SL_22 (et rfl rfl) (et rfl rfl) hst (rdO mhR) gx51) ?_
    refine YT wn rfl (r_sti (cs := [.int .i64 (-1)]) hst O_3 rfl (et rfl rfl) rfl rfl mkI gx51) ?_
    clear hst
    intro w hst
    refine wpList_nil ?_
    refine qb71 _ _ _ ?_
    refine k70 _ _ ?_
    refine wp_region_lit ?_
    refine Y wn rfl (yadd (et rfl e1_16) rfl) ?_
    refine Y wn rfl (ym (v := .int .i64 (wa .i64 x10 1)) (et rfl rfl)) ?_
    refine wpList_nil ?_
    obtain rfl := someI hM1
    exact n1 _ _ _ rfl ⟨_, _, _, rfl, rfl, e1_0, e1_1, e1_6, e1_15, rfl, hst⟩
  · refine condF (et rfl rfl) (decide_eq_false c50) ?_
    refine wp_exit ?_
    refine z69 _ _ _ rfl ?_
    obtain rfl := someI hM1
    refine zz1 _ _ _ _ rfl rfl ?_
    exact je1_0 _ _ _ e1_0 e1_1 e1_6 hst (ho1 _ rfl)

theorem slices_Clone_apiEntry_ok {w0 : World} {ros : List Fact} {rs : List Res} {w : World} {x1 : List (Int × Int × Int)} {h2 : Hdr} {out : (List (Int × Int × Int))} (hM : slices_Clone_apiEntry x1 = some out) (q1 : imm rTi64i64u64 h2.v x1 ∈ ros) (hst : St w0 ros (rs) w) :
    Calls Tryz.prog 72 #[h2.v] w (fun e w => ∃ (h100001 : Hdr), e = .returned (h100001.v) ∧ St w0 (ros) (row 57 rTi64i64u64 h100001.v out :: rs) w) := by
  refine enterQ Tryz.func72 rfl Tryz.ntmps72 rfl fun Q hQ => ?_
  refine seqQ fun Q1 k1 z1 => ?_
  refine wp_region_lit ?_
  refine Y wn rfl (ya (v := hnil.v) rfl) ?_
  refine wpList_nil ?_
  refine k1 _ _ ?_
  refine seqQ fun Q2 k2 z2 => ?_
  refine seqQ fun Q3 k3 z3 => ?_
  refine wp_region_lit ?_
  refine Y wn rfl (ym (v := h2.v) (et rfl rfl)) ?_
  refine Y wn rfl (yenil SL_54 (et rfl rfl) rfl) ?_
  refine wpList_nil ?_
  refine k3 _ _ ?_
  rcases nilS h2 with hn | hn
  · refine condT (et rfl rfl) hn ?_
    obtain rfl := nilE hn q1 hst
    replace hM := nilM hM
    refine seqQ fun Q4 k4 z4 => ?_
    refine wp_region_lit ?_
    refine Y wn rfl (ya (v := hnil.v) rfl) ?_
    refine wpList_nil ?_
    refine k4 _ _ ?_
    refine wp_ret ?_
    refine z2 _ _ _ rfl ?_
    obtain rfl := someI hM
    replace hst := hst.rowNh 57 rTi64i64u64
    exact hQ _ _ _ (fin1r Tryz.results72 ⟨rfl, rfl⟩ ⟨_, rfl, hst⟩)
  · refine condF (et rfl rfl) hn ?_
    refine wp_skip ?_
    refine k2 _ _ ?_
    refine seqQ fun Q5 k5 z5 => ?_
    refine wp_region_lit ?_
    refine YH wn rfl (rLt (n := 0) (l := []) hst SL_54 [] bp0 rfl rfl mks0) ?_
    clear hst
    intro h3 w hst
    refine Y wn rfl (ym (v := h2.v) (et rfl rfl)) ?_
    obtain ⟨x5, gx5, hM⟩ := bs hM
    refine YH wn rfl (rAp hst SL_54 (et rfl rfl) (et rfl rfl) (rdI q1) gx5) ?_
    clear hst
    intro h4 w hst
    refine Y wn rfl (ya (v := h4.v) (et rfl rfl)) ?_
    refine wpList_nil ?_
    refine k5 _ _ ?_
    refine wp_ret ?_
    obtain rfl := someI hM
    exact hQ _ _ _ (fin1r Tryz.results72 ⟨rfl, rfl⟩ ⟨_, rfl, hst⟩)
end Go.Proofs.YtcknmegldjnjjaaGreatDoor
