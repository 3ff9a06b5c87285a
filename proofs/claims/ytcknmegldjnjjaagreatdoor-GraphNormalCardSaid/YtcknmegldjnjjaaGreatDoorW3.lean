/- Walks: each function computes its model, printed. -/
import Derived.Test.YtcknmegldjnjjaaGreatDoorW2
namespace Go.Proofs.YtcknmegldjnjjaaGreatDoor
open Go Sx M
set_option maxRecDepth 100000
set_option maxHeartbeats 400000
set_option linter.unusedVariables false
attribute [local irreducible] wpList Code.wp Calls DR QR QS LA LS St
theorem sparseref01_BitLen_ok {w0 : World} {ros : List Fact} {rs : List Res} {w : World} {x1 : Bool} {x2 : List Int} {h3 : Hdr} {out : Int} (hM : sparseref01_BitLen x1 x2 = some out) (q1 : imm (rI .u32) h3.v x2 ∈ ros) (hst : St w0 ros (rs) w) :
    Calls Tryz.prog 94 #[.agg #[.bool x1, h3.v]] w (fun e w => e = .returned (.int .i64 out) ∧ St w0 (ros) (rs) w) := by
  refine enterQ Tryz.func94 rfl Tryz.ntmps94 rfl fun Q hQ => ?_
  refine seqQ fun Q1 k1 z1 => ?_
  refine wp_region_lit ?_
  refine YB wn rfl (r_box (vals := [.bool x1, h3.v]) hst (et rfl rfl) rfl) ?_
  clear hst
  intro b4 w hst
  refine Y wn rfl (ya (v := .int .i64 0) rfl) ?_
  refine wpList_nil ?_
  refine k1 _ _ ?_
  refine seqQ fun Q2 k2 z2 => ?_
  refine wp_region_lit ?_
  refine Y wn rfl (yFb FL_82_1 (et rfl rfl)) ?_
  refine Y wn rfl (yLb (u := h3.v) O_80 (et rfl rfl) hst mhR rfl) ?_
  obtain ⟨r5, gr5, hM⟩ := bs hM
  refine Yc wn rfl (yCall FN_112 (a1 (et rfl rfl))) (sparseref01_trim_ok (hM := gr5) (hst := hst) (q1 := q1)) ?_
  clear hst
  rintro _ w ⟨h6, rfl, hst⟩
  refine ⟨_, rfl, ?_⟩
  refine Y wn rfl (ya (v := h6.v) (et rfl rfl)) ?_
  refine wpList_nil ?_
  refine k2 _ _ ?_
  refine seqQ fun Q3 k3 z3 => ?_
  refine seqQ fun Q4 k4 z4 => ?_
  refine wp_region_lit ?_
  refine Y wn rfl (ym (v := h6.v) (et rfl rfl)) ?_
  refine Y wn rfl (yLen SL_80 (et rfl rfl) hst (rdO mhR)) ?_
  refine Y wn rfl (yeql (et rfl rfl) rfl) ?_
  refine wpList_nil ?_
  refine k4 _ _ ?_
  rcases iteS hM with ⟨c7, hM⟩ | ⟨c7, hM⟩
  · refine condT (et rfl rfl) (decide_eq_true c7) ?_
    refine seqQ fun Q5 k5 z5 => ?_
    refine wp_region_lit ?_
    refine Y wn rfl (ya (v := .int .i64 0) rfl) ?_
    refine wpList_nil ?_
    refine k5 _ _ ?_
    refine wp_ret ?_
    refine z3 _ _ _ rfl ?_
    obtain rfl := someI hM
    exact hQ _ _ _ (fin1r Tryz.results94 ⟨rfl, rfl⟩ ⟨rfl, (hst.pk 2 [] rfl)⟩)
  · refine condF (et rfl rfl) (decide_eq_false c7) ?_
    refine wp_skip ?_
    refine k3 _ _ ?_
    refine seqQ fun Q6 k6 z6 => ?_
    refine wp_region_lit ?_
    refine Y wn rfl (ym (v := h6.v) (et rfl rfl)) ?_
    refine Y wn rfl (yLen SL_80 (et rfl rfl) hst (rdO mhR)) ?_
    refine Y wn rfl (ysub (et rfl rfl) rfl) ?_
    refine Y wn rfl (ymul rfl (et rfl rfl)) ?_
    refine Y wn rfl (ym (v := h6.v) (et rfl rfl)) ?_
    refine Y wn rfl (ym (v := h6.v) (et rfl rfl)) ?_
    refine Y wn rfl (yLen SL_80 (et rfl rfl) hst (rdO mhR)) ?_
    refine Y wn rfl (ysub (et rfl rfl) rfl) ?_
    obtain ⟨x8, gx8, hM⟩ := bs hM
    refine Y wn rfl (yIa SL_80 (et rfl rfl) (et rfl rfl) hst (rdO mhR) gx8) ?_
    refine Y wn rfl (yI O_127 (et rfl rfl) hst (rdO mhR) gx8) ?_
    obtain ⟨r9, gr9, hM⟩ := bs hM
    refine Yc wn rfl (yCall FN_91 (a1 (et rfl rfl))) (math_bits_Len32_ok (hM := gr9) (hst := hst) ) ?_
    clear hst
    rintro _ w ⟨rfl, hst⟩
    refine ⟨_, rfl, ?_⟩
    refine Y wn rfl (yadd (et rfl rfl) (et rfl rfl)) ?_
    refine Y wn rfl (ya (v := .int .i64 (wa .i64 (wm .i64 32 (ws .i64 (r5.length : Int) 1)) r9)) (et rfl rfl)) ?_
    refine wpList_nil ?_
    refine k6 _ _ ?_
    refine wp_ret ?_
    obtain rfl := someI hM
    exact hQ _ _ _ (fin1r Tryz.results94 ⟨rfl, rfl⟩ ⟨rfl, (hst.pk 2 [] rfl)⟩)

theorem sparseref02_Make_ok {w0 : World} {ros : List Fact} {rs : List Res} {w : World} {x1 : Bool} {x2 : List Int} {x4 : Int} {h3 : Hdr} {out : Bool × Bool × (List Int) × Int} (hM : sparseref02_Make x1 x2 x4 = some out) (q1 : imm (rI .u32) h3.v x2 ∈ ros) (q2 : globF ∈ ros) (hst : St w0 ros (rs) w) :
    Calls Tryz.prog 67 #[.agg #[.bool x1, h3.v], .int .i64 x4] w (fun e w => ∃ (h100003 : Hdr), e = .returned (.agg #[.bool out.1, .bool out.2.1, h100003.v, .int .i64 out.2.2.2]) ∧ St w0 (imm (rI .u32) h100003.v out.2.2.1 :: ros) (rs) w) := by
  refine enterQ Tryz.func67 rfl Tryz.ntmps67 rfl fun Q hQ => ?_
  refine seqQ fun Q1 k1 z1 => ?_
  refine wp_region_lit ?_
  refine YB wn rfl (r_box (vals := [.bool x1, h3.v]) hst (et rfl rfl) rfl) ?_
  clear hst
  intro b5 w hst
  refine YB wn rfl (rAl hst ZT_84) ?_
  clear hst
  intro b6 w hst
  refine wpList_nil ?_
  refine k1 _ _ ?_
  refine seqQ fun Q2 k2 z2 => ?_
  refine wp_region_lit ?_
  refine Y wn rfl (yLbs (us := [.bool x1, h3.v]) ST_82 (et rfl rfl) hst (mtR mhR) rfl rfl) ?_
  obtain ⟨r7, gr7, hM⟩ := bs hM
  refine Yc wn rfl (yCall FN_93 (a1 (et rfl rfl))) (sparseref01_Norm_ok (hM := gr7) (hst := hst) (q1 := q1)) ?_
  clear hst
  rintro _ w ⟨h8, rfl, hst⟩
  refine ⟨_, rfl, ?_⟩
  refine YB wn rfl (rAl hst ZT_82) ?_
  clear hst
  intro b9 w hst
  refine YT wn rfl (r_stbn (vals' := [.bool r7.1, h8.v]) (us := [.bool r7.1, h8.v]) hst ST_82 (et rfl rfl) (et rfl rfl) rfl rfl (one_of rfl) rfl) ?_
  clear hst
  intro w hst
  refine wpList_nil ?_
  refine k2 _ _ ?_
  refine seqQ fun Q3 k3 z3 => ?_
  refine seqQ fun Q4 k4 z4 => ?_
  refine wp_region_lit ?_
  refine Y wn rfl (yFb FL_82_1 (et rfl rfl)) ?_
  refine Y wn rfl (yLb (u := h8.v) O_80 (et rfl rfl) hst mhR rfl) ?_
  refine Y wn rfl (yLen SL_80 (et rfl rfl) hst (rdO (mtR mhR))) ?_
  refine Y wn rfl (yeql (et rfl rfl) rfl) ?_
  refine wpList_nil ?_
  refine k4 _ _ ?_
  rcases iteS hM with ⟨c10, hM⟩ | ⟨c10, hM⟩
  · refine condT (et rfl rfl) (decide_eq_true c10) ?_
    refine seqQ fun Q5 k5 z5 => ?_
    refine wp_region_lit ?_
    refine Y wn rfl (ybuild (us := [.bool false, .bool false, hnil.v, .int .i64 0]) [] SO_84 bp0 rfl) ?_
    replace hst := hst.pk 3 [2, 0, 0] rfl
    refine YT wn rfl (r_stbn (vals' := [.bool false, .bool false, hnil.v, .int .i64 0]) (us := [.bool false, .bool false, hnil.v, .int .i64 0]) hst ST_84 (et rfl rfl) (et rfl rfl) rfl rfl (one_of rfl) rfl) ?_
    clear hst
    intro w hst
    refine wpList_nil ?_
    refine k5 _ _ ?_
    refine wp_ret ?_
    refine z3 _ _ _ rfl ?_
    obtain rfl := someI hM
    replace hst := hst.immNh (rI .u32)
    exact hQ _ _ _ (fin1r Tryz.results67 (rcs2 rfl rfl hst mhR ST_84 rfl) ⟨_, rfl, (hst.pk 4 [] rfl)⟩)
  · refine condF (et rfl rfl) (decide_eq_false c10) ?_
    refine wp_skip ?_
    refine k3 _ _ ?_
    refine seqQ fun Q6 k6 z6 => ?_
    refine seqQ fun Q7 k7 z7 => ?_
    refine wp_region_lit ?_
    refine Y wn rfl (ym (v := .int .i64 x4) (et rfl rfl)) ?_
    refine Y wn rfl (ygtr (et rfl rfl) rfl) ?_
    refine wpList_nil ?_
    refine k7 _ _ ?_
    rcases iteS hM with ⟨c11, hM⟩ | ⟨c11, hM⟩
    · refine condT (et rfl rfl) (decide_eq_true c11) ?_
      refine seqQ fun Q8 k8 z8 => ?_
      refine wp_region_lit ?_
      obtain ⟨r12, gr12, hM⟩ := bs hM
      refine Yc wn rfl (yCall FN_66 a0) (sparseref02_Bad_ok (hM := gr12) (hst := hst) ) ?_
      clear hst
      rintro _ w ⟨rfl, hst⟩
      refine ⟨_, rfl, ?_⟩
      replace hst := hst.pk 3 [2, 0, 0] rfl
      refine YT wn rfl (r_stbn (vals' := [.bool r12.1, .bool r12.2.1, hnil.v, .int .i64 r12.2.2]) (us := [.bool r12.1, .bool r12.2.1, hnil.v, .int .i64 r12.2.2]) hst ST_84 (et rfl rfl) (et rfl rfl) rfl rfl (one_of rfl) rfl) ?_
      clear hst
      intro w hst
      refine wpList_nil ?_
      refine k8 _ _ ?_
      refine wp_ret ?_
      refine z6 _ _ _ rfl ?_
      obtain rfl := someI hM
      replace hst := hst.immNh (rI .u32)
      exact hQ _ _ _ (fin1r Tryz.results67 (rcs2 rfl rfl hst mhR ST_84 rfl) ⟨_, rfl, (hst.pk 4 [] rfl)⟩)
    · refine condF (et rfl rfl) (decide_eq_false c11) ?_
      refine wp_skip ?_
      refine k6 _ _ ?_
      refine seqQ fun Q9 k9 z9 => ?_
      refine wp_region_lit ?_
      refine Y wn rfl (yLbs (us := [.bool r7.1, h8.v]) ST_82 (et rfl rfl) hst mhR rfl rfl) ?_
      obtain ⟨r13, gr13, hM⟩ := bs hM
      replace hst := hst.pk 2 [1, 0] rfl
      replace hst := hst.fz
      refine Yc wn rfl (yCall FN_101 (a1 (et rfl rfl))) (sparseref01_TrailingZeros_ok (hM := gr13) (hst := hst) (q1 := mhF) (q2 := (mtF q2))) ?_
      clear hst
      rintro _ w ⟨rfl, hst⟩
      refine ⟨_, rfl, ?_⟩
      refine Y wn rfl (ya (v := .int .i64 r13) (et rfl rfl)) ?_
      refine wpList_nil ?_
      refine k9 _ _ ?_
      refine seqQ fun Q10 k10 z10 => ?_
      refine wp_region_lit ?_
      refine Y wn rfl (ym (v := .int .i64 x4) (et rfl rfl)) ?_
      refine Y wn rfl (ym (v := .int .i64 r13) (et rfl rfl)) ?_
      refine Y wn rfl (yadd (et rfl rfl) (et rfl rfl)) ?_
      refine Y wn rfl (ya (v := .int .i64 (wa .i64 x4 r13)) (et rfl rfl)) ?_
      refine wpList_nil ?_
      refine k10 _ _ ?_
      refine seqQ fun Q11 k11 z11 => ?_
      refine wp_region_lit ?_
      refine Y wn rfl (yLbs (us := [.bool r7.1, h8.v]) ST_82 (et rfl rfl) hst mhR rfl rfl) ?_
      obtain ⟨r14, gr14, hM⟩ := bs hM
      refine Yc wn rfl (yCall FN_65 (a1 (et rfl rfl))) (sparseref01_Abs_ok (hM := gr14) (hst := hst) (q1 := mhF)) ?_
      clear hst
      rintro _ w ⟨h15, rfl, hst⟩
      refine ⟨_, rfl, ?_⟩
      replace hst := hst.pk 2 [1, 0] rfl
      refine YT wn rfl (r_stbn (vals' := [.bool r14.1, h15.v]) (us := [.bool r14.1, h15.v]) hst ST_82 (et rfl rfl) (et rfl rfl) rfl rfl (one_of rfl) rfl) ?_
      clear hst
      intro w hst
      refine wpList_nil ?_
      refine k11 _ _ ?_
      refine seqQ fun Q12 k12 z12 => ?_
      refine wp_region_lit ?_
      refine Y wn rfl (yLbs (us := [.bool r14.1, h15.v]) ST_82 (et rfl rfl) hst mhR rfl rfl) ?_
      refine Y wn rfl (ym (v := .int .i64 r13) (et rfl rfl)) ?_
      obtain ⟨r16, gr16, hM⟩ := bs hM
      replace hst := hst.pk 2 [1, 0] rfl
      replace hst := hst.fz
      refine Yc wn rfl (yCall FN_102 (a2 (et rfl rfl) (et rfl rfl))) (sparseref02_down_ok (hM := gr16) (hst := hst) (q1 := mhF)) ?_
      clear hst
      rintro _ w ⟨h17, rfl, hst⟩
      refine ⟨_, rfl, ?_⟩
      replace hst := hst.pk 2 [1, 0] rfl
      refine YT wn rfl (r_stbn (vals' := [.bool r16.1, h17.v]) (us := [.bool r16.1, h17.v]) hst ST_82 (et rfl rfl) (et rfl rfl) rfl rfl (one_of rfl) rfl) ?_
      clear hst
      intro w hst
      refine wpList_nil ?_
      refine k12 _ _ ?_
      refine seqQ fun Q13 k13 z13 => ?_
      refine seqQ fun Q14 k14 z14 => ?_
      refine wp_region_lit ?_
      refine Y wn rfl (ym (v := .int .i64 (wa .i64 x4 r13)) (et rfl rfl)) ?_
      refine Y wn rfl (ylss (et rfl rfl) rfl) ?_
      refine Y wn rfl (ym (v := .bool (decide ((wa .i64 x4 r13) < (-65536)))) (et rfl rfl)) ?_
      obtain ⟨r19, gr19, hM⟩ := bs hM
      refine joinW 6 (fun f w => f 2 = .pointer (some ⟨b5, 0, none⟩) ∧ f 4 = .pointer (some ⟨b6, 0, none⟩) ∧ f 5 = .pointer (some ⟨b9, 0, none⟩) ∧ f 7 = .int .i64 (wa .i64 x4 r13) ∧ f 36 = .bool r19 ∧ St w0 (imm (rI .u32) h17.v r16.2 :: ros) (box b5 82 [.bool x1, h3.v] :: box b6 84 [.bool false, .bool false, hnil.v, .int .i64 0] :: box b9 82 [.bool r16.1, h17.v] :: rs) w) (fun j1 => ?_) ?_
      · rcases iteS gr19 with ⟨c21, gr19⟩ | ⟨c21, gr19⟩
        · refine Gn (wx rfl rfl rfl (decide_eq_true c21)) rfl ?_
          refine Gn (wx rfl rfl rfl (decide_eq_true c21)) rfl ?_
          refine Gn (wx rfl rfl rfl (decide_eq_true c21)) rfl ?_
          refine Gn (wx rfl rfl rfl (decide_eq_true c21)) rfl ?_
          refine Gn (wx rfl rfl rfl (decide_eq_true c21)) rfl ?_
          refine Y wn rfl (ypt (v := .bool true) (et rfl rfl) (decide_eq_true c21) rfl) ?_
          obtain rfl := someI gr19
          replace hst := hst.pk 2 [1, 0] rfl
          replace hst := hst.fz
          exact j1 _ _ ⟨rfl, rfl, rfl, rfl, rfl, ((hst.pk 3 [2, 1, 0] rfl).facts (allC mhF (allT (allT (allT allI)))))⟩
        · refine Y (wg rfl rfl rfl (decide_eq_false c21)) rfl (ym (v := .int .i64 (wa .i64 x4 r13)) (et rfl rfl)) ?_
          refine Y (wg rfl rfl rfl (decide_eq_false c21)) rfl (yLbs (us := [.bool r16.1, h17.v]) ST_82 (et rfl rfl) hst mhR rfl rfl) ?_
          obtain ⟨r22, gr22, gr19⟩ := bs gr19
          replace hst := hst.pk 2 [1, 0] rfl
          replace hst := hst.fz
          refine Yc (wg rfl rfl rfl (decide_eq_false c21)) rfl (yCall FN_94 (a1 (et rfl rfl))) (sparseref01_BitLen_ok (hM := gr22) (hst := hst) (q1 := mhF)) ?_
          clear hst
          rintro _ w ⟨rfl, hst⟩
          refine ⟨_, rfl, ?_⟩
          refine Y (wg rfl rfl rfl (decide_eq_false c21)) rfl (yadd (et rfl rfl) (et rfl rfl)) ?_
          refine Y (wg rfl rfl rfl (decide_eq_false c21)) rfl (ygtr (et rfl rfl) rfl) ?_
          refine Y wn rfl (ypf (v := .bool (decide ((65536 : Int) < (wa .i64 (wa .i64 x4 r13) r22)))) (et rfl rfl) (decide_eq_false c21) (et rfl rfl)) ?_
          obtain rfl := someI gr19
          exact j1 _ _ ⟨rfl, rfl, rfl, rfl, rfl, ((hst.pk 3 [2, 1, 0] rfl).facts (allC mhF (allT (allT (allT allI)))))⟩
      clear hst
      rintro f w ⟨e20_2, e20_4, e20_5, e20_7, e20_36, hst⟩
      refine wpList_nil ?_
      refine k14 _ _ ?_
      rcases iteS hM with ⟨c23, hM⟩ | ⟨c23, hM⟩
      · refine condT (et rfl e20_36) c23 ?_
        refine seqQ fun Q15 k15 z15 => ?_
        refine wp_region_lit ?_
        obtain ⟨r24, gr24, hM⟩ := bs hM
        refine Yc wn rfl (yCall FN_66 a0) (sparseref02_Bad_ok (hM := gr24) (hst := hst) ) ?_
        clear hst
        rintro _ w ⟨rfl, hst⟩
        refine ⟨_, rfl, ?_⟩
        replace hst := hst.pk 2 [1, 0] rfl
        refine YT wn rfl (r_stbn (vals' := [.bool r24.1, .bool r24.2.1, hnil.v, .int .i64 r24.2.2]) (us := [.bool r24.1, .bool r24.2.1, hnil.v, .int .i64 r24.2.2]) hst ST_84 (et rfl e20_4) (et rfl rfl) rfl rfl (one_of rfl) rfl) ?_
        clear hst
        intro w hst
        refine wpList_nil ?_
        refine k15 _ _ ?_
        refine wp_ret ?_
        refine z13 _ _ _ rfl ?_
        obtain rfl := someI hM
        replace hst := hst.immNh (rI .u32)
        exact hQ _ _ _ (fin1r Tryz.results67 (rcs2 rfl e20_4 hst mhR ST_84 rfl) ⟨_, rfl, ((hst.pk 3 [] rfl).facts (allC mhF (allT (allT allI))))⟩)
      · refine condF (et rfl e20_36) (bfalse c23) ?_
        refine wp_skip ?_
        refine k13 _ _ ?_
        refine seqQ fun Q16 k16 z16 => ?_
        refine wp_region_lit ?_
        refine Y wn rfl (yFb FL_82_0 (et rfl e20_2)) ?_
        refine Y wn rfl (yLb (u := .bool x1) O_4 (et rfl rfl) hst mhR rfl) ?_
        refine Y wn rfl (yFb FL_82_0 (et rfl e20_5)) ?_
        replace hst := hst.pk 3 [2, 0, 0] rfl
        refine YT wn rfl (r_stb1 (vals' := [.bool x1, h17.v]) hst O_4 (et rfl rfl) (et rfl rfl) rfl rfl rfl rfl) ?_
        clear hst
        intro w hst
        refine wpList_nil ?_
        refine k16 _ _ ?_
        refine seqQ fun Q17 k17 z17 => ?_
        refine wp_region_lit ?_
        refine Y wn rfl (yLbs (us := [.bool x1, h17.v]) ST_82 (et rfl e20_5) hst mhR rfl rfl) ?_
        refine Y wn rfl (ym (v := .int .i64 (wa .i64 x4 r13)) (et rfl e20_7)) ?_
        refine Y wn rfl (ybuild (us := [.bool false, .bool x1, h17.v, .int .i64 (wa .i64 x4 r13)]) [(1, .agg #[.bool x1, h17.v]), (2, .int .i64 (wa .i64 x4 r13))] SO_84 (bp2 (et rfl rfl) (et rfl rfl)) rfl) ?_
        replace hst := hst.pk 3 [2, 0, 0] rfl
        refine YT wn rfl (r_stbn (vals' := [.bool false, .bool x1, h17.v, .int .i64 (wa .i64 x4 r13)]) (us := [.bool false, .bool x1, h17.v, .int .i64 (wa .i64 x4 r13)]) hst ST_84 (et rfl e20_4) (et rfl rfl) rfl rfl (one_of rfl) rfl) ?_
        clear hst
        intro w hst
        refine wpList_nil ?_
        refine k17 _ _ ?_
        refine wp_ret ?_
        obtain rfl := someI hM
        exact hQ _ _ _ (fin1r Tryz.results67 (rcs2 rfl e20_4 hst mhR ST_84 rfl) ⟨_, rfl, (hst.pk 3 [] rfl)⟩)

theorem sparseref02_FromInt_ok {w0 : World} {ros : List Fact} {rs : List Res} {w : World} {x1 : Int} {out : Bool × Bool × (List Int) × Int} (hM : sparseref02_FromInt x1 = some out) (q1 : globF ∈ ros) (hst : St w0 ros (rs) w) :
    Calls Tryz.prog 47 #[.int .i64 x1] w (fun e w => ∃ (h100003 : Hdr), e = .returned (.agg #[.bool out.1, .bool out.2.1, h100003.v, .int .i64 out.2.2.2]) ∧ St w0 (imm (rI .u32) h100003.v out.2.2.1 :: ros) (rs) w) := by
  refine enterQ Tryz.func47 rfl Tryz.ntmps47 rfl fun Q hQ => ?_
  refine seqQ fun Q1 k1 z1 => ?_
  refine wp_region_lit ?_
  refine YB wn rfl (rAl hst ZT_84) ?_
  clear hst
  intro b2 w hst
  refine wpList_nil ?_
  refine k1 _ _ ?_
  refine seqQ fun Q2 k2 z2 => ?_
  refine wp_region_lit ?_
  refine Y wn rfl (ym (v := .int .i64 x1) (et rfl rfl)) ?_
  obtain ⟨r3, gr3, hM⟩ := bs hM
  refine Yc wn rfl (yCall FN_68 (a1 (et rfl rfl))) (sparseref01_FromInt_ok (hM := gr3) (hst := hst) ) ?_
  clear hst
  rintro _ w ⟨h4, rfl, hst⟩
  refine ⟨_, rfl, ?_⟩
  obtain ⟨r5, gr5, hM⟩ := bs hM
  replace hst := hst.fz
  refine Yc wn rfl (yCall FN_67 (a2 (et rfl rfl) rfl)) (sparseref02_Make_ok (hM := gr5) (hst := hst) (q1 := mhF) (q2 := (mtF q1))) ?_
  clear hst
  rintro _ w ⟨h6, rfl, hst⟩
  refine ⟨_, rfl, ?_⟩
  refine YT wn rfl (r_stbn (vals' := [.bool r5.1, .bool r5.2.1, h6.v, .int .i64 r5.2.2.2]) (us := [.bool r5.1, .bool r5.2.1, h6.v, .int .i64 r5.2.2.2]) hst ST_84 (et rfl rfl) (et rfl rfl) rfl rfl (one_of rfl) rfl) ?_
  clear hst
  intro w hst
  refine wpList_nil ?_
  refine k2 _ _ ?_
  refine wp_ret ?_
  obtain rfl := someI hM
  exact hQ _ _ _ (fin1r Tryz.results47 (rcs2 rfl rfl hst mhR ST_84 rfl) ⟨_, rfl, ((hst.pk 1 [] rfl).facts (allC mhF (allT (allT allI))))⟩)

theorem sparseref02_Norm_ok {w0 : World} {ros : List Fact} {rs : List Res} {w : World} {x1 : Bool} {x2 : Bool} {x3 : List Int} {x5 : Int} {h4 : Hdr} {out : Bool × Bool × (List Int) × Int} (hM : sparseref02_Norm x1 x2 x3 x5 = some out) (q1 : imm (rI .u32) h4.v x3 ∈ ros) (q2 : globF ∈ ros) (hst : St w0 ros (rs) w) :
    Calls Tryz.prog 62 #[.agg #[.bool x1, .bool x2, h4.v, .int .i64 x5]] w (fun e w => ∃ (h100003 : Hdr), e = .returned (.agg #[.bool out.1, .bool out.2.1, h100003.v, .int .i64 out.2.2.2]) ∧ St w0 (imm (rI .u32) h100003.v out.2.2.1 :: ros) (rs) w) := by
  refine enterQ Tryz.func62 rfl Tryz.ntmps62 rfl fun Q hQ => ?_
  refine seqQ fun Q1 k1 z1 => ?_
  refine wp_region_lit ?_
  refine YB wn rfl (r_box (vals := [.bool x1, .bool x2, h4.v, .int .i64 x5]) hst (et rfl rfl) rfl) ?_
  clear hst
  intro b6 w hst
  refine YB wn rfl (rAl hst ZT_84) ?_
  clear hst
  intro b7 w hst
  refine wpList_nil ?_
  refine k1 _ _ ?_
  refine seqQ fun Q2 k2 z2 => ?_
  refine seqQ fun Q3 k3 z3 => ?_
  refine wp_region_lit ?_
  refine Y wn rfl (yFb FL_84_0 (et rfl rfl)) ?_
  refine Y wn rfl (yLb (u := .bool x1) O_4 (et rfl rfl) hst (mtR mhR) rfl) ?_
  refine wpList_nil ?_
  refine k3 _ _ ?_
  rcases iteS hM with ⟨c8, hM⟩ | ⟨c8, hM⟩
  · refine condT (et rfl rfl) c8 ?_
    refine seqQ fun Q4 k4 z4 => ?_
    refine wp_region_lit ?_
    obtain ⟨r9, gr9, hM⟩ := bs hM
    refine Yc wn rfl (yCall FN_66 a0) (sparseref02_Bad_ok (hM := gr9) (hst := hst) ) ?_
    clear hst
    rintro _ w ⟨rfl, hst⟩
    refine ⟨_, rfl, ?_⟩
    refine YT wn rfl (r_stbn (vals' := [.bool r9.1, .bool r9.2.1, hnil.v, .int .i64 r9.2.2]) (us := [.bool r9.1, .bool r9.2.1, hnil.v, .int .i64 r9.2.2]) hst ST_84 (et rfl rfl) (et rfl rfl) rfl rfl (one_of rfl) rfl) ?_
    clear hst
    intro w hst
    refine wpList_nil ?_
    refine k4 _ _ ?_
    refine wp_ret ?_
    refine z2 _ _ _ rfl ?_
    obtain rfl := someI hM
    replace hst := hst.immNh (rI .u32)
    exact hQ _ _ _ (fin1r Tryz.results62 (rcs2 rfl rfl hst mhR ST_84 rfl) ⟨_, rfl, (hst.pk 2 [] rfl)⟩)
  · refine condF (et rfl rfl) (bfalse c8) ?_
    refine wp_skip ?_
    refine k2 _ _ ?_
    refine seqQ fun Q5 k5 z5 => ?_
    refine wp_region_lit ?_
    refine Y wn rfl (yFb FL_84_1 (et rfl rfl)) ?_
    refine Y wn rfl (yLbs (us := [.bool x2, h4.v]) ST_82 (et rfl rfl) hst (mtR mhR) rfl rfl) ?_
    refine Y wn rfl (yFb FL_84_2 (et rfl rfl)) ?_
    refine Y wn rfl (yLb (u := .int .i64 x5) O_3 (et rfl rfl) hst (mtR mhR) rfl) ?_
    obtain ⟨r10, gr10, hM⟩ := bs hM
    refine Yc wn rfl (yCall FN_67 (a2 (et rfl rfl) (et rfl rfl))) (sparseref02_Make_ok (hM := gr10) (hst := hst) (q1 := q1) (q2 := q2)) ?_
    clear hst
    rintro _ w ⟨h11, rfl, hst⟩
    refine ⟨_, rfl, ?_⟩
    refine YT wn rfl (r_stbn (vals' := [.bool r10.1, .bool r10.2.1, h11.v, .int .i64 r10.2.2.2]) (us := [.bool r10.1, .bool r10.2.1, h11.v, .int .i64 r10.2.2.2]) hst ST_84 (et rfl rfl) (et rfl rfl) rfl rfl (one_of rfl) rfl) ?_
    clear hst
    intro w hst
    refine wpList_nil ?_
    refine k5 _ _ ?_
    refine wp_ret ?_
    obtain rfl := someI hM
    exact hQ _ _ _ (fin1r Tryz.results62 (rcs2 rfl rfl hst mhR ST_84 rfl) ⟨_, rfl, (hst.pk 2 [] rfl)⟩)

theorem sparseref01_Sign_ok {w0 : World} {ros : List Fact} {rs : List Res} {w : World} {x1 : Bool} {x2 : List Int} {h3 : Hdr} {out : Int} (hM : sparseref01_Sign x1 x2 = some out) (q1 : imm (rI .u32) h3.v x2 ∈ ros) (hst : St w0 ros (rs) w) :
    Calls Tryz.prog 63 #[.agg #[.bool x1, h3.v]] w (fun e w => e = .returned (.int .i64 out) ∧ St w0 (ros) (rs) w) := by
  refine enterQ Tryz.func63 rfl Tryz.ntmps63 rfl fun Q hQ => ?_
  refine seqQ fun Q1 k1 z1 => ?_
  refine wp_region_lit ?_
  refine YB wn rfl (r_box (vals := [.bool x1, h3.v]) hst (et rfl rfl) rfl) ?_
  clear hst
  intro b4 w hst
  refine Y wn rfl (ya (v := .int .i64 0) rfl) ?_
  refine wpList_nil ?_
  refine k1 _ _ ?_
  refine seqQ fun Q2 k2 z2 => ?_
  refine wp_region_lit ?_
  refine Y wn rfl (yLbs (us := [.bool x1, h3.v]) ST_82 (et rfl rfl) hst mhR rfl rfl) ?_
  obtain ⟨r5, gr5, hM⟩ := bs hM
  refine Yc wn rfl (yCall FN_93 (a1 (et rfl rfl))) (sparseref01_Norm_ok (hM := gr5) (hst := hst) (q1 := q1)) ?_
  clear hst
  rintro _ w ⟨h6, rfl, hst⟩
  refine ⟨_, rfl, ?_⟩
  replace hst := hst.pk 2 [1, 0] rfl
  refine YT wn rfl (r_stbn (vals' := [.bool r5.1, h6.v]) (us := [.bool r5.1, h6.v]) hst ST_82 (et rfl rfl) (et rfl rfl) rfl rfl (one_of rfl) rfl) ?_
  clear hst
  intro w hst
  refine wpList_nil ?_
  refine k2 _ _ ?_
  refine seqQ fun Q3 k3 z3 => ?_
  refine blockQ fun Q4 qb4 => ?_
  refine seqQ fun Q5 k5 z5 => ?_
  refine wp_region_lit ?_
  refine Y wn rfl (yFb FL_82_1 (et rfl rfl)) ?_
  refine Y wn rfl (yLb (u := h6.v) O_80 (et rfl rfl) hst mhR rfl) ?_
  refine Y wn rfl (yLen SL_80 (et rfl rfl) hst (rdO (mtR mhR))) ?_
  refine Y wn rfl (yeql (et rfl rfl) rfl) ?_
  refine Y wn rfl (ya (v := .bool (decide ((r5.2.length : Int) = 0))) (et rfl rfl)) ?_
  refine wpList_nil ?_
  refine k5 _ _ ?_
  rcases iteS hM with ⟨c7, hM⟩ | ⟨c7, hM⟩
  · refine condT (et rfl rfl) (decide_eq_true c7) ?_
    refine seqQ fun Q6 k6 z6 => ?_
    refine wp_region_lit ?_
    refine Y wn rfl (ya (v := .int .i64 0) rfl) ?_
    refine wpList_nil ?_
    refine k6 _ _ ?_
    refine wp_ret ?_
    refine qb4 _ _ _ ?_
    refine z3 _ _ _ rfl ?_
    obtain rfl := someI hM
    exact hQ _ _ _ (fin1r Tryz.results63 ⟨rfl, rfl⟩ ⟨rfl, (hst.pk 2 [] rfl)⟩)
  · refine condF (et rfl rfl) (decide_eq_false c7) ?_
    refine seqQ fun Q7 k7 z7 => ?_
    refine wp_region_lit ?_
    refine Y wn rfl (yFb FL_82_0 (et rfl rfl)) ?_
    refine Y wn rfl (yLb (u := .bool r5.1) O_4 (et rfl rfl) hst mhR rfl) ?_
    refine Y wn rfl (ya (v := .bool r5.1) (et rfl rfl)) ?_
    refine wpList_nil ?_
    refine k7 _ _ ?_
    rcases iteS hM with ⟨c8, hM⟩ | ⟨c8, hM⟩
    · refine condT (et rfl rfl) c8 ?_
      refine seqQ fun Q8 k8 z8 => ?_
      refine wp_region_lit ?_
      refine Y wn rfl (ya (v := .int .i64 (-1)) rfl) ?_
      refine wpList_nil ?_
      refine k8 _ _ ?_
      refine wp_ret ?_
      refine qb4 _ _ _ ?_
      refine z3 _ _ _ rfl ?_
      obtain rfl := someI hM
      exact hQ _ _ _ (fin1r Tryz.results63 ⟨rfl, rfl⟩ ⟨rfl, (hst.pk 2 [] rfl)⟩)
    · refine condF (et rfl rfl) (bfalse c8) ?_
      refine wp_skip ?_
      refine qb4 _ _ _ ?_
      refine k3 _ _ ?_
      refine seqQ fun Q9 k9 z9 => ?_
      refine wp_region_lit ?_
      refine Y wn rfl (ya (v := .int .i64 1) rfl) ?_
      refine wpList_nil ?_
      refine k9 _ _ ?_
      refine wp_ret ?_
      obtain rfl := someI hM
      exact hQ _ _ _ (fin1r Tryz.results63 ⟨rfl, rfl⟩ ⟨rfl, (hst.pk 2 [] rfl)⟩)

theorem sparseref02_Scale_ok {w0 : World} {ros : List Fact} {rs : List Res} {w : World} {x1 : Bool} {x2 : Bool} {x3 : List Int} {x5 : Int} {x6 : Int} {h4 : Hdr} {out : Bool × Bool × (List Int) × Int} (hM : sparseref02_Scale x1 x2 x3 x5 x6 = some out) (q1 : imm (rI .u32) h4.v x3 ∈ ros) (q2 : globF ∈ ros) (hst : St w0 ros (rs) w) :
    Calls Tryz.prog 46 #[.agg #[.bool x1, .bool x2, h4.v, .int .i64 x5], .int .i64 x6] w (fun e w => ∃ (h100003 : Hdr), e = .returned (.agg #[.bool out.1, .bool out.2.1, h100003.v, .int .i64 out.2.2.2]) ∧ St w0 (imm (rI .u32) h100003.v out.2.2.1 :: ros) (rs) w) := by
  refine enterQ Tryz.func46 rfl Tryz.ntmps46 rfl fun Q hQ => ?_
  refine seqQ fun Q1 k1 z1 => ?_
  refine wp_region_lit ?_
  refine YB wn rfl (r_box (vals := [.bool x1, .bool x2, h4.v, .int .i64 x5]) hst (et rfl rfl) rfl) ?_
  clear hst
  intro b7 w hst
  refine YB wn rfl (rAl hst ZT_84) ?_
  clear hst
  intro b8 w hst
  refine wpList_nil ?_
  refine k1 _ _ ?_
  refine seqQ fun Q2 k2 z2 => ?_
  refine wp_region_lit ?_
  refine Y wn rfl (yLbs (us := [.bool x1, .bool x2, h4.v, .int .i64 x5]) ST_84 (et rfl rfl) hst (mtR mhR) rfl rfl) ?_
  obtain ⟨r9, gr9, hM⟩ := bs hM
  refine Yc wn rfl (yCall FN_62 (a1 (et rfl rfl))) (sparseref02_Norm_ok (hM := gr9) (hst := hst) (q1 := q1) (q2 := q2)) ?_
  clear hst
  rintro _ w ⟨h10, rfl, hst⟩
  refine ⟨_, rfl, ?_⟩
  replace hst := hst.pk 2 [1, 0] rfl
  refine YT wn rfl (r_stbn (vals' := [.bool r9.1, .bool r9.2.1, h10.v, .int .i64 r9.2.2.2]) (us := [.bool r9.1, .bool r9.2.1, h10.v, .int .i64 r9.2.2.2]) hst ST_84 (et rfl rfl) (et rfl rfl) rfl rfl (one_of rfl) rfl) ?_
  clear hst
  intro w hst
  refine wpList_nil ?_
  refine k2 _ _ ?_
  refine seqQ fun Q3 k3 z3 => ?_
  refine seqQ fun Q4 k4 z4 => ?_
  refine wp_region_lit ?_
  refine Y wn rfl (yFb FL_84_0 (et rfl rfl)) ?_
  refine Y wn rfl (yLb (u := .bool r9.1) O_4 (et rfl rfl) hst mhR rfl) ?_
  refine Y wn rfl (ym (v := .bool r9.1) (et rfl rfl)) ?_
  obtain ⟨r12, gr12, hM⟩ := bs hM
  refine joinW 5 (fun f w => f 1 = .int .i64 x6 ∧ f 2 = .pointer (some ⟨b7, 0, none⟩) ∧ f 4 = .pointer (some ⟨b8, 0, none⟩) ∧ f 14 = .bool r12 ∧ St w0 (imm (rI .u32) h10.v r9.2.2.1 :: ros) (box b7 84 [.bool r9.1, .bool r9.2.1, h10.v, .int .i64 r9.2.2.2] :: box b8 84 [.bool false, .bool false, hnil.v, .int .i64 0] :: rs) w) (fun j1 => ?_) ?_
  · rcases iteS gr12 with ⟨c14, gr12⟩ | ⟨c14, gr12⟩
    · refine Gn (wx rfl rfl rfl c14) rfl ?_
      refine Gn (wx rfl rfl rfl c14) rfl ?_
      refine Gn (wx rfl rfl rfl c14) rfl ?_
      refine Gn (wx rfl rfl rfl c14) rfl ?_
      refine Y wn rfl (ypt (v := .bool true) (et rfl rfl) c14 rfl) ?_
      obtain rfl := someI gr12
      exact j1 _ _ ⟨rfl, rfl, rfl, rfl, hst⟩
    · refine Y (wg rfl rfl rfl (bfalse c14)) rfl (yFb FL_84_1 (et rfl rfl)) ?_
      refine Y (wg rfl rfl rfl (bfalse c14)) rfl (yLbs (us := [.bool r9.2.1, h10.v]) ST_82 (et rfl rfl) hst mhR rfl rfl) ?_
      obtain ⟨r15, gr15, gr12⟩ := bs gr12
      refine Yc (wg rfl rfl rfl (bfalse c14)) rfl (yCall FN_63 (a1 (et rfl rfl))) (sparseref01_Sign_ok (hM := gr15) (hst := hst) (q1 := mhF)) ?_
      clear hst
      rintro _ w ⟨rfl, hst⟩
      refine ⟨_, rfl, ?_⟩
      refine Y (wg rfl rfl rfl (bfalse c14)) rfl (yeql (et rfl rfl) rfl) ?_
      refine Y wn rfl (ypf (v := .bool (decide (r15 = 0))) (et rfl rfl) (bfalse c14) (et rfl rfl)) ?_
      obtain rfl := someI gr12
      exact j1 _ _ ⟨rfl, rfl, rfl, rfl, hst⟩
  clear hst
  rintro f w ⟨e13_1, e13_2, e13_4, e13_14, hst⟩
  refine wpList_nil ?_
  refine k4 _ _ ?_
  rcases iteS hM with ⟨c16, hM⟩ | ⟨c16, hM⟩
  · refine condT (et rfl e13_14) c16 ?_
    refine seqQ fun Q5 k5 z5 => ?_
    refine wp_region_lit ?_
    refine Y wn rfl (yLbs (us := [.bool r9.1, .bool r9.2.1, h10.v, .int .i64 r9.2.2.2]) ST_84 (et rfl e13_2) hst mhR rfl rfl) ?_
    replace hst := hst.pk 2 [1, 0] rfl
    refine YT wn rfl (r_stbn (vals' := [.bool r9.1, .bool r9.2.1, h10.v, .int .i64 r9.2.2.2]) (us := [.bool r9.1, .bool r9.2.1, h10.v, .int .i64 r9.2.2.2]) hst ST_84 (et rfl e13_4) (et rfl rfl) rfl rfl (one_of rfl) rfl) ?_
    clear hst
    intro w hst
    refine wpList_nil ?_
    refine k5 _ _ ?_
    refine wp_ret ?_
    refine z3 _ _ _ rfl ?_
    obtain rfl := someI hM
    exact hQ _ _ _ (fin1r Tryz.results46 (rcs2 rfl e13_4 hst mhR ST_84 rfl) ⟨_, rfl, (hst.pk 2 [] rfl)⟩)
  · refine condF (et rfl e13_14) (bfalse c16) ?_
    refine wp_skip ?_
    refine k3 _ _ ?_
    refine seqQ fun Q6 k6 z6 => ?_
    refine seqQ fun Q7 k7 z7 => ?_
    refine wp_region_lit ?_
    refine Y wn rfl (ym (v := .int .i64 x6) (et rfl e13_1)) ?_
    refine Y wn rfl (ygtr (et rfl rfl) rfl) ?_
    refine Y wn rfl (ym (v := .bool (decide ((262144 : Int) < x6))) (et rfl rfl)) ?_
    refine joinW 3 (fun f w => f 1 = .int .i64 x6 ∧ f 2 = .pointer (some ⟨b7, 0, none⟩) ∧ f 4 = .pointer (some ⟨b8, 0, none⟩) ∧ f 21 = .bool ((decide ((262144 : Int) < x6)) || (decide (x6 < (-262144)))) ∧ St w0 (imm (rI .u32) h10.v r9.2.2.1 :: ros) (box b7 84 [.bool r9.1, .bool r9.2.1, h10.v, .int .i64 r9.2.2.2] :: box b8 84 [.bool false, .bool false, hnil.v, .int .i64 0] :: rs) w) (fun j2 => ?_) ?_
    · rcases Bool.eq_false_or_eq_true (decide ((262144 : Int) < x6)) with c18 | c18
      · refine Gn (wx rfl rfl rfl c18) rfl ?_
        refine Gn (wx rfl rfl rfl c18) rfl ?_
        refine Y wn rfl (ypt (v := .bool true) (et rfl rfl) c18 rfl) ?_
        exact j2 _ _ ⟨e13_1, e13_2, e13_4, (congrArg Value.bool (orT c18)), hst⟩
      · refine Y (wg rfl rfl rfl c18) rfl (ym (v := .int .i64 x6) (et rfl e13_1)) ?_
        refine Y (wg rfl rfl rfl c18) rfl (ylss (et rfl rfl) rfl) ?_
        refine Y wn rfl (ypf (v := .bool (decide (x6 < (-262144)))) (et rfl rfl) c18 (et rfl rfl)) ?_
        exact j2 _ _ ⟨e13_1, e13_2, e13_4, (congrArg Value.bool (orF c18)), hst⟩
    clear hst
    rintro f w ⟨e17_1, e17_2, e17_4, e17_21, hst⟩
    refine wpList_nil ?_
    refine k7 _ _ ?_
    rcases iteS hM with ⟨c19, hM⟩ | ⟨c19, hM⟩
    · refine condT (et rfl e17_21) c19 ?_
      refine seqQ fun Q8 k8 z8 => ?_
      refine wp_region_lit ?_
      obtain ⟨r20, gr20, hM⟩ := bs hM
      refine Yc wn rfl (yCall FN_66 a0) (sparseref02_Bad_ok (hM := gr20) (hst := hst) ) ?_
      clear hst
      rintro _ w ⟨rfl, hst⟩
      refine ⟨_, rfl, ?_⟩
      replace hst := hst.pk 2 [1, 0] rfl
      refine YT wn rfl (r_stbn (vals' := [.bool r20.1, .bool r20.2.1, hnil.v, .int .i64 r20.2.2]) (us := [.bool r20.1, .bool r20.2.1, hnil.v, .int .i64 r20.2.2]) hst ST_84 (et rfl e17_4) (et rfl rfl) rfl rfl (one_of rfl) rfl) ?_
      clear hst
      intro w hst
      refine wpList_nil ?_
      refine k8 _ _ ?_
      refine wp_ret ?_
      refine z6 _ _ _ rfl ?_
      obtain rfl := someI hM
      replace hst := hst.immNh (rI .u32)
      exact hQ _ _ _ (fin1r Tryz.results46 (rcs2 rfl e17_4 hst mhR ST_84 rfl) ⟨_, rfl, ((hst.pk 2 [] rfl).facts (allC mhF (allT (allT allI))))⟩)
    · refine condF (et rfl e17_21) (bfalse c19) ?_
      refine wp_skip ?_
      refine k6 _ _ ?_
      refine seqQ fun Q9 k9 z9 => ?_
      refine wp_region_lit ?_
      refine Y wn rfl (yFb FL_84_1 (et rfl e17_2)) ?_
      refine Y wn rfl (yLbs (us := [.bool r9.2.1, h10.v]) ST_82 (et rfl rfl) hst mhR rfl rfl) ?_
      refine Y wn rfl (yFb FL_84_2 (et rfl e17_2)) ?_
      refine Y wn rfl (yLb (u := .int .i64 r9.2.2.2) O_3 (et rfl rfl) hst mhR rfl) ?_
      refine Y wn rfl (ym (v := .int .i64 x6) (et rfl e17_1)) ?_
      refine Y wn rfl (yadd (et rfl rfl) (et rfl rfl)) ?_
      obtain ⟨r21, gr21, hM⟩ := bs hM
      refine Yc wn rfl (yCall FN_67 (a2 (et rfl rfl) (et rfl rfl))) (sparseref02_Make_ok (hM := gr21) (hst := hst) (q1 := mhF) (q2 := (mtF q2))) ?_
      clear hst
      rintro _ w ⟨h22, rfl, hst⟩
      refine ⟨_, rfl, ?_⟩
      replace hst := hst.pk 2 [1, 0] rfl
      refine YT wn rfl (r_stbn (vals' := [.bool r21.1, .bool r21.2.1, h22.v, .int .i64 r21.2.2.2]) (us := [.bool r21.1, .bool r21.2.1, h22.v, .int .i64 r21.2.2.2]) hst ST_84 (et rfl e17_4) (et rfl rfl) rfl rfl (one_of rfl) rfl) ?_
      clear hst
      intro w hst
      refine wpList_nil ?_
      refine k9 _ _ ?_
      refine wp_ret ?_
      obtain rfl := someI hM
      exact hQ _ _ _ (fin1r Tryz.results46 (rcs2 rfl e17_4 hst mhR ST_84 rfl) ⟨_, rfl, ((hst.pk 2 [] rfl).facts (allC mhF (allT (allT allI))))⟩)

theorem sparseref03_signed_ok {w0 : World} {ros : List Fact} {rs : List Res} {w : World} {x1 : Bool} {x2 : Int} {out : Int} (hM : sparseref03_signed x1 x2 = some out) (hst : St w0 ros (rs) w) :
    Calls Tryz.prog 99 #[.bool x1, .int .u64 x2] w (fun e w => e = .returned (.int .u64 out) ∧ St w0 (ros) (rs) w) := by
  refine enterQ Tryz.func99 rfl Tryz.ntmps99 rfl fun Q hQ => ?_
  refine seqQ fun Q1 k1 z1 => ?_
  refine wp_region_lit ?_
  refine Y wn rfl (ya (v := .int .u64 0) rfl) ?_
  refine wpList_nil ?_
  refine k1 _ _ ?_
  refine seqQ fun Q2 k2 z2 => ?_
  refine seqQ fun Q3 k3 z3 => ?_
  refine wp_region_lit ?_
  refine Y wn rfl (ym (v := .bool x1) (et rfl rfl)) ?_
  refine wpList_nil ?_
  refine k3 _ _ ?_
  rcases iteS hM with ⟨c3, hM⟩ | ⟨c3, hM⟩
  · refine condT (et rfl rfl) c3 ?_
    refine seqQ fun Q4 k4 z4 => ?_
    refine wp_region_lit ?_
    refine Y wn rfl (ym (v := .int .u64 x2) (et rfl rfl)) ?_
    refine Y wn rfl (yor (et rfl rfl) rfl) ?_
    refine Y wn rfl (ya (v := .int .u64 (wor .u64 x2 9223372036854775808)) (et rfl rfl)) ?_
    refine wpList_nil ?_
    refine k4 _ _ ?_
    refine wp_ret ?_
    refine z2 _ _ _ rfl ?_
    obtain rfl := someI hM
    exact hQ _ _ _ (fin1r Tryz.results99 ⟨rfl, rfl⟩ ⟨rfl, hst⟩)
  · refine condF (et rfl rfl) (bfalse c3) ?_
    refine wp_skip ?_
    refine k2 _ _ ?_
    refine seqQ fun Q5 k5 z5 => ?_
    refine wp_region_lit ?_
    refine Y wn rfl (ym (v := .int .u64 x2) (et rfl rfl)) ?_
    refine Y wn rfl (ya (v := .int .u64 x2) (et rfl rfl)) ?_
    refine wpList_nil ?_
    refine k5 _ _ ?_
    refine wp_ret ?_
    obtain rfl := someI hM
    exact hQ _ _ _ (fin1r Tryz.results99 ⟨rfl, rfl⟩ ⟨rfl, hst⟩)

theorem sparseref03_over_ok {w0 : World} {ros : List Fact} {rs : List Res} {w : World} {x1 : Bool} {x2 : Int} {out : Int} (hM : sparseref03_over x1 x2 = some out) (hst : St w0 ros (rs) w) :
    Calls Tryz.prog 95 #[.bool x1, .int .i64 x2] w (fun e w => e = .returned (.int .u64 out) ∧ St w0 (ros) (rs) w) := by
  refine enterQ Tryz.func95 rfl Tryz.ntmps95 rfl fun Q hQ => ?_
  refine seqQ fun Q1 k1 z1 => ?_
  refine wp_region_lit ?_
  refine Y wn rfl (ya (v := .int .u64 0) rfl) ?_
  refine wpList_nil ?_
  refine k1 _ _ ?_
  refine seqQ fun Q2 k2 z2 => ?_
  refine seqQ fun Q3 k3 z3 => ?_
  refine wp_region_lit ?_
  refine Y wn rfl (ym (v := .int .i64 x2) (et rfl rfl)) ?_
  refine Y wn rfl (yeql (et rfl rfl) rfl) ?_
  refine Y wn rfl (ym (v := .bool (decide (x2 = 3))) (et rfl rfl)) ?_
  refine joinW 7 (fun f w => f 0 = .bool x1 ∧ f 1 = .int .i64 x2 ∧ f 14 = .bool ((decide (x2 = 3)) || ((decide (x2 = 1)) && (!(x1)))) ∧ St w0 (ros) (rs) w) (fun j2 => ?_) ?_
  · rcases Bool.eq_false_or_eq_true (decide (x2 = 3)) with c6 | c6
    · refine Gn (wx rfl rfl rfl c6) rfl ?_
      refine Gn (wx rfl rfl rfl c6) rfl ?_
      refine Gn (wx rfl rfl rfl c6) rfl ?_
      refine Gn (wxu rfl rfl rfl) rfl ?_
      refine Gn (wxu rfl rfl rfl) rfl ?_
      refine Gn (wx rfl rfl rfl c6) rfl ?_
      refine Y wn rfl (ypt (v := .bool true) (et rfl rfl) c6 rfl) ?_
      exact j2 _ _ ⟨rfl, rfl, (congrArg Value.bool (orT c6)), hst⟩
    · refine Y (wg rfl rfl rfl c6) rfl (ym (v := .int .i64 x2) (et rfl rfl)) ?_
      refine Y (wg rfl rfl rfl c6) rfl (yeql (et rfl rfl) rfl) ?_
      refine Y (wg rfl rfl rfl c6) rfl (ym (v := .bool (decide (x2 = 1))) (et rfl rfl)) ?_
      refine joinW 3 (fun f w => f 0 = .bool x1 ∧ f 1 = .int .i64 x2 ∧ f 7 = .bool (decide (x2 = 3)) ∧ f 13 = .bool ((decide (x2 = 1)) && (!(x1))) ∧ St w0 (ros) (rs) w) (fun j3 => ?_) ?_
      · rcases Bool.eq_false_or_eq_true (decide (x2 = 1)) with c8 | c8
        · refine Y (wg rfl rfl rfl c8) rfl (ym (v := .bool x1) (et rfl rfl)) ?_
          refine Y (wg rfl rfl rfl c8) rfl (ynot (et rfl rfl)) ?_
          refine Y (wg rfl rfl rfl c6) rfl (ypt (v := .bool (!(x1))) (et rfl rfl) c8 (et rfl rfl)) ?_
          exact j3 _ _ ⟨rfl, rfl, rfl, (congrArg Value.bool (andT c8)), hst⟩
        · refine Gn (wx rfl rfl rfl c8) rfl ?_
          refine Gn (wx rfl rfl rfl c8) rfl ?_
          refine Y (wg rfl rfl rfl c6) rfl (ypf (v := .bool false) (et rfl rfl) c8 rfl) ?_
          exact j3 _ _ ⟨rfl, rfl, rfl, (congrArg Value.bool (andF c8)), hst⟩
      clear hst
      rintro f w ⟨e7_0, e7_1, e7_7, e7_13, hst⟩
      refine Y wn rfl (ypf (v := .bool ((decide (x2 = 1)) && (!(x1)))) (et rfl e7_7) c6 (et rfl e7_13)) ?_
      exact j2 _ _ ⟨e7_0, e7_1, (congrArg Value.bool (orF c6)), hst⟩
  clear hst
  rintro f w ⟨e5_0, e5_1, e5_14, hst⟩
  refine Y wn rfl (ym (v := .bool ((decide (x2 = 3)) || ((decide (x2 = 1)) && (!(x1))))) (et rfl e5_14)) ?_
  refine joinW 6 (fun f w => f 0 = .bool x1 ∧ f 21 = .bool (((decide (x2 = 3)) || ((decide (x2 = 1)) && (!(x1)))) || ((decide (x2 = 2)) && x1)) ∧ St w0 (ros) (rs) w) (fun j5 => ?_) ?_
  · rcases Bool.eq_false_or_eq_true (((decide (x2 = 3)) || ((decide (x2 = 1)) && (!(x1))))) with c12 | c12
    · refine Gn (wx rfl rfl rfl c12) rfl ?_
      refine Gn (wx rfl rfl rfl c12) rfl ?_
      refine Gn (wx rfl rfl rfl c12) rfl ?_
      refine Gn (wxu rfl rfl rfl) rfl ?_
      refine Gn (wx rfl rfl rfl c12) rfl ?_
      refine Y wn rfl (ypt (v := .bool true) (et rfl rfl) c12 rfl) ?_
      exact j5 _ _ ⟨e5_0, (congrArg Value.bool (orT c12)), hst⟩
    · refine Y (wg rfl rfl rfl c12) rfl (ym (v := .int .i64 x2) (et rfl e5_1)) ?_
      refine Y (wg rfl rfl rfl c12) rfl (yeql (et rfl rfl) rfl) ?_
      refine Y (wg rfl rfl rfl c12) rfl (ym (v := .bool (decide (x2 = 2))) (et rfl rfl)) ?_
      refine joinW 2 (fun f w => f 0 = .bool x1 ∧ f 15 = .bool ((decide (x2 = 3)) || ((decide (x2 = 1)) && (!(x1)))) ∧ f 20 = .bool ((decide (x2 = 2)) && x1) ∧ St w0 (ros) (rs) w) (fun j6 => ?_) ?_
      · rcases Bool.eq_false_or_eq_true (decide (x2 = 2)) with c14 | c14
        · refine Y (wg rfl rfl rfl c14) rfl (ym (v := .bool x1) (et rfl e5_0)) ?_
          refine Y (wg rfl rfl rfl c12) rfl (ypt (v := .bool x1) (et rfl rfl) c14 (et rfl rfl)) ?_
          exact j6 _ _ ⟨e5_0, rfl, (congrArg Value.bool (andT c14)), hst⟩
        · refine Gn (wx rfl rfl rfl c14) rfl ?_
          refine Y (wg rfl rfl rfl c12) rfl (ypf (v := .bool false) (et rfl rfl) c14 rfl) ?_
          exact j6 _ _ ⟨e5_0, rfl, (congrArg Value.bool (andF c14)), hst⟩
      clear hst
      rintro f w ⟨e13_0, e13_15, e13_20, hst⟩
      refine Y wn rfl (ypf (v := .bool ((decide (x2 = 2)) && x1)) (et rfl e13_15) c12 (et rfl e13_20)) ?_
      exact j5 _ _ ⟨e13_0, (congrArg Value.bool (orF c12)), hst⟩
  clear hst
  rintro f w ⟨e11_0, e11_21, hst⟩
  refine wpList_nil ?_
  refine k3 _ _ ?_
  rcases iteS hM with ⟨c15, hM⟩ | ⟨c15, hM⟩
  · refine condT (et rfl e11_21) c15 ?_
    refine seqQ fun Q4 k4 z4 => ?_
    refine wp_region_lit ?_
    refine Y wn rfl (ym (v := .bool x1) (et rfl e11_0)) ?_
    obtain ⟨r16, gr16, hM⟩ := bs hM
    refine Yc wn rfl (yCall FN_99 (a2 (et rfl rfl) rfl)) (sparseref03_signed_ok (hM := gr16) (hst := hst) ) ?_
    clear hst
    rintro _ w ⟨rfl, hst⟩
    refine ⟨_, rfl, ?_⟩
    refine Y wn rfl (ya (v := .int .u64 r16) (et rfl rfl)) ?_
    refine wpList_nil ?_
    refine k4 _ _ ?_
    refine wp_ret ?_
    refine z2 _ _ _ rfl ?_
    obtain rfl := someI hM
    exact hQ _ _ _ (fin1r Tryz.results95 ⟨rfl, rfl⟩ ⟨rfl, hst⟩)
  · refine condF (et rfl e11_21) (bfalse c15) ?_
    refine wp_skip ?_
    refine k2 _ _ ?_
    refine seqQ fun Q5 k5 z5 => ?_
    refine wp_region_lit ?_
    refine Y wn rfl (ym (v := .bool x1) (et rfl e11_0)) ?_
    obtain ⟨r17, gr17, hM⟩ := bs hM
    refine Yc wn rfl (yCall FN_99 (a2 (et rfl rfl) rfl)) (sparseref03_signed_ok (hM := gr17) (hst := hst) ) ?_
    clear hst
    rintro _ w ⟨rfl, hst⟩
    refine ⟨_, rfl, ?_⟩
    refine Y wn rfl (ya (v := .int .u64 r17) (et rfl rfl)) ?_
    refine wpList_nil ?_
    refine k5 _ _ ?_
    refine wp_ret ?_
    obtain rfl := someI hM
    exact hQ _ _ _ (fin1r Tryz.results95 ⟨rfl, rfl⟩ ⟨rfl, hst⟩)

theorem sparseref01_Lost_ok {w0 : World} {ros : List Fact} {rs : List Res} {w : World} {x1 : Bool} {x2 : List Int} {x4 : Int} {h3 : Hdr} {out : Bool} (hM : sparseref01_Lost x1 x2 x4 = some out) (q1 : imm (rI .u32) h3.v x2 ∈ ros) (hst : St w0 ros (rs) w) :
    Calls Tryz.prog 113 #[.agg #[.bool x1, h3.v], .int .i64 x4] w (fun e w => e = .returned (.bool out) ∧ St w0 (ros) (rs) w) := by
  refine enterQ Tryz.func113 rfl Tryz.ntmps113 rfl fun Q hQ => ?_
  refine seqQ fun Q1 k1 z1 => ?_
  refine wp_region_lit ?_
  refine YB wn rfl (r_box (vals := [.bool x1, h3.v]) hst (et rfl rfl) rfl) ?_
  clear hst
  intro b5 w hst
  refine Y wn rfl (ya (v := .bool false) rfl) ?_
  refine wpList_nil ?_
  refine k1 _ _ ?_
  refine seqQ fun Q2 k2 z2 => ?_
  refine wp_region_lit ?_
  refine Y wn rfl (yFb FL_82_1 (et rfl rfl)) ?_
  refine Y wn rfl (yLb (u := h3.v) O_80 (et rfl rfl) hst mhR rfl) ?_
  obtain ⟨r6, gr6, hM⟩ := bs hM
  refine Yc wn rfl (yCall FN_112 (a1 (et rfl rfl))) (sparseref01_trim_ok (hM := gr6) (hst := hst) (q1 := q1)) ?_
  clear hst
  rintro _ w ⟨h7, rfl, hst⟩
  refine ⟨_, rfl, ?_⟩
  refine Y wn rfl (ym (v := .int .i64 x4) (et rfl rfl)) ?_
  obtain ⟨r8, gr8, hM⟩ := bs hM
  replace hst := hst.fz
  refine Yc wn rfl (yCall FN_117 (a2 (et rfl rfl) (et rfl rfl))) (sparseref01_shr_ok (hM := gr8) (hst := hst) (q1 := mhF)) ?_
  clear hst
  rintro _ w ⟨h9, rfl, hst⟩
  refine ⟨_, rfl, ?_⟩
  refine Y wn rfl (ym (v := .tuple #[h9.v, .bool r8.2]) (et rfl rfl)) ?_
  refine Y wn rfl (yx (v := h9.v) (et rfl rfl) rfl) ?_
  refine Y wn rfl (yx (v := .bool r8.2) (et rfl rfl) rfl) ?_
  refine Y wn rfl (ya (v := h9.v) (et rfl rfl)) ?_
  refine Y wn rfl (ya (v := .bool r8.2) (et rfl rfl)) ?_
  refine wpList_nil ?_
  refine k2 _ _ ?_
  refine seqQ fun Q3 k3 z3 => ?_
  refine wp_region_lit ?_
  refine Y wn rfl (ym (v := .bool r8.2) (et rfl rfl)) ?_
  refine Y wn rfl (ya (v := .bool r8.2) (et rfl rfl)) ?_
  refine wpList_nil ?_
  refine k3 _ _ ?_
  refine wp_ret ?_
  obtain rfl := someI hM
  exact hQ _ _ _ (fin1r Tryz.results113 ⟨rfl, rfl⟩ ⟨rfl, ((hst.pk 2 [] rfl).facts (allT allI))⟩)

theorem sparseref02_Up_ok {w0 : World} {ros : List Fact} {rs : List Res} {w : World} {x1 : Bool} {x2 : Int} {x3 : Bool} {x4 : Int} {out : Bool} (hM : sparseref02_Up x1 x2 x3 x4 = some out) (hst : St w0 ros (rs) w) :
    Calls Tryz.prog 114 #[.bool x1, .int .i64 x2, .bool x3, .int .i64 x4] w (fun e w => e = .returned (.bool out) ∧ St w0 (ros) (rs) w) := by
  refine enterQ Tryz.func114 rfl Tryz.ntmps114 rfl fun Q hQ => ?_
  refine seqQ fun Q1 k1 z1 => ?_
  refine wp_region_lit ?_
  refine Y wn rfl (ya (v := .bool false) rfl) ?_
  refine wpList_nil ?_
  refine k1 _ _ ?_
  refine seqQ fun Q2 k2 z2 => ?_
  refine seqQ fun Q3 k3 z3 => ?_
  refine wp_region_lit ?_
  refine Y wn rfl (ym (v := .int .i64 x4) (et rfl rfl)) ?_
  refine wpList_nil ?_
  refine k3 _ _ ?_
  refine blockQ fun Q4 qb4 => ?_
  refine seqQ fun Q5 k5 z5 => ?_
  refine wp_region_lit ?_
  refine Y wn rfl (yeql (et rfl rfl) rfl) ?_
  refine Y wn rfl (ya (v := .bool (decide (x4 = 1))) (et rfl rfl)) ?_
  refine wpList_nil ?_
  refine k5 _ _ ?_
  rcases iteS hM with ⟨c5, hM⟩ | ⟨c5, hM⟩
  · refine condT (et rfl rfl) (decide_eq_true c5) ?_
    refine seqQ fun Q6 k6 z6 => ?_
    refine wp_region_lit ?_
    refine Y wn rfl (ym (v := .bool x1) (et rfl rfl)) ?_
    refine Y wn rfl (ya (v := .bool x1) (et rfl rfl)) ?_
    refine wpList_nil ?_
    refine k6 _ _ ?_
    refine wp_ret ?_
    refine qb4 _ _ _ ?_
    refine z2 _ _ _ rfl ?_
    obtain rfl := someI hM
    exact hQ _ _ _ (fin1r Tryz.results114 ⟨rfl, rfl⟩ ⟨rfl, hst⟩)
  · refine condF (et rfl rfl) (decide_eq_false c5) ?_
    refine seqQ fun Q7 k7 z7 => ?_
    refine wp_region_lit ?_
    refine Y wn rfl (yeql (et rfl rfl) rfl) ?_
    refine Y wn rfl (ya (v := .bool (decide (x4 = 2))) (et rfl rfl)) ?_
    refine wpList_nil ?_
    refine k7 _ _ ?_
    rcases iteS hM with ⟨c6, hM⟩ | ⟨c6, hM⟩
    · refine condT (et rfl rfl) (decide_eq_true c6) ?_
      refine seqQ fun Q8 k8 z8 => ?_
      refine wp_region_lit ?_
      refine Y wn rfl (ym (v := .bool x1) (et rfl rfl)) ?_
      refine Y wn rfl (ynot (et rfl rfl)) ?_
      refine Y wn rfl (ya (v := .bool (!(x1))) (et rfl rfl)) ?_
      refine wpList_nil ?_
      refine k8 _ _ ?_
      refine wp_ret ?_
      refine qb4 _ _ _ ?_
      refine z2 _ _ _ rfl ?_
      obtain rfl := someI hM
      exact hQ _ _ _ (fin1r Tryz.results114 ⟨rfl, rfl⟩ ⟨rfl, hst⟩)
    · refine condF (et rfl rfl) (decide_eq_false c6) ?_
      refine seqQ fun Q9 k9 z9 => ?_
      refine wp_region_lit ?_
      refine Y wn rfl (yeql (et rfl rfl) rfl) ?_
      refine Y wn rfl (ya (v := .bool (decide (x4 = 3))) (et rfl rfl)) ?_
      refine wpList_nil ?_
      refine k9 _ _ ?_
      rcases iteS hM with ⟨c7, hM⟩ | ⟨c7, hM⟩
      · refine condT (et rfl rfl) (decide_eq_true c7) ?_
        refine seqQ fun Q10 k10 z10 => ?_
        refine wp_region_lit ?_
        refine Y wn rfl (ya (v := .bool false) rfl) ?_
        refine wpList_nil ?_
        refine k10 _ _ ?_
        refine wp_ret ?_
        refine qb4 _ _ _ ?_
        refine z2 _ _ _ rfl ?_
        obtain rfl := someI hM
        exact hQ _ _ _ (fin1r Tryz.results114 ⟨rfl, rfl⟩ ⟨rfl, hst⟩)
      · refine condF (et rfl rfl) (decide_eq_false c7) ?_
        refine wp_skip ?_
        refine qb4 _ _ _ ?_
        refine k2 _ _ ?_
        refine seqQ fun Q11 k11 z11 => ?_
        refine wp_region_lit ?_
        refine Y wn rfl (ym (v := .int .i64 x2) (et rfl rfl)) ?_
        refine Y wn rfl (ygtr (et rfl rfl) rfl) ?_
        refine Y wn rfl (ym (v := .bool (decide ((0 : Int) < x2))) (et rfl rfl)) ?_
        refine joinW 6 (fun f w => f 27 = .bool ((decide ((0 : Int) < x2)) || ((decide (x2 = 0)) && x3)) ∧ St w0 (ros) (rs) w) (fun j2 => ?_) ?_
        · rcases Bool.eq_false_or_eq_true (decide ((0 : Int) < x2)) with c11 | c11
          · refine Gn (wx rfl rfl rfl c11) rfl ?_
            refine Gn (wx rfl rfl rfl c11) rfl ?_
            refine Gn (wx rfl rfl rfl c11) rfl ?_
            refine Gn (wxu rfl rfl rfl) rfl ?_
            refine Gn (wx rfl rfl rfl c11) rfl ?_
            refine Y wn rfl (ypt (v := .bool true) (et rfl rfl) c11 rfl) ?_
            exact j2 _ _ ⟨(congrArg Value.bool (orT c11)), hst⟩
          · refine Y (wg rfl rfl rfl c11) rfl (ym (v := .int .i64 x2) (et rfl rfl)) ?_
            refine Y (wg rfl rfl rfl c11) rfl (yeql (et rfl rfl) rfl) ?_
            refine Y (wg rfl rfl rfl c11) rfl (ym (v := .bool (decide (x2 = 0))) (et rfl rfl)) ?_
            refine joinW 2 (fun f w => f 21 = .bool (decide ((0 : Int) < x2)) ∧ f 26 = .bool ((decide (x2 = 0)) && x3) ∧ St w0 (ros) (rs) w) (fun j3 => ?_) ?_
            · rcases Bool.eq_false_or_eq_true (decide (x2 = 0)) with c13 | c13
              · refine Y (wg rfl rfl rfl c13) rfl (ym (v := .bool x3) (et rfl rfl)) ?_
                refine Y (wg rfl rfl rfl c11) rfl (ypt (v := .bool x3) (et rfl rfl) c13 (et rfl rfl)) ?_
                exact j3 _ _ ⟨rfl, (congrArg Value.bool (andT c13)), hst⟩
              · refine Gn (wx rfl rfl rfl c13) rfl ?_
                refine Y (wg rfl rfl rfl c11) rfl (ypf (v := .bool false) (et rfl rfl) c13 rfl) ?_
                exact j3 _ _ ⟨rfl, (congrArg Value.bool (andF c13)), hst⟩
            clear hst
            rintro f w ⟨e12_21, e12_26, hst⟩
            refine Y wn rfl (ypf (v := .bool ((decide (x2 = 0)) && x3)) (et rfl e12_21) c11 (et rfl e12_26)) ?_
            exact j2 _ _ ⟨(congrArg Value.bool (orF c11)), hst⟩
        clear hst
        rintro f w ⟨e10_27, hst⟩
        refine Y wn rfl (ya (v := .bool ((decide ((0 : Int) < x2)) || ((decide (x2 = 0)) && x3))) (et rfl e10_27)) ?_
        refine wpList_nil ?_
        refine k11 _ _ ?_
        refine wp_ret ?_
        obtain rfl := someI hM
        exact hQ _ _ _ (fin1r Tryz.results114 ⟨rfl, rfl⟩ ⟨rfl, hst⟩)

theorem sparseref02_Cut_ok {w0 : World} {ros : List Fact} {rs : List Res} {w : World} {x1 : Bool} {x2 : Bool} {x3 : List Int} {x5 : Int} {x6 : Bool} {x7 : Int} {h4 : Hdr} {out : Bool × (List Int)} (hM : sparseref02_Cut x1 x2 x3 x5 x6 x7 = some out) (q1 : imm (rI .u32) h4.v x3 ∈ ros) (q2 : globF ∈ ros) (hst : St w0 ros (rs) w) :
    Calls Tryz.prog 96 #[.bool x1, .agg #[.bool x2, h4.v], .int .i64 x5, .bool x6, .int .i64 x7] w (fun e w => ∃ (h100002 : Hdr), e = .returned (.agg #[.bool out.1, h100002.v]) ∧ St w0 (imm (rI .u32) h100002.v out.2 :: ros) (rs) w) := by
  refine enterQ Tryz.func96 rfl Tryz.ntmps96 rfl fun Q hQ => ?_
  refine seqQ fun Q1 k1 z1 => ?_
  refine wp_region_lit ?_
  refine YB wn rfl (r_box (vals := [.bool x2, h4.v]) hst (et rfl rfl) rfl) ?_
  clear hst
  intro b8 w hst
  refine YB wn rfl (rAl hst ZT_82) ?_
  clear hst
  intro b9 w hst
  refine wpList_nil ?_
  refine k1 _ _ ?_
  refine seqQ fun Q2 k2 z2 => ?_
  refine wp_region_lit ?_
  refine Y wn rfl (yLbs (us := [.bool x2, h4.v]) ST_82 (et rfl rfl) hst (mtR mhR) rfl rfl) ?_
  refine Y wn rfl (ym (v := .int .i64 x5) (et rfl rfl)) ?_
  obtain ⟨r10, gr10, hM⟩ := bs hM
  refine Yc wn rfl (yCall FN_102 (a2 (et rfl rfl) (et rfl rfl))) (sparseref02_down_ok (hM := gr10) (hst := hst) (q1 := q1)) ?_
  clear hst
  rintro _ w ⟨h11, rfl, hst⟩
  refine ⟨_, rfl, ?_⟩
  refine YB wn rfl (rAl hst ZT_82) ?_
  clear hst
  intro b12 w hst
  refine YT wn rfl (r_stbn (vals' := [.bool r10.1, h11.v]) (us := [.bool r10.1, h11.v]) hst ST_82 (et rfl rfl) (et rfl rfl) rfl rfl (one_of rfl) rfl) ?_
  clear hst
  intro w hst
  refine wpList_nil ?_
  refine k2 _ _ ?_
  refine seqQ fun Q3 k3 z3 => ?_
  refine wp_region_lit ?_
  refine Y wn rfl (yLbs (us := [.bool x2, h4.v]) ST_82 (et rfl rfl) hst (mtR (mtR (mtR mhR))) rfl rfl) ?_
  refine Y wn rfl (ym (v := .int .i64 x5) (et rfl rfl)) ?_
  obtain ⟨r13, gr13, hM⟩ := bs hM
  refine Yc wn rfl (yCall FN_113 (a2 (et rfl rfl) (et rfl rfl))) (sparseref01_Lost_ok (hM := gr13) (hst := hst) (q1 := q1)) ?_
  clear hst
  rintro _ w ⟨rfl, hst⟩
  refine ⟨_, rfl, ?_⟩
  refine Y wn rfl (ya (v := .bool r13) (et rfl rfl)) ?_
  refine wpList_nil ?_
  refine k3 _ _ ?_
  refine seqQ fun Q4 k4 z4 => ?_
  refine seqQ fun Q5 k5 z5 => ?_
  refine wp_region_lit ?_
  refine Y wn rfl (ym (v := .bool r13) (et rfl rfl)) ?_
  refine Y wn rfl (ynot (et rfl rfl)) ?_
  refine Y wn rfl (ym (v := .bool (!(r13))) (et rfl rfl)) ?_
  refine joinW 3 (fun f w => f 0 = .bool x1 ∧ f 2 = .int .i64 x5 ∧ f 3 = .bool x6 ∧ f 4 = .int .i64 x7 ∧ f 6 = .pointer (some ⟨b8, 0, none⟩) ∧ f 10 = .pointer (some ⟨b9, 0, none⟩) ∧ f 11 = .pointer (some ⟨b12, 0, none⟩) ∧ f 27 = .bool ((!(r13)) && (!(x6))) ∧ St w0 (ros) (box b8 82 [.bool x2, h4.v] :: box b9 82 [.bool false, hnil.v] :: row 127 (rI .u32) h11.v r10.2 :: box b12 82 [.bool r10.1, h11.v] :: rs) w) (fun j1 => ?_) ?_
  · rcases Bool.eq_false_or_eq_true (!(r13)) with c15 | c15
    · refine Y (wg rfl rfl rfl c15) rfl (ym (v := .bool x6) (et rfl rfl)) ?_
      refine Y (wg rfl rfl rfl c15) rfl (ynot (et rfl rfl)) ?_
      refine Y wn rfl (ypt (v := .bool (!(x6))) (et rfl rfl) c15 (et rfl rfl)) ?_
      exact j1 _ _ ⟨rfl, rfl, rfl, rfl, rfl, rfl, rfl, (congrArg Value.bool (andT c15)), (hst.pk 4 [3, 2, 1, 0] rfl)⟩
    · refine Gn (wx rfl rfl rfl c15) rfl ?_
      refine Gn (wx rfl rfl rfl c15) rfl ?_
      refine Y wn rfl (ypf (v := .bool false) (et rfl rfl) c15 rfl) ?_
      exact j1 _ _ ⟨rfl, rfl, rfl, rfl, rfl, rfl, rfl, (congrArg Value.bool (andF c15)), (hst.pk 4 [3, 2, 1, 0] rfl)⟩
  clear hst
  rintro f w ⟨e14_0, e14_2, e14_3, e14_4, e14_6, e14_10, e14_11, e14_27, hst⟩
  refine wpList_nil ?_
  refine k5 _ _ ?_
  rcases iteS hM with ⟨c16, hM⟩ | ⟨c16, hM⟩
  · refine condT (et rfl e14_27) c16 ?_
    refine seqQ fun Q6 k6 z6 => ?_
    refine wp_region_lit ?_
    refine Y wn rfl (yLbs (us := [.bool r10.1, h11.v]) ST_82 (et rfl e14_11) hst (mtR (mtR (mtR mhR))) rfl rfl) ?_
    replace hst := hst.pk 2 [1, 0] rfl
    refine YT wn rfl (r_stbn (vals' := [.bool r10.1, h11.v]) (us := [.bool r10.1, h11.v]) hst ST_82 (et rfl e14_10) (et rfl rfl) rfl rfl (one_of rfl) rfl) ?_
    clear hst
    intro w hst
    refine wpList_nil ?_
    refine k6 _ _ ?_
    refine wp_ret ?_
    refine z4 _ _ _ rfl ?_
    obtain rfl := someI hM
    replace hst := hst.pk 3 [2, 0, 0] rfl
    replace hst := hst.fz
    exact hQ _ _ _ (fin1r Tryz.results96 (rcs2 rfl e14_10 hst mhR ST_82 rfl) ⟨_, rfl, (hst.pk 3 [] rfl)⟩)
  · refine condF (et rfl e14_27) (bfalse c16) ?_
    refine wp_skip ?_
    refine k4 _ _ ?_
    refine seqQ fun Q7 k7 z7 => ?_
    refine wp_region_lit ?_
    refine Y wn rfl (ya (v := .int .i64 (-1)) rfl) ?_
    refine wpList_nil ?_
    refine k7 _ _ ?_
    refine seqQ fun Q8 k8 z8 => ?_
    refine seqQ fun Q9 k9 z9 => ?_
    refine wp_region_lit ?_
    refine Y wn rfl (ym (v := .int .i64 x5) (et rfl e14_2)) ?_
    refine Y wn rfl (ygtr (et rfl rfl) rfl) ?_
    refine wpList_nil ?_
    refine k9 _ _ ?_
    have j8 : ∀ (x42 : Int) (f : Nat → Value) (w : World), f 0 = .bool x1 → f 4 = .int .i64 x7 → f 10 = .pointer (some ⟨b9, 0, none⟩) → f 11 = .pointer (some ⟨b12, 0, none⟩) → f 13 = .int .i64 x42 → St w0 (ros) (box b9 82 [.bool false, hnil.v] :: row 127 (rI .u32) h11.v r10.2 :: box b12 82 [.bool r10.1, h11.v] :: rs) w → sparseref02_Cut_j8 r10 x1 x7 x42 = some out → Q8 .normal (fr 67 f) w := by
      intro x42 f w ej8_0 ej8_4 ej8_10 ej8_11 ej8_13 hst hM
      refine k8 _ _ ?_
      refine seqQ fun Q16 k16 z16 => ?_
      refine wp_region_lit ?_
      refine Y wn rfl (yLbs (us := [.bool r10.1, h11.v]) ST_82 (et rfl ej8_11) hst (mtR (mtR mhR)) rfl rfl) ?_
      obtain ⟨r43, gr43, hM⟩ := bs hM
      replace hst := hst.pk 2 [1, 0] rfl
      replace hst := hst.fz
      refine Yc wn rfl (yCall FN_63 (a1 (et rfl rfl))) (sparseref01_Sign_ok (hM := gr43) (hst := hst) (q1 := mhF)) ?_
      clear hst
      rintro _ w ⟨rfl, hst⟩
      refine ⟨_, rfl, ?_⟩
      refine Y wn rfl (yneq (et rfl rfl) rfl) ?_
      refine Y wn rfl (ym (v := .bool (!(decide (r43 = 0)))) (et rfl rfl)) ?_
      obtain ⟨r45, gr45, hM⟩ := bs hM
      refine joinW 4 (fun f w => f 0 = .bool x1 ∧ f 4 = .int .i64 x7 ∧ f 10 = .pointer (some ⟨b9, 0, none⟩) ∧ f 11 = .pointer (some ⟨b12, 0, none⟩) ∧ f 13 = .int .i64 x42 ∧ f 57 = .bool r45 ∧ St w0 (imm (rI .u32) h11.v r10.2 :: ros) (box b9 82 [.bool false, hnil.v] :: box b12 82 [.bool r10.1, h11.v] :: rs) w) (fun j9 => ?_) ?_
      · rcases iteS gr45 with ⟨c47, gr45⟩ | ⟨c47, gr45⟩
        · refine Gn (wx rfl rfl rfl (nF (decide_eq_true c47))) rfl ?_
          refine Gn (wx rfl rfl rfl (nF (decide_eq_true c47))) rfl ?_
          refine Gn (wx rfl rfl rfl (nF (decide_eq_true c47))) rfl ?_
          refine Y wn rfl (ypf (v := .bool false) (et rfl rfl) (nF (decide_eq_true c47)) rfl) ?_
          obtain rfl := someI gr45
          exact j9 _ _ ⟨ej8_0, ej8_4, ej8_10, ej8_11, ej8_13, rfl, hst⟩
        · refine Y (wg rfl rfl rfl (nT (decide_eq_false c47))) rfl (yLbs (us := [.bool r10.1, h11.v]) ST_82 (et rfl ej8_11) hst (mtR mhR) rfl rfl) ?_
          obtain ⟨r48, gr48, gr45⟩ := bs gr45
          refine Yc (wg rfl rfl rfl (nT (decide_eq_false c47))) rfl (yCall FN_101 (a1 (et rfl rfl))) (sparseref01_TrailingZeros_ok (hM := gr48) (hst := hst) (q1 := mhF) (q2 := (mtF q2))) ?_
          clear hst
          rintro _ w ⟨rfl, hst⟩
          refine ⟨_, rfl, ?_⟩
          refine Y (wg rfl rfl rfl (nT (decide_eq_false c47))) rfl (yeql (et rfl rfl) rfl) ?_
          refine Y wn rfl (ypt (v := .bool (decide (r48 = 0))) (et rfl rfl) (nT (decide_eq_false c47)) (et rfl rfl)) ?_
          obtain rfl := someI gr45
          exact j9 _ _ ⟨ej8_0, ej8_4, ej8_10, ej8_11, ej8_13, rfl, hst⟩
      clear hst
      rintro f w ⟨e46_0, e46_4, e46_10, e46_11, e46_13, e46_57, hst⟩
      refine Y wn rfl (ya (v := .bool r45) (et rfl e46_57)) ?_
      refine wpList_nil ?_
      refine k16 _ _ ?_
      refine seqQ fun Q17 k17 z17 => ?_
      refine seqQ fun Q18 k18 z18 => ?_
      refine wp_region_lit ?_
      refine Y wn rfl (ym (v := .bool x1) (et rfl e46_0)) ?_
      refine Y wn rfl (ym (v := .int .i64 x42) (et rfl e46_13)) ?_
      refine Y wn rfl (ym (v := .bool r45) (et rfl rfl)) ?_
      refine Y wn rfl (ym (v := .int .i64 x7) (et rfl e46_4)) ?_
      obtain ⟨r49, gr49, hM⟩ := bs hM
      refine Yc wn rfl (yCall FN_114 (a4 (et rfl rfl) (et rfl rfl) (et rfl rfl) (et rfl rfl))) (sparseref02_Up_ok (hM := gr49) (hst := hst) ) ?_
      clear hst
      rintro _ w ⟨rfl, hst⟩
      refine ⟨_, rfl, ?_⟩
      refine wpList_nil ?_
      refine k18 _ _ ?_
      have j10 : ∀ (x54 : Bool) (x56 : List Int) (h55 : Hdr) (f : Nat → Value) (w : World), f 10 = .pointer (some ⟨b9, 0, none⟩) → f 11 = .pointer (some ⟨b12, 0, none⟩) → St w0 (imm (rI .u32) h55.v x56 :: ros) (box b9 82 [.bool false, hnil.v] :: box b12 82 [.bool x54, h55.v] :: rs) w → sparseref02_Cut_j10 x54 x56 = some out → Q17 .normal (fr 67 f) w := by
        intro x54 x56 h55 f w ej10_10 ej10_11 hst hM
        refine k17 _ _ ?_
        refine seqQ fun Q19 k19 z19 => ?_
        refine wp_region_lit ?_
        refine Y wn rfl (yLbs (us := [.bool x54, h55.v]) ST_82 (et rfl ej10_11) hst (mtR mhR) rfl rfl) ?_
        refine YT wn rfl (r_stbn (vals' := [.bool x54, h55.v]) (us := [.bool x54, h55.v]) hst ST_82 (et rfl ej10_10) (et rfl rfl) rfl rfl (one_of rfl) rfl) ?_
        clear hst
        intro w hst
        refine wpList_nil ?_
        refine k19 _ _ ?_
        refine wp_ret ?_
        obtain rfl := someI hM
        exact hQ _ _ _ (fin1r Tryz.results96 (rcs2 rfl ej10_10 hst mhR ST_82 rfl) ⟨_, rfl, (hst.pk 2 [] rfl)⟩)
      rcases iteS hM with ⟨c57, hM⟩ | ⟨c57, hM⟩
      · refine condT (et rfl rfl) c57 ?_
        obtain ⟨r58, gr58, hM⟩ := bs hM
        obtain ⟨r60, gr60, hM⟩ := bs hM
        refine wp_drawR [0, 0, 3, 7] [1, 2, 3] 3 folM (by kernel_rfl) (by kernel_rfl) (by kernel_rfl) ?_
        replace hst := hst.drew
        refine DRn (l1 := [0]) (l2 := []) (lc := [1]) (by kernel_rfl) (by kernel_rfl) (by kernel_rfl) ?_
        refine Ry rfl rfl wn (yLbs (us := [.bool r10.1, h11.v]) ST_82 (et rfl e46_11) hst (mtR mhR) rfl rfl) ?_
        refine Rn QSn ?_
        refine Lc rfl ?_ LAn
        refine Lk wn (yCall FN_68 (a1 rfl)) (sparseref01_FromInt_ok (hM := gr58) (hst := hst) ) ?_
        clear hst
        rintro _ w ⟨h59, rfl, hst⟩
        refine ⟨_, rfl, ?_⟩
        refine DRn (l1 := []) (l2 := [0]) (lc := [2]) (by kernel_rfl) (by kernel_rfl) (by kernel_rfl) ?_
        refine Rn (Sy rfl rfl wn (yLbs (us := [.bool r10.1, h11.v]) ST_82 (et rfl e46_11) hst (mtR (mtR mhR)) rfl rfl) rfl QSn) ?_
        refine Lc rfl ?_ LAn
        replace hst := hst.fz
        refine Lk wn (yCall FN_115 (a2 (et rfl rfl) (et rfl rfl))) (sparseref01_Add_ok (hM := gr60) (hst := hst) (q1 := (mtF mhF)) (q2 := mhF)) ?_
        clear hst
        rintro _ w ⟨h61, rfl, hst⟩
        refine ⟨_, rfl, ?_⟩
        refine DRn (l1 := []) (l2 := []) (lc := [3]) (by kernel_rfl) (by kernel_rfl) (by kernel_rfl) ?_
        refine Rn QSn ?_
        refine Lc rfl ?_ LAn
        replace hst := hst.pk 3 [2, 0, 0] rfl
        refine LT wn (r_stbn (vals' := [.bool r60.1, h61.v]) (us := [.bool r60.1, h61.v]) hst ST_82 (et rfl e46_11) (et rfl rfl) rfl rfl (one_of rfl) rfl) ?_
        clear hst
        intro w hst
        refine DRz (l1 := []) (l2 := []) (by kernel_rfl) (by kernel_rfl) ?_
        refine Rn QSn ?_
        replace hst := hst.pk 2 [1, 0] rfl
        replace hst := hst.fz
        exact j10 _ _ _ _ _ e46_10 e46_11 ((hst.pk 2 [1, 0] rfl).facts (allC mhF (allT (allT (allT allI))))) hM
      · refine condF (et rfl rfl) (bfalse c57) ?_
        refine wp_skip ?_
        exact j10 _ _ _ _ _ e46_10 e46_11 hst hM
    rcases iteS hM with ⟨c62, hM⟩ | ⟨c62, hM⟩
    · refine condT (et rfl rfl) (decide_eq_true c62) ?_
      refine seqQ fun Q20 k20 z20 => ?_
      refine wp_region_lit ?_
      refine Y wn rfl (yLbs (us := [.bool x2, h4.v]) ST_82 (et rfl e14_6) hst mhR rfl rfl) ?_
      refine Y wn rfl (ym (v := .int .i64 x5) (et rfl e14_2)) ?_
      refine Y wn rfl (ysub (et rfl rfl) rfl) ?_
      obtain ⟨r63, gr63, hM⟩ := bs hM
      refine Yc wn rfl (yCall FN_102 (a2 (et rfl rfl) (et rfl rfl))) (sparseref02_down_ok (hM := gr63) (hst := hst) (q1 := q1)) ?_
      clear hst
      rintro _ w ⟨h64, rfl, hst⟩
      refine ⟨_, rfl, ?_⟩
      refine YB wn rfl (rAl hst ZT_82) ?_
      clear hst
      intro b65 w hst
      refine YT wn rfl (r_stbn (vals' := [.bool r63.1, h64.v]) (us := [.bool r63.1, h64.v]) hst ST_82 (et rfl rfl) (et rfl rfl) rfl rfl (one_of rfl) rfl) ?_
      clear hst
      intro w hst
      refine wpList_nil ?_
      refine k20 _ _ ?_
      refine seqQ fun Q21 k21 z21 => ?_
      refine wp_region_lit ?_
      refine Y wn rfl (yLbs (us := [.bool r63.1, h64.v]) ST_82 (et rfl rfl) hst mhR rfl rfl) ?_
      obtain ⟨r66, gr66, hM⟩ := bs hM
      replace hst := hst.pk 2 [1, 0] rfl
      replace hst := hst.fz
      refine Yc wn rfl (yCall FN_101 (a1 (et rfl rfl))) (sparseref01_TrailingZeros_ok (hM := gr66) (hst := hst) (q1 := mhF) (q2 := (mtF q2))) ?_
      clear hst
      rintro _ w ⟨rfl, hst⟩
      refine ⟨_, rfl, ?_⟩
      refine Y wn rfl (yeql (et rfl rfl) rfl) ?_
      refine Y wn rfl (ym (v := .bool (decide (r66 = 0))) (et rfl rfl)) ?_
      obtain ⟨r68, gr68, hM⟩ := bs hM
      refine joinW 4 (fun f w => f 0 = .bool x1 ∧ f 2 = .int .i64 x5 ∧ f 3 = .bool x6 ∧ f 4 = .int .i64 x7 ∧ f 6 = .pointer (some ⟨b8, 0, none⟩) ∧ f 10 = .pointer (some ⟨b9, 0, none⟩) ∧ f 11 = .pointer (some ⟨b12, 0, none⟩) ∧ f 13 = .int .i64 (-1) ∧ f 42 = .bool r68 ∧ St w0 (ros) (box b8 82 [.bool x2, h4.v] :: box b9 82 [.bool false, hnil.v] :: row 127 (rI .u32) h11.v r10.2 :: box b12 82 [.bool r10.1, h11.v] :: rs) w) (fun j11 => ?_) ?_
      · rcases iteS gr68 with ⟨c70, gr68⟩ | ⟨c70, gr68⟩
        · refine Y (wg rfl rfl rfl (decide_eq_true c70)) rfl (yLbs (us := [.bool r63.1, h64.v]) ST_82 (et rfl rfl) hst mhR rfl rfl) ?_
          obtain ⟨r71, gr71, gr68⟩ := bs gr68
          refine Yc (wg rfl rfl rfl (decide_eq_true c70)) rfl (yCall FN_63 (a1 (et rfl rfl))) (sparseref01_Sign_ok (hM := gr71) (hst := hst) (q1 := mhF)) ?_
          clear hst
          rintro _ w ⟨rfl, hst⟩
          refine ⟨_, rfl, ?_⟩
          refine Y (wg rfl rfl rfl (decide_eq_true c70)) rfl (yneq (et rfl rfl) rfl) ?_
          refine Y wn rfl (ypt (v := .bool (!(decide (r71 = 0)))) (et rfl rfl) (decide_eq_true c70) (et rfl rfl)) ?_
          obtain rfl := someI gr68
          exact j11 _ _ ⟨e14_0, e14_2, e14_3, e14_4, e14_6, e14_10, e14_11, rfl, rfl, ((hst.pk 5 [1, 1, 1, 1] rfl).facts (allT allI))⟩
        · refine Gn (wx rfl rfl rfl (decide_eq_false c70)) rfl ?_
          refine Gn (wx rfl rfl rfl (decide_eq_false c70)) rfl ?_
          refine Gn (wx rfl rfl rfl (decide_eq_false c70)) rfl ?_
          refine Y wn rfl (ypf (v := .bool false) (et rfl rfl) (decide_eq_false c70) rfl) ?_
          obtain rfl := someI gr68
          exact j11 _ _ ⟨e14_0, e14_2, e14_3, e14_4, e14_6, e14_10, e14_11, rfl, rfl, ((hst.pk 5 [1, 1, 1, 1] rfl).facts (allT allI))⟩
      clear hst
      rintro f w ⟨e69_0, e69_2, e69_3, e69_4, e69_6, e69_10, e69_11, e69_13, e69_42, hst⟩
      refine wpList_nil ?_
      refine k21 _ _ ?_
      have j14 : ∀ (x79 : Int) (f : Nat → Value) (w : World), f 0 = .bool x1 → f 4 = .int .i64 x7 → f 10 = .pointer (some ⟨b9, 0, none⟩) → f 11 = .pointer (some ⟨b12, 0, none⟩) → f 13 = .int .i64 x79 → St w0 (ros) (box b9 82 [.bool false, hnil.v] :: row 127 (rI .u32) h11.v r10.2 :: box b12 82 [.bool r10.1, h11.v] :: rs) w → sparseref02_Cut_j14 r10 x1 x7 x79 = some out → Q8 .normal (fr 67 f) w := by
        intro x79 f w ej14_0 ej14_4 ej14_10 ej14_11 ej14_13 hst hM
        exact j8 _ _ _ ej14_0 ej14_4 ej14_10 ej14_11 ej14_13 hst hM
      rcases iteS hM with ⟨c80, hM⟩ | ⟨c80, hM⟩
      · refine condT (et rfl e69_42) c80 ?_
        refine seqQ fun Q24 k24 z24 => ?_
        refine wp_region_lit ?_
        refine Y wn rfl (ya (v := .int .i64 0) rfl) ?_
        refine wpList_nil ?_
        refine k24 _ _ ?_
        refine seqQ fun Q25 k25 z25 => ?_
        refine wp_region_lit ?_
        refine Y wn rfl (ym (v := .bool x6) (et rfl e69_3)) ?_
        refine Y wn rfl (ym (v := .bool x6) (et rfl rfl)) ?_
        obtain ⟨r82, gr82, hM⟩ := bs hM
        refine joinW 5 (fun f w => f 0 = .bool x1 ∧ f 4 = .int .i64 x7 ∧ f 10 = .pointer (some ⟨b9, 0, none⟩) ∧ f 11 = .pointer (some ⟨b12, 0, none⟩) ∧ f 13 = .int .i64 0 ∧ f 49 = .bool r82 ∧ St w0 (ros) (box b9 82 [.bool false, hnil.v] :: row 127 (rI .u32) h11.v r10.2 :: box b12 82 [.bool r10.1, h11.v] :: rs) w) (fun j15 => ?_) ?_
        · rcases iteS gr82 with ⟨c84, gr82⟩ | ⟨c84, gr82⟩
          · refine Gn (wx rfl rfl rfl c84) rfl ?_
            refine Gn (wx rfl rfl rfl c84) rfl ?_
            refine Gn (wx rfl rfl rfl c84) rfl ?_
            refine Gn (wx rfl rfl rfl c84) rfl ?_
            refine Y wn rfl (ypt (v := .bool true) (et rfl rfl) c84 rfl) ?_
            obtain rfl := someI gr82
            exact j15 _ _ ⟨e69_0, e69_4, e69_10, e69_11, rfl, rfl, (hst.pk 4 [1, 1, 1] rfl)⟩
          · refine Y (wg rfl rfl rfl (bfalse c84)) rfl (yLbs (us := [.bool x2, h4.v]) ST_82 (et rfl e69_6) hst mhR rfl rfl) ?_
            refine Y (wg rfl rfl rfl (bfalse c84)) rfl (ym (v := .int .i64 x5) (et rfl e69_2)) ?_
            refine Y (wg rfl rfl rfl (bfalse c84)) rfl (ysub (et rfl rfl) rfl) ?_
            obtain ⟨r85, gr85, gr82⟩ := bs gr82
            refine Yc (wg rfl rfl rfl (bfalse c84)) rfl (yCall FN_113 (a2 (et rfl rfl) (et rfl rfl))) (sparseref01_Lost_ok (hM := gr85) (hst := hst) (q1 := q1)) ?_
            clear hst
            rintro _ w ⟨rfl, hst⟩
            refine ⟨_, rfl, ?_⟩
            refine Y wn rfl (ypf (v := .bool r85) (et rfl rfl) (bfalse c84) (et rfl rfl)) ?_
            obtain rfl := someI gr82
            exact j15 _ _ ⟨e69_0, e69_4, e69_10, e69_11, rfl, rfl, (hst.pk 4 [1, 1, 1] rfl)⟩
        clear hst
        rintro f w ⟨e83_0, e83_4, e83_10, e83_11, e83_13, e83_49, hst⟩
        refine wpList_nil ?_
        refine k25 _ _ ?_
        have j16 : ∀ (x86 : Int) (f : Nat → Value) (w : World), f 0 = .bool x1 → f 4 = .int .i64 x7 → f 10 = .pointer (some ⟨b9, 0, none⟩) → f 11 = .pointer (some ⟨b12, 0, none⟩) → f 13 = .int .i64 x86 → St w0 (ros) (box b9 82 [.bool false, hnil.v] :: row 127 (rI .u32) h11.v r10.2 :: box b12 82 [.bool r10.1, h11.v] :: rs) w → sparseref02_Cut_j16 r10 x1 x7 x86 = some out → Q8 .normal (fr 67 f) w := by
          intro x86 f w ej16_0 ej16_4 ej16_10 ej16_11 ej16_13 hst hM
          exact j14 _ _ _ ej16_0 ej16_4 ej16_10 ej16_11 ej16_13 hst hM
        rcases iteS hM with ⟨c87, hM⟩ | ⟨c87, hM⟩
        · refine condT (et rfl e83_49) c87 ?_
          refine wp_region_lit ?_
          refine Y wn rfl (ya (v := .int .i64 1) rfl) ?_
          refine wpList_nil ?_
          exact j16 _ _ _ e83_0 e83_4 e83_10 e83_11 rfl hst hM
        · refine condF (et rfl e83_49) (bfalse c87) ?_
          refine wp_skip ?_
          exact j16 _ _ _ e83_0 e83_4 e83_10 e83_11 e83_13 hst hM
      · refine condF (et rfl e69_42) (bfalse c80) ?_
        refine wp_skip ?_
        exact j14 _ _ _ e69_0 e69_4 e69_10 e69_11 e69_13 (hst.pk 4 [1, 1, 1] rfl) hM
    · refine condF (et rfl rfl) (decide_eq_false c62) ?_
      refine wp_skip ?_
      exact j8 _ _ _ e14_0 e14_4 e14_10 e14_11 rfl (hst.pk 4 [1, 1, 1] rfl) hM

theorem sparseref01_Int_ok {w0 : World} {ros : List Fact} {rs : List Res} {w : World} {x1 : Bool} {x2 : List Int} {h3 : Hdr} {out : Int × Bool} (hM : sparseref01_Int x1 x2 = some out) (q1 : imm (rI .u32) h3.v x2 ∈ ros) (hst : St w0 ros (rs) w) :
    Calls Tryz.prog 98 #[.agg #[.bool x1, h3.v]] w (fun e w => e = .returned (.tuple #[.int .i64 out.1, .bool out.2]) ∧ St w0 (ros) (rs) w) := by
  refine enterQ Tryz.func98 rfl Tryz.ntmps98 rfl fun Q hQ => ?_
  refine seqQ fun Q1 k1 z1 => ?_
  refine wp_region_lit ?_
  refine YB wn rfl (r_box (vals := [.bool x1, h3.v]) hst (et rfl rfl) rfl) ?_
  clear hst
  intro b4 w hst
  refine Y wn rfl (ya (v := .int .i64 0) rfl) ?_
  refine Y wn rfl (ya (v := .bool false) rfl) ?_
  refine wpList_nil ?_
  refine k1 _ _ ?_
  refine seqQ fun Q2 k2 z2 => ?_
  refine wp_region_lit ?_
  refine Y wn rfl (yLbs (us := [.bool x1, h3.v]) ST_82 (et rfl rfl) hst mhR rfl rfl) ?_
  obtain ⟨r5, gr5, hM⟩ := bs hM
  refine Yc wn rfl (yCall FN_93 (a1 (et rfl rfl))) (sparseref01_Norm_ok (hM := gr5) (hst := hst) (q1 := q1)) ?_
  clear hst
  rintro _ w ⟨h6, rfl, hst⟩
  refine ⟨_, rfl, ?_⟩
  replace hst := hst.pk 2 [1, 0] rfl
  refine YT wn rfl (r_stbn (vals' := [.bool r5.1, h6.v]) (us := [.bool r5.1, h6.v]) hst ST_82 (et rfl rfl) (et rfl rfl) rfl rfl (one_of rfl) rfl) ?_
  clear hst
  intro w hst
  refine wpList_nil ?_
  refine k2 _ _ ?_
  refine seqQ fun Q3 k3 z3 => ?_
  refine seqQ fun Q4 k4 z4 => ?_
  refine wp_region_lit ?_
  refine Y wn rfl (yFb FL_82_1 (et rfl rfl)) ?_
  refine Y wn rfl (yLb (u := h6.v) O_80 (et rfl rfl) hst mhR rfl) ?_
  refine Y wn rfl (yLen SL_80 (et rfl rfl) hst (rdO (mtR mhR))) ?_
  refine Y wn rfl (ygtr (et rfl rfl) rfl) ?_
  refine wpList_nil ?_
  refine k4 _ _ ?_
  rcases iteS hM with ⟨c7, hM⟩ | ⟨c7, hM⟩
  · refine condT (et rfl rfl) (decide_eq_true c7) ?_
    refine seqQ fun Q5 k5 z5 => ?_
    refine wp_region_lit ?_
    refine Y wn rfl (ya (v := .int .i64 0) rfl) ?_
    refine Y wn rfl (ya (v := .bool false) rfl) ?_
    refine wpList_nil ?_
    refine k5 _ _ ?_
    refine wp_ret ?_
    refine z3 _ _ _ rfl ?_
    obtain rfl := someI hM
    exact hQ _ _ _ (fin2r Tryz.results98 ⟨rfl, rfl⟩ ⟨rfl, rfl⟩ ⟨rfl, (hst.pk 2 [] rfl)⟩)
  · refine condF (et rfl rfl) (decide_eq_false c7) ?_
    refine wp_skip ?_
    refine k3 _ _ ?_
    refine seqQ fun Q6 k6 z6 => ?_
    refine wp_region_lit ?_
    refine Y wn rfl (ya (v := .int .u64 0) rfl) ?_
    refine wpList_nil ?_
    refine k6 _ _ ?_
    refine seqQ fun Q7 k7 z7 => ?_
    refine seqQ fun Q8 k8 z8 => ?_
    refine wp_region_lit ?_
    refine Y wn rfl (ya (v := .int .i64 0) rfl) ?_
    refine wpList_nil ?_
    refine k8 _ _ ?_
    refine blockQ fun Q9 qb9 => ?_
    obtain ⟨o1, go1, hM⟩ := bs hM
    have je1_0 : ∀ (x18 : Int) (f : Nat → Value) (w : World), f 1 = .pointer (some ⟨b4, 0, none⟩) → f 4 = .int .u64 x18 → St w0 (ros) (row 127 (rI .u32) h6.v r5.2 :: box b4 82 [.bool r5.1, h6.v] :: rs) w → x18 = o1 → Q9 (.exit 0) (fr 43 f) w := by
      intro x18 f w eje1_0_1 eje1_0_4 hst ho
      subst ho
      refine qb9 _ _ _ ?_
      refine k7 _ _ ?_
      refine seqQ fun Q18 k18 z18 => ?_
      refine seqQ fun Q19 k19 z19 => ?_
      refine wp_region_lit ?_
      refine Y wn rfl (yFb FL_82_0 (et rfl eje1_0_1)) ?_
      refine Y wn rfl (yLb (u := .bool r5.1) O_4 (et rfl rfl) hst (mtR mhR) rfl) ?_
      refine wpList_nil ?_
      refine k19 _ _ ?_
      rcases iteS hM with ⟨c19, hM⟩ | ⟨c19, hM⟩
      · refine condT (et rfl rfl) c19 ?_
        refine seqQ fun Q20 k20 z20 => ?_
        refine seqQ fun Q21 k21 z21 => ?_
        refine wp_region_lit ?_
        refine Y wn rfl (ym (v := .int .u64 x18) (et rfl eje1_0_4)) ?_
        refine Y wn rfl (ygtr (et rfl rfl) rfl) ?_
        refine wpList_nil ?_
        refine k21 _ _ ?_
        rcases iteS hM with ⟨c20, hM⟩ | ⟨c20, hM⟩
        · refine condT (et rfl rfl) (decide_eq_true c20) ?_
          refine seqQ fun Q22 k22 z22 => ?_
          refine wp_region_lit ?_
          refine Y wn rfl (ya (v := .int .i64 0) rfl) ?_
          refine Y wn rfl (ya (v := .bool false) rfl) ?_
          refine wpList_nil ?_
          refine k22 _ _ ?_
          refine wp_ret ?_
          refine z20 _ _ _ rfl ?_
          refine z18 _ _ _ rfl ?_
          obtain rfl := someI hM
          exact hQ _ _ _ (fin2r Tryz.results98 ⟨rfl, rfl⟩ ⟨rfl, rfl⟩ ⟨rfl, (hst.pk 2 [] rfl)⟩)
        · refine condF (et rfl rfl) (decide_eq_false c20) ?_
          refine wp_skip ?_
          refine k20 _ _ ?_
          refine seqQ fun Q23 k23 z23 => ?_
          refine wp_region_lit ?_
          refine Y wn rfl (ym (v := .int .u64 x18) (et rfl eje1_0_4)) ?_
          refine Y wn rfl (ysub (et rfl rfl) rfl) ?_
          refine Y wn rfl (ycv (k' := .i64) (by kernel_rfl) (by kernel_rfl) (et rfl rfl)) ?_
          refine Y wn rfl (yneg (et rfl rfl)) ?_
          refine Y wn rfl (ysub (et rfl rfl) rfl) ?_
          refine Y wn rfl (ya (v := .int .i64 (ws .i64 (wneg .i64 (wc .i64 (ws .u64 x18 1))) 1)) (et rfl rfl)) ?_
          refine Y wn rfl (ya (v := .bool true) rfl) ?_
          refine wpList_nil ?_
          refine k23 _ _ ?_
          refine wp_ret ?_
          refine z18 _ _ _ rfl ?_
          obtain rfl := someI hM
          exact hQ _ _ _ (fin2r Tryz.results98 ⟨rfl, rfl⟩ ⟨rfl, rfl⟩ ⟨rfl, (hst.pk 2 [] rfl)⟩)
      · refine condF (et rfl rfl) (bfalse c19) ?_
        refine wp_skip ?_
        refine k18 _ _ ?_
        refine seqQ fun Q24 k24 z24 => ?_
        refine seqQ fun Q25 k25 z25 => ?_
        refine wp_region_lit ?_
        refine Y wn rfl (ym (v := .int .u64 x18) (et rfl eje1_0_4)) ?_
        refine Y wn rfl (ygtr (et rfl rfl) rfl) ?_
        refine wpList_nil ?_
        refine k25 _ _ ?_
        rcases iteS hM with ⟨c21, hM⟩ | ⟨c21, hM⟩
        · refine condT (et rfl rfl) (decide_eq_true c21) ?_
          refine seqQ fun Q26 k26 z26 => ?_
          refine wp_region_lit ?_
          refine Y wn rfl (ya (v := .int .i64 0) rfl) ?_
          refine Y wn rfl (ya (v := .bool false) rfl) ?_
          refine wpList_nil ?_
          refine k26 _ _ ?_
          refine wp_ret ?_
          refine z24 _ _ _ rfl ?_
          obtain rfl := someI hM
          exact hQ _ _ _ (fin2r Tryz.results98 ⟨rfl, rfl⟩ ⟨rfl, rfl⟩ ⟨rfl, (hst.pk 2 [] rfl)⟩)
        · refine condF (et rfl rfl) (decide_eq_false c21) ?_
          refine wp_skip ?_
          refine k24 _ _ ?_
          refine seqQ fun Q27 k27 z27 => ?_
          refine wp_region_lit ?_
          refine Y wn rfl (ym (v := .int .u64 x18) (et rfl eje1_0_4)) ?_
          refine Y wn rfl (ycv (k' := .i64) (by kernel_rfl) (by kernel_rfl) (et rfl rfl)) ?_
          refine Y wn rfl (ya (v := .int .i64 (wc .i64 x18)) (et rfl rfl)) ?_
          refine Y wn rfl (ya (v := .bool true) rfl) ?_
          refine wpList_nil ?_
          refine k27 _ _ ?_
          refine wp_ret ?_
          obtain rfl := someI hM
          exact hQ _ _ _ (fin2r Tryz.results98 ⟨rfl, rfl⟩ ⟨rfl, rfl⟩ ⟨rfl, (hst.pk 2 [] rfl)⟩)
    refine loopQ (fun s a w => ∃ (x11 : Int) (x12 : Int) (f : Nat → Value), (x11, x12) = s ∧ a = fr 43 f ∧ f 1 = .pointer (some ⟨b4, 0, none⟩) ∧ f 4 = .int .u64 x11 ∧ f 5 = .int .i64 x12 ∧ St w0 (ros) (row 127 (rI .u32) h6.v r5.2 :: box b4 82 [.bool r5.1, h6.v] :: rs) w) go1 ⟨_, _, _, rfl, rfl, rfl, rfl, rfl, (hst.pk 2 [1, 0] rfl)⟩ ?_
    clear hst
    rintro _ _ w r1_ ⟨x11, x12, f, rfl, rfl, e1_1, e1_4, e1_5, hst⟩ hM1 ho1 Q100001 n1 zz1
    refine seqQ fun Q28 k28 z28 => ?_
    refine seqQ fun Q29 k29 z29 => ?_
    refine wp_region_lit ?_
    refine Y wn rfl (ym (v := .int .i64 x12) (et rfl e1_5)) ?_
    refine Y wn rfl (yFb FL_82_1 (et rfl e1_1)) ?_
    refine Y wn rfl (yLb (u := h6.v) O_80 (et rfl rfl) hst (mtR mhR) rfl) ?_
    refine Y wn rfl (yLen SL_80 (et rfl rfl) hst (rdO mhR)) ?_
    refine Y wn rfl (ylss (et rfl rfl) (et rfl rfl)) ?_
    refine wpList_nil ?_
    refine k29 _ _ ?_
    rcases iteS hM1 with ⟨c22, hM1⟩ | ⟨c22, hM1⟩
    · refine condT (et rfl rfl) (decide_eq_true c22) ?_
      refine wp_skip ?_
      refine k28 _ _ ?_
      refine seqQ fun Q30 k30 z30 => ?_
      refine blockQ fun Q31 qb31 => ?_
      refine wp_region_lit ?_
      refine Y wn rfl (ym (v := .int .u64 x11) (et rfl e1_4)) ?_
      refine Y wn rfl (yFb FL_82_1 (et rfl e1_1)) ?_
      refine Y wn rfl (yLb (u := h6.v) O_80 (et rfl rfl) hst (mtR mhR) rfl) ?_
      refine Y wn rfl (ym (v := .int .i64 x12) (et rfl e1_5)) ?_
      obtain ⟨x23, gx23, hM1⟩ := bs hM1
      refine Y wn rfl (yIa SL_80 (et rfl rfl) (et rfl rfl) hst (rdO mhR) gx23) ?_
      refine Y wn rfl (yI O_127 (et rfl rfl) hst (rdO mhR) gx23) ?_
      refine Y wn rfl (ycv (k' := .u64) (by kernel_rfl) (by kernel_rfl) (et rfl rfl)) ?_
      refine Y wn rfl (ym (v := .int .i64 x12) (et rfl e1_5)) ?_
      refine Y wn rfl (ymul rfl (et rfl rfl)) ?_
      obtain ⟨x24, gx24, hM1⟩ := bs hM1
      refine Y wn rfl (yshl (et rfl rfl) (et rfl rfl) gx24) ?_
      refine Y wn rfl (yor (et rfl rfl) (et rfl rfl)) ?_
      refine Y wn rfl (ya (v := .int .u64 (wor .u64 x11 x24)) (et rfl rfl)) ?_
      refine wpList_nil ?_
      refine qb31 _ _ _ ?_
      refine k30 _ _ ?_
      refine wp_region_lit ?_
      refine Y wn rfl (ym (v := .int .i64 x12) (et rfl e1_5)) ?_
      refine Y wn rfl (yadd (et rfl rfl) rfl) ?_
      refine Y wn rfl (ya (v := .int .i64 (wa .i64 x12 1)) (et rfl rfl)) ?_
      refine wpList_nil ?_
      obtain rfl := someI hM1
      exact n1 _ _ _ rfl ⟨_, _, _, rfl, rfl, e1_1, rfl, rfl, hst⟩
    · refine condF (et rfl rfl) (decide_eq_false c22) ?_
      refine wp_exit ?_
      refine z28 _ _ _ rfl ?_
      obtain rfl := someI hM1
      refine zz1 _ _ _ _ rfl rfl ?_
      exact je1_0 _ _ _ e1_1 e1_4 hst (ho1 _ rfl)
end Go.Proofs.YtcknmegldjnjjaaGreatDoor
