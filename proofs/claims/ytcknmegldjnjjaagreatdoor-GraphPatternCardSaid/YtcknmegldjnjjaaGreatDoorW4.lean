/- Walks: each function computes its model, printed. -/
import Derived.Test.YtcknmegldjnjjaaGreatDoorW3
namespace Go.Proofs.YtcknmegldjnjjaaGreatDoor
open Go Sx M
set_option maxRecDepth 100000
set_option maxHeartbeats 400000
set_option linter.unusedVariables false
attribute [local irreducible] wpList Code.wp Calls DR QR QS LA LS St
theorem sparseref03_rounded_ok {w0 : World} {ros : List Fact} {rs : List Res} {w : World} {x1 : Bool} {x2 : Bool} {x3 : List Int} {x5 : Int} {x6 : Bool} {x7 : Int} {h4 : Hdr} {out : Int} (hM : sparseref03_rounded x1 x2 x3 x5 x6 x7 = some out) (q1 : imm (rI .u32) h4.v x3 ∈ ros) (q2 : globF ∈ ros) (hst : St w0 ros (rs) w) :
    Calls Tryz.prog 64 #[.bool x1, .agg #[.bool x2, h4.v], .int .i64 x5, .bool x6, .int .i64 x7] w (fun e w => e = .returned (.int .u64 out) ∧ St w0 (ros) (rs) w) := by
  refine enterQ Tryz.func64 rfl Tryz.ntmps64 rfl fun Q hQ => ?_
  refine seqQ fun Q1 k1 z1 => ?_
  refine wp_region_lit ?_
  refine YB wn rfl (r_box (vals := [.bool x2, h4.v]) hst (et rfl rfl) rfl) ?_
  clear hst
  intro b8 w hst
  refine Y wn rfl (ya (v := .int .u64 0) rfl) ?_
  refine wpList_nil ?_
  refine k1 _ _ ?_
  refine seqQ fun Q2 k2 z2 => ?_
  refine wp_region_lit ?_
  refine Y wn rfl (ym (v := .int .i64 x5) (et rfl rfl)) ?_
  refine Y wn rfl (yLbs (us := [.bool x2, h4.v]) ST_82 (et rfl rfl) hst mhR rfl rfl) ?_
  obtain ⟨r9, gr9, hM⟩ := bs hM
  refine Yc wn rfl (yCall FN_94 (a1 (et rfl rfl))) (sparseref01_BitLen_ok (hM := gr9) (hst := hst) (q1 := q1)) ?_
  clear hst
  rintro _ w ⟨rfl, hst⟩
  refine ⟨_, rfl, ?_⟩
  refine Y wn rfl (yadd (et rfl rfl) (et rfl rfl)) ?_
  refine Y wn rfl (ysub (et rfl rfl) rfl) ?_
  refine Y wn rfl (ya (v := .int .i64 (ws .i64 (wa .i64 x5 r9) 1)) (et rfl rfl)) ?_
  refine wpList_nil ?_
  refine k2 _ _ ?_
  refine seqQ fun Q3 k3 z3 => ?_
  refine seqQ fun Q4 k4 z4 => ?_
  refine wp_region_lit ?_
  refine Y wn rfl (ym (v := .int .i64 (ws .i64 (wa .i64 x5 r9) 1)) (et rfl rfl)) ?_
  refine Y wn rfl (ygeq (et rfl rfl) rfl) ?_
  refine wpList_nil ?_
  refine k4 _ _ ?_
  rcases iteS hM with ⟨c10, hM⟩ | ⟨c10, hM⟩
  · refine condT (et rfl rfl) (decide_eq_true c10) ?_
    refine seqQ fun Q5 k5 z5 => ?_
    refine wp_region_lit ?_
    refine Y wn rfl (ym (v := .bool x1) (et rfl rfl)) ?_
    refine Y wn rfl (ym (v := .int .i64 x7) (et rfl rfl)) ?_
    obtain ⟨r11, gr11, hM⟩ := bs hM
    refine Yc wn rfl (yCall FN_95 (a2 (et rfl rfl) (et rfl rfl))) (sparseref03_over_ok (hM := gr11) (hst := hst) ) ?_
    clear hst
    rintro _ w ⟨rfl, hst⟩
    refine ⟨_, rfl, ?_⟩
    refine Y wn rfl (ya (v := .int .u64 r11) (et rfl rfl)) ?_
    refine wpList_nil ?_
    refine k5 _ _ ?_
    refine wp_ret ?_
    refine z3 _ _ _ rfl ?_
    obtain rfl := someI hM
    exact hQ _ _ _ (fin1r Tryz.results64 ⟨rfl, rfl⟩ ⟨rfl, (hst.pk 1 [] rfl)⟩)
  · refine condF (et rfl rfl) (decide_eq_false c10) ?_
    refine wp_skip ?_
    refine k3 _ _ ?_
    refine seqQ fun Q6 k6 z6 => ?_
    refine wp_region_lit ?_
    refine Y wn rfl (ym (v := .int .i64 (ws .i64 (wa .i64 x5 r9) 1)) (et rfl rfl)) ?_
    refine Y wn rfl (ysub (et rfl rfl) rfl) ?_
    refine Y wn rfl (ymax (et rfl rfl) rfl) ?_
    refine Y wn rfl (ya (v := .int .i64 (imax (ws .i64 (ws .i64 (wa .i64 x5 r9) 1) 52) (-1074))) (et rfl rfl)) ?_
    refine wpList_nil ?_
    refine k6 _ _ ?_
    refine seqQ fun Q7 k7 z7 => ?_
    refine wp_region_lit ?_
    refine YB wn rfl (rAl hst ZT_82) ?_
    clear hst
    intro b12 w hst
    refine wpList_nil ?_
    refine k7 _ _ ?_
    refine seqQ fun Q8 k8 z8 => ?_
    refine seqQ fun Q9 k9 z9 => ?_
    refine wp_region_lit ?_
    refine Y wn rfl (ym (v := .int .i64 (imax (ws .i64 (ws .i64 (wa .i64 x5 r9) 1) 52) (-1074))) (et rfl rfl)) ?_
    refine Y wn rfl (ym (v := .int .i64 x5) (et rfl rfl)) ?_
    refine Y wn rfl (ygeq (et rfl rfl) (et rfl rfl)) ?_
    refine wpList_nil ?_
    refine k9 _ _ ?_
    have j1 : ∀ (x17 : Bool) (x19 : List Int) (h18 : Hdr) (f : Nat → Value) (w : World), f 0 = .bool x1 → f 4 = .int .i64 x7 → f 12 = .int .i64 (imax (ws .i64 (ws .i64 (wa .i64 x5 r9) 1) 52) (-1074)) → f 13 = .pointer (some ⟨b12, 0, none⟩) → St w0 (imm (rI .u32) h18.v x19 :: ros) (box b12 82 [.bool x17, h18.v] :: rs) w → sparseref03_rounded_j1 x1 x7 x5 r9 x17 x19 = some out → Q8 .normal (fr 82 f) w := by
      intro x17 x19 h18 f w ej1_0 ej1_4 ej1_12 ej1_13 hst hM
      refine k8 _ _ ?_
      refine seqQ fun Q10 k10 z10 => ?_
      refine wp_region_lit ?_
      refine Y wn rfl (yLbs (us := [.bool x17, h18.v]) ST_82 (et rfl ej1_13) hst mhR rfl rfl) ?_
      obtain ⟨r20, gr20, hM⟩ := bs hM
      refine Yc wn rfl (yCall FN_98 (a1 (et rfl rfl))) (sparseref01_Int_ok (hM := gr20) (hst := hst) (q1 := mhF)) ?_
      clear hst
      rintro _ w ⟨rfl, hst⟩
      refine ⟨_, rfl, ?_⟩
      refine Y wn rfl (ym (v := .tuple #[.int .i64 r20.1, .bool r20.2]) (et rfl rfl)) ?_
      refine Y wn rfl (yx (v := .int .i64 r20.1) (et rfl rfl) rfl) ?_
      refine Y wn rfl (yx (v := .bool r20.2) (et rfl rfl) rfl) ?_
      refine Y wn rfl (ya (v := .int .i64 r20.1) (et rfl rfl)) ?_
      refine Y wn rfl (ya (v := .bool r20.2) (et rfl rfl)) ?_
      refine wpList_nil ?_
      refine k10 _ _ ?_
      refine seqQ fun Q11 k11 z11 => ?_
      refine seqQ fun Q12 k12 z12 => ?_
      refine wp_region_lit ?_
      refine Y wn rfl (ym (v := .int .i64 r20.1) (et rfl rfl)) ?_
      refine Y wn rfl (yeql (et rfl rfl) rfl) ?_
      refine wpList_nil ?_
      refine k12 _ _ ?_
      have j2 : ∀ (x21 : Int) (x22 : Int) (f : Nat → Value) (w : World), f 0 = .bool x1 → f 4 = .int .i64 x7 → f 12 = .int .i64 x21 → f 14 = .int .i64 x22 → St w0 (ros) (rs) w → sparseref03_rounded_j2 x1 x7 x21 x22 = some out → Q11 .normal (fr 82 f) w := by
        intro x21 x22 f w ej2_0 ej2_4 ej2_12 ej2_14 hst hM
        refine k11 _ _ ?_
        refine seqQ fun Q14 k14 z14 => ?_
        refine blockQ fun Q15 qb15 => ?_
        refine seqQ fun Q16 k16 z16 => ?_
        refine wp_region_lit ?_
        refine Y wn rfl (ym (v := .int .i64 x22) (et rfl ej2_14)) ?_
        refine Y wn rfl (ygeq (et rfl rfl) rfl) ?_
        refine Y wn rfl (ym (v := .bool (decide ((4503599627370496 : Int) ≤ x22))) (et rfl rfl)) ?_
        refine joinW 4 (fun f w => f 0 = .bool x1 ∧ f 4 = .int .i64 x7 ∧ f 12 = .int .i64 x21 ∧ f 14 = .int .i64 x22 ∧ f 61 = .bool ((decide ((4503599627370496 : Int) ≤ x22)) && (decide ((1024 : Int) < (wa .i64 x21 53)))) ∧ St w0 (ros) (rs) w) (fun j3 => ?_) ?_
        · rcases Bool.eq_false_or_eq_true (decide ((4503599627370496 : Int) ≤ x22)) with c24 | c24
          · refine Y (wg rfl rfl rfl c24) rfl (ym (v := .int .i64 x21) (et rfl ej2_12)) ?_
            refine Y (wg rfl rfl rfl c24) rfl (yadd (et rfl rfl) rfl) ?_
            refine Y (wg rfl rfl rfl c24) rfl (ygtr (et rfl rfl) rfl) ?_
            refine Y wn rfl (ypt (v := .bool (decide ((1024 : Int) < (wa .i64 x21 53)))) (et rfl rfl) c24 (et rfl rfl)) ?_
            exact j3 _ _ ⟨ej2_0, ej2_4, ej2_12, ej2_14, (congrArg Value.bool (andT c24)), hst⟩
          · refine Gn (wx rfl rfl rfl c24) rfl ?_
            refine Gn (wx rfl rfl rfl c24) rfl ?_
            refine Gn (wx rfl rfl rfl c24) rfl ?_
            refine Y wn rfl (ypf (v := .bool false) (et rfl rfl) c24 rfl) ?_
            exact j3 _ _ ⟨ej2_0, ej2_4, ej2_12, ej2_14, (congrArg Value.bool (andF c24)), hst⟩
        clear hst
        rintro f w ⟨e23_0, e23_4, e23_12, e23_14, e23_61, hst⟩
        refine Y wn rfl (ya (v := .bool ((decide ((4503599627370496 : Int) ≤ x22)) && (decide ((1024 : Int) < (wa .i64 x21 53))))) (et rfl e23_61)) ?_
        refine wpList_nil ?_
        refine k16 _ _ ?_
        rcases iteS hM with ⟨c25, hM⟩ | ⟨c25, hM⟩
        · refine condT (et rfl rfl) c25 ?_
          refine seqQ fun Q17 k17 z17 => ?_
          refine wp_region_lit ?_
          refine Y wn rfl (ym (v := .bool x1) (et rfl e23_0)) ?_
          refine Y wn rfl (ym (v := .int .i64 x7) (et rfl e23_4)) ?_
          obtain ⟨r26, gr26, hM⟩ := bs hM
          refine Yc wn rfl (yCall FN_95 (a2 (et rfl rfl) (et rfl rfl))) (sparseref03_over_ok (hM := gr26) (hst := hst) ) ?_
          clear hst
          rintro _ w ⟨rfl, hst⟩
          refine ⟨_, rfl, ?_⟩
          refine Y wn rfl (ya (v := .int .u64 r26) (et rfl rfl)) ?_
          refine wpList_nil ?_
          refine k17 _ _ ?_
          refine wp_ret ?_
          refine qb15 _ _ _ ?_
          refine z14 _ _ _ rfl ?_
          obtain rfl := someI hM
          exact hQ _ _ _ (fin1r Tryz.results64 ⟨rfl, rfl⟩ ⟨rfl, hst⟩)
        · refine condF (et rfl rfl) (bfalse c25) ?_
          refine seqQ fun Q18 k18 z18 => ?_
          refine wp_region_lit ?_
          refine Y wn rfl (ym (v := .int .i64 x22) (et rfl e23_14)) ?_
          refine Y wn rfl (ygeq (et rfl rfl) rfl) ?_
          refine Y wn rfl (ya (v := .bool (decide ((4503599627370496 : Int) ≤ x22))) (et rfl rfl)) ?_
          refine wpList_nil ?_
          refine k18 _ _ ?_
          rcases iteS hM with ⟨c27, hM⟩ | ⟨c27, hM⟩
          · refine condT (et rfl rfl) (decide_eq_true c27) ?_
            refine seqQ fun Q19 k19 z19 => ?_
            refine wp_region_lit ?_
            refine Y wn rfl (ym (v := .bool x1) (et rfl e23_0)) ?_
            refine Y wn rfl (ym (v := .int .i64 x21) (et rfl e23_12)) ?_
            refine Y wn rfl (yadd (et rfl rfl) rfl) ?_
            refine Y wn rfl (ycv (k' := .u64) (by kernel_rfl) (by kernel_rfl) (et rfl rfl)) ?_
            refine Y wn rfl (yshlc (et rfl rfl) rfl) ?_
            refine Y wn rfl (ym (v := .int .i64 x22) (et rfl e23_14)) ?_
            refine Y wn rfl (ysub (et rfl rfl) rfl) ?_
            refine Y wn rfl (ycv (k' := .u64) (by kernel_rfl) (by kernel_rfl) (et rfl rfl)) ?_
            refine Y wn rfl (yor (et rfl rfl) (et rfl rfl)) ?_
            obtain ⟨r28, gr28, hM⟩ := bs hM
            refine Yc wn rfl (yCall FN_99 (a2 (et rfl rfl) (et rfl rfl))) (sparseref03_signed_ok (hM := gr28) (hst := hst) ) ?_
            clear hst
            rintro _ w ⟨rfl, hst⟩
            refine ⟨_, rfl, ?_⟩
            refine Y wn rfl (ya (v := .int .u64 r28) (et rfl rfl)) ?_
            refine wpList_nil ?_
            refine k19 _ _ ?_
            refine wp_ret ?_
            refine qb15 _ _ _ ?_
            refine z14 _ _ _ rfl ?_
            obtain rfl := someI hM
            exact hQ _ _ _ (fin1r Tryz.results64 ⟨rfl, rfl⟩ ⟨rfl, hst⟩)
          · refine condF (et rfl rfl) (decide_eq_false c27) ?_
            refine wp_skip ?_
            refine qb15 _ _ _ ?_
            refine k14 _ _ ?_
            refine seqQ fun Q20 k20 z20 => ?_
            refine wp_region_lit ?_
            refine Y wn rfl (ym (v := .bool x1) (et rfl e23_0)) ?_
            refine Y wn rfl (ym (v := .int .i64 x22) (et rfl e23_14)) ?_
            refine Y wn rfl (ycv (k' := .u64) (by kernel_rfl) (by kernel_rfl) (et rfl rfl)) ?_
            obtain ⟨r29, gr29, hM⟩ := bs hM
            refine Yc wn rfl (yCall FN_99 (a2 (et rfl rfl) (et rfl rfl))) (sparseref03_signed_ok (hM := gr29) (hst := hst) ) ?_
            clear hst
            rintro _ w ⟨rfl, hst⟩
            refine ⟨_, rfl, ?_⟩
            refine Y wn rfl (ya (v := .int .u64 r29) (et rfl rfl)) ?_
            refine wpList_nil ?_
            refine k20 _ _ ?_
            refine wp_ret ?_
            obtain rfl := someI hM
            exact hQ _ _ _ (fin1r Tryz.results64 ⟨rfl, rfl⟩ ⟨rfl, hst⟩)
      rcases iteS hM with ⟨c30, hM⟩ | ⟨c30, hM⟩
      · refine condT (et rfl rfl) (decide_eq_true c30) ?_
        refine seqQ fun Q21 k21 z21 => ?_
        refine wp_region_lit ?_
        refine Y wn rfl (ya (v := .int .i64 4503599627370496) rfl) ?_
        refine wpList_nil ?_
        refine k21 _ _ ?_
        refine wp_region_lit ?_
        refine Y wn rfl (ym (v := .int .i64 (imax (ws .i64 (ws .i64 (wa .i64 x5 r9) 1) 52) (-1074))) (et rfl ej1_12)) ?_
        refine Y wn rfl (yadd (et rfl rfl) rfl) ?_
        refine Y wn rfl (ya (v := .int .i64 (wa .i64 (imax (ws .i64 (ws .i64 (wa .i64 x5 r9) 1) 52) (-1074)) 1)) (et rfl rfl)) ?_
        refine wpList_nil ?_
        exact j2 _ _ _ _ ej1_0 ej1_4 rfl rfl ((hst.pk 1 [] rfl).facts (allT allI)) hM
      · refine condF (et rfl rfl) (decide_eq_false c30) ?_
        refine wp_skip ?_
        exact j2 _ _ _ _ ej1_0 ej1_4 ej1_12 rfl ((hst.pk 1 [] rfl).facts (allT allI)) hM
    rcases iteS hM with ⟨c31, hM⟩ | ⟨c31, hM⟩
    · refine condT (et rfl rfl) (decide_eq_true c31) ?_
      refine wp_region_lit ?_
      refine Y wn rfl (ym (v := .bool x1) (et rfl rfl)) ?_
      refine Y wn rfl (yLbs (us := [.bool x2, h4.v]) ST_82 (et rfl rfl) hst (mtR mhR) rfl rfl) ?_
      refine Y wn rfl (ym (v := .int .i64 (imax (ws .i64 (ws .i64 (wa .i64 x5 r9) 1) 52) (-1074))) (et rfl rfl)) ?_
      refine Y wn rfl (ym (v := .int .i64 x5) (et rfl rfl)) ?_
      refine Y wn rfl (ysub (et rfl rfl) (et rfl rfl)) ?_
      refine Y wn rfl (ym (v := .bool x6) (et rfl rfl)) ?_
      refine Y wn rfl (ym (v := .int .i64 x7) (et rfl rfl)) ?_
      obtain ⟨r32, gr32, hM⟩ := bs hM
      refine Yc wn rfl (yCall FN_96 (a5 (et rfl rfl) (et rfl rfl) (et rfl rfl) (et rfl rfl) (et rfl rfl))) (sparseref02_Cut_ok (hM := gr32) (hst := hst) (q1 := q1) (q2 := q2)) ?_
      clear hst
      rintro _ w ⟨h33, rfl, hst⟩
      refine ⟨_, rfl, ?_⟩
      refine YT wn rfl (r_stbn (vals' := [.bool r32.1, h33.v]) (us := [.bool r32.1, h33.v]) hst ST_82 (et rfl rfl) (et rfl rfl) rfl rfl (one_of rfl) rfl) ?_
      clear hst
      intro w hst
      refine wpList_nil ?_
      exact j1 _ _ _ _ _ rfl rfl rfl rfl (hst.pk 2 [0] rfl) hM
    · refine condF (et rfl rfl) (decide_eq_false c31) ?_
      refine wp_region_lit ?_
      refine Y wn rfl (yLbs (us := [.bool x2, h4.v]) ST_82 (et rfl rfl) hst (mtR mhR) rfl rfl) ?_
      refine Y wn rfl (ym (v := .int .i64 x5) (et rfl rfl)) ?_
      refine Y wn rfl (ym (v := .int .i64 (imax (ws .i64 (ws .i64 (wa .i64 x5 r9) 1) 52) (-1074))) (et rfl rfl)) ?_
      refine Y wn rfl (ysub (et rfl rfl) (et rfl rfl)) ?_
      obtain ⟨r34, gr34, hM⟩ := bs hM
      refine Yc wn rfl (yCall FN_97 (a2 (et rfl rfl) (et rfl rfl))) (sparseref01_Shift_ok (hM := gr34) (hst := hst) (q1 := q1)) ?_
      clear hst
      rintro _ w ⟨h35, rfl, hst⟩
      refine ⟨_, rfl, ?_⟩
      replace hst := hst.pk 2 [1, 0] rfl
      refine YT wn rfl (r_stbn (vals' := [.bool r34.1, h35.v]) (us := [.bool r34.1, h35.v]) hst ST_82 (et rfl rfl) (et rfl rfl) rfl rfl (one_of rfl) rfl) ?_
      clear hst
      intro w hst
      refine wpList_nil ?_
      replace hst := hst.pk 2 [1, 0] rfl
      replace hst := hst.fz
      exact j1 _ _ _ _ _ rfl rfl rfl rfl (hst.pk 2 [0] rfl) hM

theorem sparseref03_Round_ok {w0 : World} {ros : List Fact} {rs : List Res} {w : World} {x1 : Bool} {x2 : Bool} {x3 : List Int} {x5 : Int} {x6 : Int} {h4 : Hdr} {out : Int} (hM : sparseref03_Round x1 x2 x3 x5 x6 = some out) (q1 : imm (rI .u32) h4.v x3 ∈ ros) (q2 : globF ∈ ros) (hst : St w0 ros (rs) w) :
    Calls Tryz.prog 45 #[.agg #[.bool x1, .bool x2, h4.v, .int .i64 x5], .int .i64 x6] w (fun e w => e = .returned (.int .u64 out) ∧ St w0 (ros) (rs) w) := by
  refine enterQ Tryz.func45 rfl Tryz.ntmps45 rfl fun Q hQ => ?_
  refine seqQ fun Q1 k1 z1 => ?_
  refine wp_region_lit ?_
  refine YB wn rfl (r_box (vals := [.bool x1, .bool x2, h4.v, .int .i64 x5]) hst (et rfl rfl) rfl) ?_
  clear hst
  intro b7 w hst
  refine Y wn rfl (ya (v := .int .u64 0) rfl) ?_
  refine wpList_nil ?_
  refine k1 _ _ ?_
  refine seqQ fun Q2 k2 z2 => ?_
  refine wp_region_lit ?_
  refine Y wn rfl (yLbs (us := [.bool x1, .bool x2, h4.v, .int .i64 x5]) ST_84 (et rfl rfl) hst mhR rfl rfl) ?_
  obtain ⟨r8, gr8, hM⟩ := bs hM
  refine Yc wn rfl (yCall FN_62 (a1 (et rfl rfl))) (sparseref02_Norm_ok (hM := gr8) (hst := hst) (q1 := q1) (q2 := q2)) ?_
  clear hst
  rintro _ w ⟨h9, rfl, hst⟩
  refine ⟨_, rfl, ?_⟩
  refine YT wn rfl (r_stbn (vals' := [.bool r8.1, .bool r8.2.1, h9.v, .int .i64 r8.2.2.2]) (us := [.bool r8.1, .bool r8.2.1, h9.v, .int .i64 r8.2.2.2]) hst ST_84 (et rfl rfl) (et rfl rfl) rfl rfl (one_of rfl) rfl) ?_
  clear hst
  intro w hst
  refine wpList_nil ?_
  refine k2 _ _ ?_
  refine seqQ fun Q3 k3 z3 => ?_
  refine seqQ fun Q4 k4 z4 => ?_
  refine wp_region_lit ?_
  refine Y wn rfl (yFb FL_84_0 (et rfl rfl)) ?_
  refine Y wn rfl (yLb (u := .bool r8.1) O_4 (et rfl rfl) hst mhR rfl) ?_
  refine wpList_nil ?_
  refine k4 _ _ ?_
  rcases iteS hM with ⟨c10, hM⟩ | ⟨c10, hM⟩
  · refine condT (et rfl rfl) c10 ?_
    refine seqQ fun Q5 k5 z5 => ?_
    refine wp_region_lit ?_
    refine Y wn rfl (ya (v := .int .u64 9221120237041090560) rfl) ?_
    refine wpList_nil ?_
    refine k5 _ _ ?_
    refine wp_ret ?_
    refine z3 _ _ _ rfl ?_
    obtain rfl := someI hM
    exact hQ _ _ _ (fin1r Tryz.results45 ⟨rfl, rfl⟩ ⟨rfl, ((hst.pk 1 [] rfl).facts (allT allI))⟩)
  · refine condF (et rfl rfl) (bfalse c10) ?_
    refine wp_skip ?_
    refine k3 _ _ ?_
    refine seqQ fun Q6 k6 z6 => ?_
    refine seqQ fun Q7 k7 z7 => ?_
    refine wp_region_lit ?_
    refine Y wn rfl (yFb FL_84_1 (et rfl rfl)) ?_
    refine Y wn rfl (yLbs (us := [.bool r8.2.1, h9.v]) ST_82 (et rfl rfl) hst mhR rfl rfl) ?_
    obtain ⟨r11, gr11, hM⟩ := bs hM
    refine Yc wn rfl (yCall FN_63 (a1 (et rfl rfl))) (sparseref01_Sign_ok (hM := gr11) (hst := hst) (q1 := mhF)) ?_
    clear hst
    rintro _ w ⟨rfl, hst⟩
    refine ⟨_, rfl, ?_⟩
    refine Y wn rfl (yeql (et rfl rfl) rfl) ?_
    refine wpList_nil ?_
    refine k7 _ _ ?_
    rcases iteS hM with ⟨c12, hM⟩ | ⟨c12, hM⟩
    · refine condT (et rfl rfl) (decide_eq_true c12) ?_
      refine seqQ fun Q8 k8 z8 => ?_
      refine wp_region_lit ?_
      refine Y wn rfl (ya (v := .int .u64 0) rfl) ?_
      refine wpList_nil ?_
      refine k8 _ _ ?_
      refine wp_ret ?_
      refine z6 _ _ _ rfl ?_
      obtain rfl := someI hM
      exact hQ _ _ _ (fin1r Tryz.results45 ⟨rfl, rfl⟩ ⟨rfl, ((hst.pk 1 [] rfl).facts (allT allI))⟩)
    · refine condF (et rfl rfl) (decide_eq_false c12) ?_
      refine wp_skip ?_
      refine k6 _ _ ?_
      refine seqQ fun Q9 k9 z9 => ?_
      obtain ⟨r13, gr13, hM⟩ := bs hM
      obtain ⟨r15, gr15, hM⟩ := bs hM
      refine wp_drawR [0, 1, 3, 0, 8, 24, 0, 64, 0, 511, 1023] [5, 9, 10] 3 folM (by kernel_rfl) (by kernel_rfl) (by kernel_rfl) ?_
      replace hst := hst.drew
      refine DRn (l1 := [0, 1, 2, 3, 4, 6, 7, 8]) (l2 := []) (lc := [5]) (by kernel_rfl) (by kernel_rfl) (by kernel_rfl) ?_
      refine Ry rfl rfl wn (yFb FL_84_1 (et rfl rfl)) ?_
      refine Ry rfl rfl wn (yFb FL_82_0 (et rfl rfl)) ?_
      refine Ry rfl rfl wn (yLb (u := .bool r8.2.1) O_4 (et rfl rfl) hst mhR rfl) ?_
      refine Ry rfl rfl wn (yFb FL_84_1 (et rfl rfl)) ?_
      refine Ry rfl rfl wn (yLbs (us := [.bool r8.2.1, h9.v]) ST_82 (et rfl rfl) hst mhR rfl rfl) ?_
      refine Ry rfl rfl wn (yFb FL_84_2 (et rfl rfl)) ?_
      refine Ry rfl rfl wn (yLb (u := .int .i64 r8.2.2.2) O_3 (et rfl rfl) hst mhR rfl) ?_
      refine Ry rfl rfl wn (ym (v := .int .i64 x6) (et rfl rfl)) ?_
      refine Rn QSn ?_
      refine Lc rfl ?_ LAn
      refine Lk wn (yCall FN_65 (a1 (et rfl rfl))) (sparseref01_Abs_ok (hM := gr13) (hst := hst) (q1 := mhF)) ?_
      clear hst
      rintro _ w ⟨h14, rfl, hst⟩
      refine ⟨_, rfl, ?_⟩
      refine DRn (l1 := []) (l2 := [0, 1, 2, 6, 7, 8]) (lc := [9]) (by kernel_rfl) (by kernel_rfl) (by kernel_rfl) ?_
      refine Rn (Sy rfl rfl wn (yFb FL_84_1 (et rfl rfl)) rfl (Sy rfl rfl wn (yFb FL_82_0 (et rfl rfl)) rfl (Sy rfl rfl wn (yLb (u := .bool r8.2.1) O_4 (et rfl rfl) hst (mtR mhR) rfl) rfl (Sy rfl rfl wn (yFb FL_84_2 (et rfl rfl)) rfl (Sy rfl rfl wn (yLb (u := .int .i64 r8.2.2.2) O_3 (et rfl rfl) hst (mtR mhR) rfl) rfl (Sy rfl rfl wn (ym (v := .int .i64 x6) (et rfl rfl)) rfl QSn)))))) ?_
      refine Lc rfl ?_ LAn
      replace hst := hst.fz
      refine Lk wn (yCall FN_64 (a5 (et rfl rfl) (et rfl rfl) (et rfl rfl) rfl (et rfl rfl))) (sparseref03_rounded_ok (hM := gr15) (hst := hst) (q1 := mhF) (q2 := (mtF (mtF q2)))) ?_
      clear hst
      rintro _ w ⟨rfl, hst⟩
      refine ⟨_, rfl, ?_⟩
      refine DRn (l1 := []) (l2 := []) (lc := [10]) (by kernel_rfl) (by kernel_rfl) (by kernel_rfl) ?_
      refine Rn QSn ?_
      refine Lc rfl ?_ LAn
      refine Ly wn (ya (v := .int .u64 r15) (et rfl rfl)) ?_
      refine DRz (l1 := []) (l2 := []) (by kernel_rfl) (by kernel_rfl) ?_
      refine Rn QSn ?_
      refine k9 _ _ ?_
      refine wp_ret ?_
      obtain rfl := someI hM
      exact hQ _ _ _ (fin1r Tryz.results45 ⟨rfl, rfl⟩ ⟨rfl, ((hst.pk 1 [] rfl).facts (allT (allT allI)))⟩)

theorem sparsemake_Value_ok {w0 : World} {ros : List Fact} {rs : List Res} {w : World} {x1 : Int} {out : Int} (hM : sparsemake_Value x1 = some out) (q1 : globF ∈ ros) (hst : St w0 ros (rs) w) :
    Calls Tryz.prog 23 #[.int .i64 x1] w (fun e w => e = .returned (.int .u64 out) ∧ St w0 (ros) (rs) w) := by
  refine enterQ Tryz.func23 rfl Tryz.ntmps23 rfl fun Q hQ => ?_
  refine seqQ fun Q1 k1 z1 => ?_
  refine wp_region_lit ?_
  refine Y wn rfl (ya (v := .int .u64 0) rfl) ?_
  refine wpList_nil ?_
  refine k1 _ _ ?_
  refine seqQ fun Q2 k2 z2 => ?_
  refine wp_region_lit ?_
  refine Y wn rfl (ym (v := .int .i64 x1) (et rfl rfl)) ?_
  obtain ⟨r2, gr2, hM⟩ := bs hM
  refine Yc wn rfl (yCall FN_6 (a2 (et rfl rfl) rfl)) (sparsekit_Place_ok (hM := gr2) (hst := hst) ) ?_
  clear hst
  rintro _ w ⟨rfl, hst⟩
  refine ⟨_, rfl, ?_⟩
  refine Y wn rfl (ysub (et rfl rfl) rfl) ?_
  refine Y wn rfl (ya (v := .int .i64 (ws .i64 r2 8)) (et rfl rfl)) ?_
  refine wpList_nil ?_
  refine k2 _ _ ?_
  refine seqQ fun Q3 k3 z3 => ?_
  refine wp_region_lit ?_
  refine Y wn rfl (ya (v := .int .i64 0) rfl) ?_
  refine wpList_nil ?_
  refine k3 _ _ ?_
  refine seqQ fun Q4 k4 z4 => ?_
  refine seqQ fun Q5 k5 z5 => ?_
  refine wp_region_lit ?_
  refine Y wn rfl (ym (v := .int .i64 x1) (et rfl rfl)) ?_
  refine Y wn rfl (ycv (k' := .u64) (by kernel_rfl) (by kernel_rfl) (et rfl rfl)) ?_
  refine Y wn rfl (yquoc (et rfl rfl) rfl (by decide)) ?_
  refine Y wn rfl (ycv (k' := .i64) (by kernel_rfl) (by kernel_rfl) (et rfl rfl)) ?_
  refine Y wn rfl (ya (v := .int .i64 (wc .i64 (wqc .u64 (wc .u64 x1) 17))) (et rfl rfl)) ?_
  refine wpList_nil ?_
  refine k5 _ _ ?_
  refine seqQ fun Q6 k6 z6 => ?_
  refine wp_region_lit ?_
  refine Y wn rfl (ym (v := .int .i64 (wc .i64 (wqc .u64 (wc .u64 x1) 17))) (et rfl rfl)) ?_
  refine Y wn rfl (yremc (et rfl rfl) rfl (by decide)) ?_
  refine Y wn rfl (yeql (et rfl rfl) rfl) ?_
  refine wpList_nil ?_
  refine k6 _ _ ?_
  have j1 : ∀ (x3 : Int) (f : Nat → Value) (w : World), f 3 = .int .i64 (ws .i64 r2 8) → f 4 = .int .i64 x3 → St w0 (ros) (rs) w → sparsemake_Value_j1 r2 x3 = some out → Q4 .normal (fr 25 f) w := by
    intro x3 f w ej1_3 ej1_4 hst hM
    refine k4 _ _ ?_
    refine seqQ fun Q7 k7 z7 => ?_
    refine wp_region_lit ?_
    refine Y wn rfl (ym (v := .int .i64 (ws .i64 r2 8)) (et rfl ej1_3)) ?_
    obtain ⟨r4, gr4, hM⟩ := bs hM
    refine Yc wn rfl (yCall FN_47 (a1 (et rfl rfl))) (sparseref02_FromInt_ok (hM := gr4) (hst := hst) (q1 := q1)) ?_
    clear hst
    rintro _ w ⟨h5, rfl, hst⟩
    refine ⟨_, rfl, ?_⟩
    refine Y wn rfl (ym (v := .int .i64 x3) (et rfl ej1_4)) ?_
    obtain ⟨r6, gr6, hM⟩ := bs hM
    refine Yc wn rfl (yCall FN_46 (a2 (et rfl rfl) (et rfl rfl))) (sparseref02_Scale_ok (hM := gr6) (hst := hst) (q1 := mhF) (q2 := (mtF q1))) ?_
    clear hst
    rintro _ w ⟨h7, rfl, hst⟩
    refine ⟨_, rfl, ?_⟩
    obtain ⟨r8, gr8, hM⟩ := bs hM
    refine Yc wn rfl (yCall FN_45 (a2 (et rfl rfl) rfl)) (sparseref03_Round_ok (hM := gr8) (hst := hst) (q1 := mhF) (q2 := (mtF (mtF q1)))) ?_
    clear hst
    rintro _ w ⟨rfl, hst⟩
    refine ⟨_, rfl, ?_⟩
    refine Y wn rfl (ya (v := .int .u64 r8) (et rfl rfl)) ?_
    refine wpList_nil ?_
    refine k7 _ _ ?_
    refine wp_ret ?_
    obtain rfl := someI hM
    exact hQ _ _ _ (fin1r Tryz.results23 ⟨rfl, rfl⟩ ⟨rfl, (hst.facts (allT (allT allI)))⟩)
  rcases iteS hM with ⟨c9, hM⟩ | ⟨c9, hM⟩
  · refine condT (et rfl rfl) (decide_eq_true c9) ?_
    refine wp_region_lit ?_
    refine Y wn rfl (ym (v := .int .i64 (wc .i64 (wqc .u64 (wc .u64 x1) 17))) (et rfl rfl)) ?_
    refine Y wn rfl (yquoc (et rfl rfl) rfl (by decide)) ?_
    refine Y wn rfl (yremc (et rfl rfl) rfl (by decide)) ?_
    refine Y wn rfl (ysub (et rfl rfl) rfl) ?_
    refine Y wn rfl (ya (v := .int .i64 (ws .i64 (wrc (wqc .i64 (wc .i64 (wqc .u64 (wc .u64 x1) 17)) 3) 13) 6)) (et rfl rfl)) ?_
    refine wpList_nil ?_
    exact j1 _ _ _ rfl rfl hst hM
  · refine condF (et rfl rfl) (decide_eq_false c9) ?_
    refine wp_skip ?_
    exact j1 _ _ _ rfl rfl hst hM

theorem sparseref09_Pack_ok {w0 : World} {ros : List Fact} {rs : List Res} {w : World} {x1 : Int} {x2 : Int} {x3 : List (Int × Int × Int)} {h4 : Hdr} {out : Int × Int × (List Int) × (List Int) × (List Int)} (hM : sparseref09_Pack x1 x2 x3 = some out) (q1 : imm rTi64i64u64 h4.v x3 ∈ ros) (hst : St w0 ros (rs) w) :
    Calls Tryz.prog 24 #[.int .i64 x1, .int .i64 x2, h4.v] w (fun e w => ∃ (h100003 : Hdr) (h100005 : Hdr) (h100007 : Hdr), e = .returned (.agg #[.int .i64 out.1, .int .i64 out.2.1, h100003.v, h100005.v, h100007.v]) ∧ St w0 (ros) (row 3 (rI .i64) h100003.v out.2.2.1 :: row 3 (rI .i64) h100005.v out.2.2.2.1 :: row 46 (rI .u64) h100007.v out.2.2.2.2 :: rs) w) := by
  refine enterQ Tryz.func24 rfl Tryz.ntmps24 rfl fun Q hQ => ?_
  refine seqQ fun Q1 k1 z1 => ?_
  refine wp_region_lit ?_
  refine YB wn rfl (rAl hst ZT_27) ?_
  clear hst
  intro b5 w hst
  refine wpList_nil ?_
  refine k1 _ _ ?_
  refine seqQ fun Q2 k2 z2 => ?_
  refine wp_region_lit ?_
  refine Y wn rfl (ym (v := .int .i64 x1) (et rfl rfl)) ?_
  refine Y wn rfl (ym (v := .int .i64 x2) (et rfl rfl)) ?_
  refine YH wn rfl (rLt (n := 1) (l := [0]) hst SL_22 [.int .i64 0] (bp1 rfl) rfl rfl (mks1 (cs := [.int .i64 0]) rfl mkI mks0)) ?_
  clear hst
  intro h6 w hst
  refine Y wn rfl (ybuild (us := [.int .i64 x1, .int .i64 x2, h6.v, hnil.v, hnil.v]) [(0, .int .i64 x1), (1, .int .i64 x2), (2, h6.v)] SO_27 (bp3 (et rfl rfl) (et rfl rfl) (et rfl rfl)) rfl) ?_
  refine YB wn rfl (rAl hst ZT_27) ?_
  clear hst
  intro b7 w hst
  refine YT wn rfl (r_stbn (vals' := [.int .i64 x1, .int .i64 x2, h6.v, hnil.v, hnil.v]) (us := [.int .i64 x1, .int .i64 x2, h6.v, hnil.v, hnil.v]) hst ST_27 (et rfl rfl) (et rfl rfl) rfl rfl (one_of rfl) rfl) ?_
  clear hst
  intro w hst
  refine wpList_nil ?_
  refine k2 _ _ ?_
  refine seqQ fun Q3 k3 z3 => ?_
  refine wp_region_lit ?_
  refine Y wn rfl (ym (v := .int .i64 x1) (et rfl rfl)) ?_
  refine Y wn rfl (ym (v := .int .i64 x2) (et rfl rfl)) ?_
  refine Y wn rfl (ymul (et rfl rfl) (et rfl rfl)) ?_
  obtain ⟨x10, gx10, hM⟩ := bs hM
  refine YH wn rfl (rMk hst SL_22 (et rfl rfl) gx10) ?_
  clear hst
  intro h8 w hst
  refine Y wn rfl (ya (v := h8.v) (et rfl rfl)) ?_
  refine wpList_nil ?_
  refine k3 _ _ ?_
  refine seqQ fun Q4 k4 z4 => ?_
  refine seqQ fun Q5 k5 z5 => ?_
  refine wp_region_lit ?_
  refine Y wn rfl (ya (v := .int .i64 0) rfl) ?_
  refine wpList_nil ?_
  refine k5 _ _ ?_
  refine blockQ fun Q6 qb6 => ?_
  obtain ⟨o1, go1, hM⟩ := bs hM
  have je1_0 : ∀ (x23 : List Int) (f : Nat → Value) (w : World), f 0 = .int .i64 x1 → f 1 = .int .i64 x2 → f 2 = h4.v → f 6 = .pointer (some ⟨b5, 0, none⟩) → f 7 = .pointer (some ⟨b7, 0, none⟩) → f 8 = h8.v → St w0 (ros) (box b5 27 [.int .i64 0, .int .i64 0, hnil.v, hnil.v, hnil.v] :: row 3 (rI .i64) h6.v [0] :: box b7 27 [.int .i64 x1, .int .i64 x2, h6.v, hnil.v, hnil.v] :: row 3 (rI .i64) h8.v x23 :: rs) w → x23 = o1 → Q6 (.exit 0) (fr 90 f) w := by
    intro x23 f w eje1_0_0 eje1_0_1 eje1_0_2 eje1_0_6 eje1_0_7 eje1_0_8 hst ho
    subst ho
    refine qb6 _ _ _ ?_
    refine k4 _ _ ?_
    refine seqQ fun Q15 k15 z15 => ?_
    refine seqQ fun Q16 k16 z16 => ?_
    refine wp_region_lit ?_
    refine Y wn rfl (ya (v := .int .i64 0) rfl) ?_
    refine wpList_nil ?_
    refine k16 _ _ ?_
    refine blockQ fun Q17 qb17 => ?_
    obtain ⟨o10, go10, hM⟩ := bs hM
    have je10_0 : ∀ (x201 : List Int) (x203 : List Int) (x205 : List Int) (h200 : Hdr) (h202 : Hdr) (h204 : Hdr) (f : Nat → Value) (w : World), f 6 = .pointer (some ⟨b5, 0, none⟩) → f 7 = .pointer (some ⟨b7, 0, none⟩) → St w0 (ros) (box b5 27 [.int .i64 0, .int .i64 0, hnil.v, hnil.v, hnil.v] :: row 3 (rI .i64) h200.v x201 :: row 3 (rI .i64) h202.v x203 :: row 46 (rI .u64) h204.v x205 :: box b7 27 [.int .i64 x1, .int .i64 x2, h200.v, h202.v, h204.v] :: rs) w → (x201, x203, x205) = o10 → Q17 (.exit 2) (fr 90 f) w := by
      intro x201 x203 x205 h200 h202 h204 f w eje10_0_6 eje10_0_7 hst ho
      subst ho
      refine qb17 _ _ _ ?_
      refine k15 _ _ ?_
      refine seqQ fun Q80 k80 z80 => ?_
      refine wp_region_lit ?_
      refine Y wn rfl (yLbs (us := [.int .i64 x1, .int .i64 x2, h200.v, h202.v, h204.v]) ST_27 (et rfl eje10_0_7) hst (mtR (mtR (mtR (mtR mhR)))) rfl rfl) ?_
      refine YT wn rfl (r_stbn (vals' := [.int .i64 x1, .int .i64 x2, h200.v, h202.v, h204.v]) (us := [.int .i64 x1, .int .i64 x2, h200.v, h202.v, h204.v]) hst ST_27 (et rfl eje10_0_6) (et rfl rfl) rfl rfl (one_of rfl) rfl) ?_
      clear hst
      intro w hst
      refine wpList_nil ?_
      refine k80 _ _ ?_
      refine wp_ret ?_
      obtain rfl := someI hM
      exact hQ _ _ _ (fin1r Tryz.results24 (rcs2 rfl eje10_0_6 hst mhR ST_27 rfl) ⟨_, _, _, rfl, (hst.pk 5 [1, 1, 1] rfl)⟩)
    replace hst := hst.rowNh 3 (rI .i64)
    replace hst := hst.rowNh 46 (rI .u64)
    refine loopQ (fun s a w => ∃ (x106 : List Int) (x108 : List Int) (x110 : List Int) (x111 : Int) (f : Nat → Value) (h105 : Hdr) (h107 : Hdr) (h109 : Hdr), (x106, x108, x110, x111) = s ∧ a = fr 90 f ∧ f 0 = .int .i64 x1 ∧ f 1 = .int .i64 x2 ∧ f 2 = h4.v ∧ f 6 = .pointer (some ⟨b5, 0, none⟩) ∧ f 7 = .pointer (some ⟨b7, 0, none⟩) ∧ f 8 = h8.v ∧ f 10 = .int .i64 x111 ∧ St w0 (ros) (box b5 27 [.int .i64 0, .int .i64 0, hnil.v, hnil.v, hnil.v] :: row 3 (rI .i64) h105.v x106 :: row 3 (rI .i64) h107.v x108 :: row 46 (rI .u64) h109.v x110 :: box b7 27 [.int .i64 x1, .int .i64 x2, h105.v, h107.v, h109.v] :: row 3 (rI .i64) h8.v x23 :: rs) w) go10 ⟨_, _, _, _, _, _, _, _, rfl, rfl, eje1_0_0, eje1_0_1, eje1_0_2, eje1_0_6, eje1_0_7, eje1_0_8, rfl, (hst.pk 6 [2, 2, 1, 0, 0, 0] rfl)⟩ ?_
    clear hst
    rintro _ _ w r10_ ⟨x106, x108, x110, x111, f, h105, h107, h109, rfl, rfl, e10_0, e10_1, e10_2, e10_6, e10_7, e10_8, e10_10, hst⟩ hM10 ho10 Q100010 n10 zz10
    refine seqQ fun Q81 k81 z81 => ?_
    refine seqQ fun Q82 k82 z82 => ?_
    refine wp_region_lit ?_
    refine Y wn rfl (ym (v := .int .i64 x111) (et rfl e10_10)) ?_
    refine Y wn rfl (ym (v := .int .i64 x2) (et rfl e10_1)) ?_
    refine Y wn rfl (ylss (et rfl rfl) (et rfl rfl)) ?_
    refine wpList_nil ?_
    refine k82 _ _ ?_
    rcases iteS hM10 with ⟨c206, hM10⟩ | ⟨c206, hM10⟩
    · refine condT (et rfl rfl) (decide_eq_true c206) ?_
      refine wp_skip ?_
      refine k81 _ _ ?_
      refine seqQ fun Q83 k83 z83 => ?_
      refine blockQ fun Q84 qb84 => ?_
      refine seqQ fun Q85 k85 z85 => ?_
      refine seqQ fun Q86 k86 z86 => ?_
      refine wp_region_lit ?_
      refine Y wn rfl (ya (v := .int .i64 0) rfl) ?_
      refine wpList_nil ?_
      refine k86 _ _ ?_
      refine blockQ fun Q87 qb87 => ?_
      obtain ⟨o13, go13, hM10⟩ := bs hM10
      have je13_0 : ∀ (x260 : List Int) (x262 : List Int) (h259 : Hdr) (h261 : Hdr) (f : Nat → Value) (w : World), f 0 = .int .i64 x1 → f 1 = .int .i64 x2 → f 2 = h4.v → f 6 = .pointer (some ⟨b5, 0, none⟩) → f 7 = .pointer (some ⟨b7, 0, none⟩) → f 8 = h8.v → f 10 = .int .i64 x111 → St w0 (ros) (box b5 27 [.int .i64 0, .int .i64 0, hnil.v, hnil.v, hnil.v] :: row 3 (rI .i64) h105.v x106 :: row 3 (rI .i64) h259.v x260 :: row 46 (rI .u64) h261.v x262 :: box b7 27 [.int .i64 x1, .int .i64 x2, h105.v, h259.v, h261.v] :: row 3 (rI .i64) h8.v x23 :: rs) w → (x260, x262) = o13 → Q87 (.exit 4) (fr 90 f) w := by
        intro x260 x262 h259 h261 f w eje13_0_0 eje13_0_1 eje13_0_2 eje13_0_6 eje13_0_7 eje13_0_8 eje13_0_10 hst ho
        subst ho
        refine qb87 _ _ _ ?_
        refine k85 _ _ ?_
        refine wp_region_lit ?_
        refine Y wn rfl (yFb FL_27_2 (et rfl eje13_0_7)) ?_
        refine Y wn rfl (yLb (u := h105.v) O_22 (et rfl rfl) hst (mtR (mtR (mtR (mtR mhR)))) rfl) ?_
        refine Y wn rfl (yFb FL_27_3 (et rfl eje13_0_7)) ?_
        refine Y wn rfl (yLb (u := h259.v) O_22 (et rfl rfl) hst (mtR (mtR (mtR (mtR mhR)))) rfl) ?_
        refine Y wn rfl (yLen SL_22 (et rfl rfl) hst (rdO (mtR (mtR mhR)))) ?_
        refine YH wn rfl (rLt (n := 1) (l := [(x260.length : Int)]) hst SL_22 [.int .i64 (x260.length : Int)] (bp1 (et rfl rfl)) rfl rfl (mks1 (cs := [.int .i64 (x260.length : Int)]) rfl mkI mks0)) ?_
        clear hst
        intro h263 w hst
        obtain ⟨x265, gx265, hM10⟩ := bs hM10
        replace hst := hst.pk 3 [2, 0, 0] rfl
        refine YH wn rfl (rAp hst SL_22 (et rfl rfl) (et rfl rfl) (rdO (mtR mhR)) gx265) ?_
        clear hst
        intro h264 w hst
        refine Y wn rfl (yFb FL_27_2 (et rfl eje13_0_7)) ?_
        replace hst := hst.pk 6 [5, 0, 0, 0, 0, 0] rfl
        refine YT wn rfl (r_stb1 (vals' := [.int .i64 x1, .int .i64 x2, h264.v, h259.v, h261.v]) hst O_22 (et rfl rfl) (et rfl rfl) rfl rfl rfl rfl) ?_
        clear hst
        intro w hst
        refine wpList_nil ?_
        refine qb84 _ _ _ ?_
        refine k83 _ _ ?_
        refine wp_region_lit ?_
        refine Y wn rfl (ym (v := .int .i64 x111) (et rfl eje13_0_10)) ?_
        refine Y wn rfl (yadd (et rfl rfl) rfl) ?_
        refine Y wn rfl (ya (v := .int .i64 (wa .i64 x111 1)) (et rfl rfl)) ?_
        refine wpList_nil ?_
        obtain rfl := someI hM10
        exact n10 _ _ _ rfl ⟨_, _, _, _, _, _, _, _, rfl, rfl, eje13_0_0, eje13_0_1, eje13_0_2, eje13_0_6, eje13_0_7, eje13_0_8, rfl, (hst.pk 7 [3, 1, 2, 2, 0, 1] rfl)⟩
      refine loopQ (fun s a w => ∃ (x229 : List Int) (x231 : List Int) (x232 : Int) (f : Nat → Value) (h228 : Hdr) (h230 : Hdr), (x229, x231, x232) = s ∧ a = fr 90 f ∧ f 0 = .int .i64 x1 ∧ f 1 = .int .i64 x2 ∧ f 2 = h4.v ∧ f 6 = .pointer (some ⟨b5, 0, none⟩) ∧ f 7 = .pointer (some ⟨b7, 0, none⟩) ∧ f 8 = h8.v ∧ f 10 = .int .i64 x111 ∧ f 11 = .int .i64 x232 ∧ St w0 (ros) (box b5 27 [.int .i64 0, .int .i64 0, hnil.v, hnil.v, hnil.v] :: row 3 (rI .i64) h105.v x106 :: row 3 (rI .i64) h228.v x229 :: row 46 (rI .u64) h230.v x231 :: box b7 27 [.int .i64 x1, .int .i64 x2, h105.v, h228.v, h230.v] :: row 3 (rI .i64) h8.v x23 :: rs) w) go13 ⟨_, _, _, _, _, _, rfl, rfl, e10_0, e10_1, e10_2, e10_6, e10_7, e10_8, e10_10, rfl, hst⟩ ?_
      clear hst
      rintro _ _ w r13_ ⟨x229, x231, x232, f, h228, h230, rfl, rfl, e13_0, e13_1, e13_2, e13_6, e13_7, e13_8, e13_10, e13_11, hst⟩ hM13 ho13 Q100013 n13 zz13
      refine seqQ fun Q104 k104 z104 => ?_
      refine seqQ fun Q105 k105 z105 => ?_
      refine wp_region_lit ?_
      refine Y wn rfl (ym (v := .int .i64 x232) (et rfl e13_11)) ?_
      refine Y wn rfl (ym (v := .int .i64 x1) (et rfl e13_0)) ?_
      refine Y wn rfl (ylss (et rfl rfl) (et rfl rfl)) ?_
      refine wpList_nil ?_
      refine k105 _ _ ?_
      rcases iteS hM13 with ⟨c266, hM13⟩ | ⟨c266, hM13⟩
      · refine condT (et rfl rfl) (decide_eq_true c266) ?_
        refine wp_skip ?_
        refine k104 _ _ ?_
        refine seqQ fun Q106 k106 z106 => ?_
        refine blockQ fun Q107 qb107 => ?_
        refine seqQ fun Q108 k108 z108 => ?_
        refine wp_region_lit ?_
        refine Y wn rfl (ym (v := h8.v) (et rfl e13_8)) ?_
        refine Y wn rfl (ym (v := .int .i64 x111) (et rfl e13_10)) ?_
        refine Y wn rfl (ym (v := .int .i64 x1) (et rfl e13_0)) ?_
        refine Y wn rfl (ymul (et rfl rfl) (et rfl rfl)) ?_
        refine Y wn rfl (ym (v := .int .i64 x232) (et rfl e13_11)) ?_
        refine Y wn rfl (yadd (et rfl rfl) (et rfl rfl)) ?_
        obtain ⟨x267, gx267, hM13⟩ := bs hM13
        refine Y wn rfl (yIa SL_22 (et rfl rfl) (et rfl rfl) hst (rdO (mtR (mtR (mtR (mtR (mtR mhR)))))) gx267) ?_
        refine Y wn rfl (yI O_3 (et rfl rfl) hst (rdO (mtR (mtR (mtR (mtR (mtR mhR)))))) gx267) ?_
        refine Y wn rfl (ya (v := .int .i64 x267) (et rfl rfl)) ?_
        refine wpList_nil ?_
        refine k108 _ _ ?_
        refine seqQ fun Q109 k109 z109 => ?_
        refine wp_region_lit ?_
        refine Y wn rfl (ym (v := .int .i64 x267) (et rfl rfl)) ?_
        refine Y wn rfl (ygtr (et rfl rfl) rfl) ?_
        refine wpList_nil ?_
        refine k109 _ _ ?_
        have j14 : ∀ (x276 : List Int) (x278 : List Int) (h275 : Hdr) (h277 : Hdr) (f : Nat → Value) (w : World), f 0 = .int .i64 x1 → f 1 = .int .i64 x2 → f 2 = h4.v → f 6 = .pointer (some ⟨b5, 0, none⟩) → f 7 = .pointer (some ⟨b7, 0, none⟩) → f 8 = h8.v → f 10 = .int .i64 x111 → f 11 = .int .i64 x232 → St w0 (ros) (box b5 27 [.int .i64 0, .int .i64 0, hnil.v, hnil.v, hnil.v] :: row 3 (rI .i64) h105.v x106 :: row 3 (rI .i64) h275.v x276 :: row 46 (rI .u64) h277.v x278 :: box b7 27 [.int .i64 x1, .int .i64 x2, h105.v, h275.v, h277.v] :: row 3 (rI .i64) h8.v x23 :: rs) w → sparseref09_Pack_j14 x232 x276 x278 = some r13_ → Q107 .normal (fr 90 f) w := by
          intro x276 x278 h275 h277 f w ej14_0 ej14_1 ej14_2 ej14_6 ej14_7 ej14_8 ej14_10 ej14_11 hst hM
          refine qb107 _ _ _ ?_
          refine k106 _ _ ?_
          refine wp_region_lit ?_
          refine Y wn rfl (ym (v := .int .i64 x232) (et rfl ej14_11)) ?_
          refine Y wn rfl (yadd (et rfl rfl) rfl) ?_
          refine Y wn rfl (ya (v := .int .i64 (wa .i64 x232 1)) (et rfl rfl)) ?_
          refine wpList_nil ?_
          obtain rfl := someI hM
          exact n13 _ _ _ rfl ⟨_, _, _, _, _, _, rfl, rfl, ej14_0, ej14_1, ej14_2, ej14_6, ej14_7, ej14_8, ej14_10, rfl, hst⟩
        rcases iteS hM13 with ⟨c279, hM13⟩ | ⟨c279, hM13⟩
        · refine condT (et rfl rfl) (decide_eq_true c279) ?_
          refine seqQ fun Q111 k111 z111 => ?_
          refine wp_region_lit ?_
          refine Y wn rfl (yFb FL_27_3 (et rfl e13_7)) ?_
          refine Y wn rfl (yLb (u := h228.v) O_22 (et rfl rfl) hst (mtR (mtR (mtR (mtR mhR)))) rfl) ?_
          refine Y wn rfl (ym (v := .int .i64 x232) (et rfl e13_11)) ?_
          refine YH wn rfl (rLt (n := 1) (l := [x232]) hst SL_22 [.int .i64 x232] (bp1 (et rfl rfl)) rfl rfl (mks1 (cs := [.int .i64 x232]) rfl mkI mks0)) ?_
          clear hst
          intro h280 w hst
          obtain ⟨x282, gx282, hM13⟩ := bs hM13
          replace hst := hst.pk 4 [3, 0, 0, 0] rfl
          refine YH wn rfl (rAp hst SL_22 (et rfl rfl) (et rfl rfl) (rdO (mtR mhR)) gx282) ?_
          clear hst
          intro h281 w hst
          refine Y wn rfl (yFb FL_27_3 (et rfl e13_7)) ?_
          replace hst := hst.pk 6 [5, 0, 0, 0, 0, 0] rfl
          refine YT wn rfl (r_stb1 (vals' := [.int .i64 x1, .int .i64 x2, h105.v, h281.v, h230.v]) hst O_22 (et rfl rfl) (et rfl rfl) rfl rfl rfl rfl) ?_
          clear hst
          intro w hst
          refine wpList_nil ?_
          refine k111 _ _ ?_
          obtain ⟨x283, gx283, hM13⟩ := bs hM13
          obtain ⟨x286, gx286, hM13⟩ := bs hM13
          refine wp_drawR [0, 1, 0, 0, 8, 28, 60, 124, 252, 511, 1023, 2047] [8, 9, 11] 3 folM (by kernel_rfl) (by kernel_rfl) (by kernel_rfl) ?_
          replace hst := hst.drew
          refine DRn (l1 := [0, 1, 2, 3, 4, 5, 6, 7]) (l2 := []) (lc := [8]) (by kernel_rfl) (by kernel_rfl) (by kernel_rfl) ?_
          refine Ry rfl rfl wn (yFb FL_27_4 (et rfl e13_7)) ?_
          refine Ry rfl rfl wn (yLb (u := h230.v) O_25 (et rfl rfl) hst mhR rfl) ?_
          refine Ry rfl rfl wn (ym (v := h4.v) (et rfl e13_2)) ?_
          refine Ry rfl rfl wn (ym (v := .int .i64 x267) (et rfl rfl)) ?_
          refine Ry rfl rfl wn (ysub (et rfl rfl) rfl) ?_
          refine Ry rfl rfl wn (yIa SL_54 (et rfl rfl) (et rfl rfl) hst (rdI q1) gx283) ?_
          refine Ry rfl rfl wn (yFe FL_57_2 (et rfl rfl)) ?_
          refine Ry rfl rfl wn (yFf (u := .int .u64 x283.2.2) O_46 (et rfl rfl) hst (rdI q1) gx283 rfl) ?_
          refine Rn QSn ?_
          refine Lc rfl ?_ LAn
          refine LH wn (rLt (n := 1) (l := [x283.2.2]) hst SL_25 [.int .u64 x283.2.2] (bp1 (et rfl rfl)) rfl rfl (mks1 (cs := [.int .u64 x283.2.2]) rfl mkI mks0)) ?_
          clear hst
          intro h284 w hst
          refine DRn (l1 := []) (l2 := [0, 1]) (lc := [9]) (by kernel_rfl) (by kernel_rfl) (by kernel_rfl) ?_
          refine Rn (Sy rfl rfl wn (yFb FL_27_4 (et rfl e13_7)) rfl (Sy rfl rfl wn (yLb (u := h230.v) O_25 (et rfl rfl) hst (mtR mhR) rfl) rfl QSn)) ?_
          refine Lc rfl ?_ LAn
          replace hst := hst.pk 7 [6, 0, 0, 0, 0, 0, 0] rfl
          refine LH wn (rAp hst SL_25 (et rfl rfl) (et rfl rfl) (rdO (mtR mhR)) gx286) ?_
          clear hst
          intro h285 w hst
          refine DRn (l1 := [10]) (l2 := []) (lc := [11]) (by kernel_rfl) (by kernel_rfl) (by kernel_rfl) ?_
          refine Ry rfl rfl wn (yFb FL_27_4 (et rfl e13_7)) ?_
          refine Rn QSn ?_
          refine Lc rfl ?_ LAn
          replace hst := hst.pk 3 [2, 0, 0] rfl
          refine LT wn (r_stb1 (vals' := [.int .i64 x1, .int .i64 x2, h105.v, h281.v, h285.v]) hst O_25 (et rfl rfl) (et rfl rfl) rfl rfl rfl rfl) ?_
          clear hst
          intro w hst
          refine DRz (l1 := []) (l2 := []) (by kernel_rfl) (by kernel_rfl) ?_
          refine Rn QSn ?_
          exact j14 _ _ _ _ _ _ e13_0 e13_1 e13_2 e13_6 e13_7 e13_8 e13_10 e13_11 (hst.pk 8 [5, 5, 3, 1, 0, 2] rfl) hM13
        · refine condF (et rfl rfl) (decide_eq_false c279) ?_
          refine wp_skip ?_
          exact j14 _ _ _ _ _ _ e13_0 e13_1 e13_2 e13_6 e13_7 e13_8 e13_10 e13_11 hst hM13
      · refine condF (et rfl rfl) (decide_eq_false c266) ?_
        refine wp_exit ?_
        refine z104 _ _ _ rfl ?_
        obtain rfl := someI hM13
        refine zz13 _ _ _ _ rfl rfl ?_
        exact je13_0 _ _ _ _ _ _ e13_0 e13_1 e13_2 e13_6 e13_7 e13_8 e13_10 hst (ho13 _ rfl)
    · refine condF (et rfl rfl) (decide_eq_false c206) ?_
      refine wp_exit ?_
      refine z81 _ _ _ rfl ?_
      obtain rfl := someI hM10
      refine zz10 _ _ _ _ rfl rfl ?_
      exact je10_0 _ _ _ _ _ _ _ _ e10_6 e10_7 (hst.pk 6 [0, 0, 0, 0, 0] rfl) (ho10 _ rfl)
  refine loopQ (fun s a w => ∃ (x15 : List Int) (x16 : Int) (f : Nat → Value), (x15, x16) = s ∧ a = fr 90 f ∧ f 0 = .int .i64 x1 ∧ f 1 = .int .i64 x2 ∧ f 2 = h4.v ∧ f 6 = .pointer (some ⟨b5, 0, none⟩) ∧ f 7 = .pointer (some ⟨b7, 0, none⟩) ∧ f 8 = h8.v ∧ f 9 = .int .i64 x16 ∧ St w0 (ros) (box b5 27 [.int .i64 0, .int .i64 0, hnil.v, hnil.v, hnil.v] :: row 3 (rI .i64) h6.v [0] :: box b7 27 [.int .i64 x1, .int .i64 x2, h6.v, hnil.v, hnil.v] :: row 3 (rI .i64) h8.v x15 :: rs) w) go1 ⟨_, _, _, rfl, rfl, rfl, rfl, rfl, rfl, rfl, rfl, rfl, (hst.pk 4 [3, 2, 1, 0] rfl)⟩ ?_
  clear hst
  rintro _ _ w r1_ ⟨x15, x16, f, rfl, rfl, e1_0, e1_1, e1_2, e1_6, e1_7, e1_8, e1_9, hst⟩ hM1 ho1 Q100001 n1 zz1
  refine seqQ fun Q112 k112 z112 => ?_
  refine seqQ fun Q113 k113 z113 => ?_
  refine wp_region_lit ?_
  refine Y wn rfl (ym (v := .int .i64 x16) (et rfl e1_9)) ?_
  refine Y wn rfl (ym (v := h4.v) (et rfl e1_2)) ?_
  refine Y wn rfl (yLen SL_54 (et rfl rfl) hst (rdI q1)) ?_
  refine Y wn rfl (ylss (et rfl rfl) (et rfl rfl)) ?_
  refine wpList_nil ?_
  refine k113 _ _ ?_
  rcases iteS hM1 with ⟨c287, hM1⟩ | ⟨c287, hM1⟩
  · refine condT (et rfl rfl) (decide_eq_true c287) ?_
    refine wp_skip ?_
    refine k112 _ _ ?_
    refine seqQ fun Q114 k114 z114 => ?_
    refine blockQ fun Q115 qb115 => ?_
    obtain ⟨x288, gx288, hM1⟩ := bs hM1
    obtain ⟨x289, gx289, hM1⟩ := bs hM1
    obtain ⟨x290, gx290, hM1⟩ := bs hM1
    refine wp_drawR [0, 0, 0, 6, 14, 30, 0, 126, 0, 0, 768, 1792, 3840, 8190, 0, 16384, 65535, 131071] [17] 1 folM (by kernel_rfl) (by kernel_rfl) (by kernel_rfl) ?_
    replace hst := hst.drew
    refine DRn (l1 := [0, 1, 2, 3, 4, 5, 6, 7, 8, 9, 10, 11, 12, 13, 14, 15, 16]) (l2 := []) (lc := [17]) (by kernel_rfl) (by kernel_rfl) (by kernel_rfl) ?_
    refine Ry rfl rfl wn (ym (v := h8.v) (et rfl e1_8)) ?_
    refine Ry rfl rfl wn (ym (v := h4.v) (et rfl e1_2)) ?_
    refine Ry rfl rfl wn (ym (v := .int .i64 x16) (et rfl e1_9)) ?_
    refine Ry rfl rfl wn (yIa SL_54 (et rfl rfl) (et rfl rfl) hst (rdI q1) gx288) ?_
    refine Ry rfl rfl wn (yFe FL_57_1 (et rfl rfl)) ?_
    refine Ry rfl rfl wn (yFf (u := .int .i64 x288.2.1) O_3 (et rfl rfl) hst (rdI q1) gx288 rfl) ?_
    refine Ry rfl rfl wn (ym (v := .int .i64 x1) (et rfl e1_0)) ?_
    refine Ry rfl rfl wn (ymul (et rfl rfl) (et rfl rfl)) ?_
    refine Ry rfl rfl wn (ym (v := h4.v) (et rfl e1_2)) ?_
    refine Ry rfl rfl wn (ym (v := .int .i64 x16) (et rfl e1_9)) ?_
    refine Ry rfl rfl wn (yIa SL_54 (et rfl rfl) (et rfl rfl) hst (rdI q1) gx289) ?_
    refine Ry rfl rfl wn (yFe FL_57_0 (et rfl rfl)) ?_
    refine Ry rfl rfl wn (yFf (u := .int .i64 x289.1) O_3 (et rfl rfl) hst (rdI q1) gx289 rfl) ?_
    refine Ry rfl rfl wn (yadd (et rfl rfl) (et rfl rfl)) ?_
    refine Ry rfl rfl wn (ym (v := .int .i64 x16) (et rfl e1_9)) ?_
    refine Ry rfl rfl wn (yadd (et rfl rfl) rfl) ?_
    refine Ry rfl rfl wn (yIs SL_22 (et rfl rfl) (et rfl rfl) hst (rdO (mtR (mtR (mtR mhR)))) gx290) ?_
    refine Rn QSn ?_
    refine Lc rfl ?_ LAn
    replace hst := hst.pk 4 [3, 0, 0, 0] rfl
    refine LT wn (r_sti (cs := [.int .i64 (wa .i64 x16 1)]) hst O_3 rfl (et rfl rfl) (et rfl rfl) rfl mkI gx290) ?_
    clear hst
    intro w hst
    refine DRz (l1 := []) (l2 := []) (by kernel_rfl) (by kernel_rfl) ?_
    refine Rn QSn ?_
    refine qb115 _ _ _ ?_
    refine k114 _ _ ?_
    refine wp_region_lit ?_
    refine Y wn rfl (ym (v := .int .i64 x16) (et rfl e1_9)) ?_
    refine Y wn rfl (yadd (et rfl rfl) rfl) ?_
    refine Y wn rfl (ya (v := .int .i64 (wa .i64 x16 1)) (et rfl rfl)) ?_
    refine wpList_nil ?_
    obtain rfl := someI hM1
    exact n1 _ _ _ rfl ⟨_, _, _, rfl, rfl, e1_0, e1_1, e1_2, e1_6, e1_7, e1_8, rfl, (hst.pk 4 [1, 1, 1, 0] rfl)⟩
  · refine condF (et rfl rfl) (decide_eq_false c287) ?_
    refine wp_exit ?_
    refine z112 _ _ _ rfl ?_
    obtain rfl := someI hM1
    refine zz1 _ _ _ _ rfl rfl ?_
    exact je1_0 _ _ _ e1_0 e1_1 e1_2 e1_6 e1_7 e1_8 hst (ho1 _ rfl)

theorem sparsemake_Matrix_ok {w0 : World} {ros : List Fact} {rs : List Res} {w : World} {x1 : Int} {x2 : Int} {x3 : List Int} {h4 : Hdr} {out : Int × Int × (List Int) × (List Int) × (List Int)} (hM : sparsemake_Matrix x1 x2 x3 = some out) (q1 : imm (rI .i64) h4.v x3 ∈ ros) (q2 : globF ∈ ros) (hst : St w0 ros (rs) w) :
    Calls Tryz.prog 7 #[.int .i64 x1, .int .i64 x2, h4.v] w (fun e w => ∃ (h100003 : Hdr) (h100005 : Hdr) (h100007 : Hdr), e = .returned (.agg #[.int .i64 out.1, .int .i64 out.2.1, h100003.v, h100005.v, h100007.v]) ∧ St w0 (ros) (row 3 (rI .i64) h100003.v out.2.2.1 :: row 3 (rI .i64) h100005.v out.2.2.2.1 :: row 46 (rI .u64) h100007.v out.2.2.2.2 :: rs) w) := by
  refine enterQ Tryz.func7 rfl Tryz.ntmps7 rfl fun Q hQ => ?_
  refine seqQ fun Q1 k1 z1 => ?_
  refine wp_region_lit ?_
  refine YB wn rfl (rAl hst ZT_27) ?_
  clear hst
  intro b5 w hst
  refine wpList_nil ?_
  refine k1 _ _ ?_
  refine seqQ fun Q2 k2 z2 => ?_
  refine wp_region_lit ?_
  refine Y wn rfl (ya (v := hnil.v) rfl) ?_
  refine wpList_nil ?_
  refine k2 _ _ ?_
  refine seqQ fun Q3 k3 z3 => ?_
  refine seqQ fun Q4 k4 z4 => ?_
  refine wp_region_lit ?_
  refine Y wn rfl (ya (v := .int .i64 0) rfl) ?_
  refine wpList_nil ?_
  refine k4 _ _ ?_
  refine blockQ fun Q5 qb5 => ?_
  obtain ⟨o5, go5, hM⟩ := bs hM
  have je5_0 : ∀ (x41 : List (Int × Int × Int)) (h40 : Hdr) (f : Nat → Value) (w : World), f 0 = .int .i64 x1 → f 1 = .int .i64 x2 → f 6 = .pointer (some ⟨b5, 0, none⟩) → f 7 = h40.v → St w0 (ros) (box b5 27 [.int .i64 0, .int .i64 0, hnil.v, hnil.v, hnil.v] :: row 57 rTi64i64u64 h40.v x41 :: rs) w → x41 = o5 → Q5 (.exit 0) (fr 51 f) w := by
    intro x41 h40 f w eje5_0_0 eje5_0_1 eje5_0_6 eje5_0_7 hst ho
    subst ho
    refine qb5 _ _ _ ?_
    refine k3 _ _ ?_
    refine seqQ fun Q14 k14 z14 => ?_
    refine wp_region_lit ?_
    refine Y wn rfl (ym (v := .int .i64 x1) (et rfl eje5_0_0)) ?_
    refine Y wn rfl (ym (v := .int .i64 x2) (et rfl eje5_0_1)) ?_
    refine Y wn rfl (ym (v := h40.v) (et rfl eje5_0_7)) ?_
    obtain ⟨r42, gr42, hM⟩ := bs hM
    replace hst := hst.pk 2 [1, 0] rfl
    replace hst := hst.fz
    refine Yc wn rfl (yCall FN_24 (a3 (et rfl rfl) (et rfl rfl) (et rfl rfl))) (sparseref09_Pack_ok (hM := gr42) (hst := hst) (q1 := mhF)) ?_
    clear hst
    rintro _ w ⟨h43, h44, h45, rfl, hst⟩
    refine ⟨_, rfl, ?_⟩
    replace hst := hst.pk 4 [3, 0, 0, 0] rfl
    refine YT wn rfl (r_stbn (vals' := [.int .i64 r42.1, .int .i64 r42.2.1, h43.v, h44.v, h45.v]) (us := [.int .i64 r42.1, .int .i64 r42.2.1, h43.v, h44.v, h45.v]) hst ST_27 (et rfl eje5_0_6) (et rfl rfl) rfl rfl (one_of rfl) rfl) ?_
    clear hst
    intro w hst
    refine wpList_nil ?_
    refine k14 _ _ ?_
    refine wp_ret ?_
    obtain rfl := someI hM
    exact hQ _ _ _ (fin1r Tryz.results7 (rcs2 rfl eje5_0_6 hst mhR ST_27 rfl) ⟨_, _, _, rfl, ((hst.pk 4 [1, 1, 1] rfl).facts (allT allI))⟩)
  replace hst := hst.rowNh 57 rTi64i64u64
  refine loopQ (fun s a w => ∃ (x21 : List (Int × Int × Int)) (x22 : Int) (f : Nat → Value) (h20 : Hdr), (x21, x22) = s ∧ a = fr 51 f ∧ f 0 = .int .i64 x1 ∧ f 1 = .int .i64 x2 ∧ f 2 = h4.v ∧ f 6 = .pointer (some ⟨b5, 0, none⟩) ∧ f 7 = h20.v ∧ f 8 = .int .i64 x22 ∧ St w0 (ros) (box b5 27 [.int .i64 0, .int .i64 0, hnil.v, hnil.v, hnil.v] :: row 57 rTi64i64u64 h20.v x21 :: rs) w) go5 ⟨_, _, _, _, rfl, rfl, rfl, rfl, rfl, rfl, rfl, rfl, (hst.pk 2 [1, 0] rfl)⟩ ?_
  clear hst
  rintro _ _ w r5_ ⟨x21, x22, f, h20, rfl, rfl, e5_0, e5_1, e5_2, e5_6, e5_7, e5_8, hst⟩ hM5 ho5 Q100005 n5 zz5
  refine seqQ fun Q15 k15 z15 => ?_
  refine seqQ fun Q16 k16 z16 => ?_
  refine wp_region_lit ?_
  refine Y wn rfl (ym (v := .int .i64 x22) (et rfl e5_8)) ?_
  refine Y wn rfl (yadd (et rfl rfl) rfl) ?_
  refine Y wn rfl (ym (v := h4.v) (et rfl e5_2)) ?_
  refine Y wn rfl (yLen SL_22 (et rfl rfl) hst (rdI q1)) ?_
  refine Y wn rfl (ylss (et rfl rfl) (et rfl rfl)) ?_
  refine Y wn rfl (ym (v := .bool (decide ((wa .i64 x22 2) < (x3.length : Int)))) (et rfl rfl)) ?_
  refine joinW 3 (fun f w => f 0 = .int .i64 x1 ∧ f 1 = .int .i64 x2 ∧ f 2 = h4.v ∧ f 6 = .pointer (some ⟨b5, 0, none⟩) ∧ f 7 = h20.v ∧ f 8 = .int .i64 x22 ∧ f 17 = .bool ((decide ((wa .i64 x22 2) < (x3.length : Int))) && (decide ((0 : Int) < x1))) ∧ St w0 (ros) (box b5 27 [.int .i64 0, .int .i64 0, hnil.v, hnil.v, hnil.v] :: row 57 rTi64i64u64 h20.v x21 :: rs) w) (fun j6 => ?_) ?_
  · rcases Bool.eq_false_or_eq_true (decide ((wa .i64 x22 2) < (x3.length : Int))) with c47 | c47
    · refine Y (wg rfl rfl rfl c47) rfl (ym (v := .int .i64 x1) (et rfl e5_0)) ?_
      refine Y (wg rfl rfl rfl c47) rfl (ygtr (et rfl rfl) rfl) ?_
      refine Y wn rfl (ypt (v := .bool (decide ((0 : Int) < x1))) (et rfl rfl) c47 (et rfl rfl)) ?_
      exact j6 _ _ ⟨e5_0, e5_1, e5_2, e5_6, e5_7, e5_8, (congrArg Value.bool (andT c47)), hst⟩
    · refine Gn (wx rfl rfl rfl c47) rfl ?_
      refine Gn (wx rfl rfl rfl c47) rfl ?_
      refine Y wn rfl (ypf (v := .bool false) (et rfl rfl) c47 rfl) ?_
      exact j6 _ _ ⟨e5_0, e5_1, e5_2, e5_6, e5_7, e5_8, (congrArg Value.bool (andF c47)), hst⟩
  clear hst
  rintro f w ⟨e46_0, e46_1, e46_2, e46_6, e46_7, e46_8, e46_17, hst⟩
  refine Y wn rfl (ym (v := .bool ((decide ((wa .i64 x22 2) < (x3.length : Int))) && (decide ((0 : Int) < x1)))) (et rfl e46_17)) ?_
  refine joinW 3 (fun f w => f 0 = .int .i64 x1 ∧ f 1 = .int .i64 x2 ∧ f 2 = h4.v ∧ f 6 = .pointer (some ⟨b5, 0, none⟩) ∧ f 7 = h20.v ∧ f 8 = .int .i64 x22 ∧ f 21 = .bool (((decide ((wa .i64 x22 2) < (x3.length : Int))) && (decide ((0 : Int) < x1))) && (decide ((0 : Int) < x2))) ∧ St w0 (ros) (box b5 27 [.int .i64 0, .int .i64 0, hnil.v, hnil.v, hnil.v] :: row 57 rTi64i64u64 h20.v x21 :: rs) w) (fun j7 => ?_) ?_
  · rcases Bool.eq_false_or_eq_true (((decide ((wa .i64 x22 2) < (x3.length : Int))) && (decide ((0 : Int) < x1)))) with c49 | c49
    · refine Y (wg rfl rfl rfl c49) rfl (ym (v := .int .i64 x2) (et rfl e46_1)) ?_
      refine Y (wg rfl rfl rfl c49) rfl (ygtr (et rfl rfl) rfl) ?_
      refine Y wn rfl (ypt (v := .bool (decide ((0 : Int) < x2))) (et rfl rfl) c49 (et rfl rfl)) ?_
      exact j7 _ _ ⟨e46_0, e46_1, e46_2, e46_6, e46_7, e46_8, (congrArg Value.bool (andT c49)), hst⟩
    · refine Gn (wx rfl rfl rfl c49) rfl ?_
      refine Gn (wx rfl rfl rfl c49) rfl ?_
      refine Y wn rfl (ypf (v := .bool false) (et rfl rfl) c49 rfl) ?_
      exact j7 _ _ ⟨e46_0, e46_1, e46_2, e46_6, e46_7, e46_8, (congrArg Value.bool (andF c49)), hst⟩
  clear hst
  rintro f w ⟨e48_0, e48_1, e48_2, e48_6, e48_7, e48_8, e48_21, hst⟩
  refine wpList_nil ?_
  refine k16 _ _ ?_
  rcases iteS hM5 with ⟨c50, hM5⟩ | ⟨c50, hM5⟩
  · refine condT (et rfl e48_21) c50 ?_
    refine wp_skip ?_
    refine k15 _ _ ?_
    refine seqQ fun Q17 k17 z17 => ?_
    refine blockQ fun Q18 qb18 => ?_
    obtain ⟨x51, gx51, hM5⟩ := bs hM5
    obtain ⟨r52, gr52, hM5⟩ := bs hM5
    obtain ⟨x53, gx53, hM5⟩ := bs hM5
    obtain ⟨r54, gr54, hM5⟩ := bs hM5
    obtain ⟨x55, gx55, hM5⟩ := bs hM5
    obtain ⟨r56, gr56, hM5⟩ := bs hM5
    obtain ⟨x59, gx59, hM5⟩ := bs hM5
    refine wp_drawR [0, 0, 0, 6, 14, 0, 62, 0, 0, 256, 896, 1920, 0, 8190, 0, 0, 32768, 114688, 245760, 524286, 1048574, 2097150, 4194303, 8388607] [6, 13, 19, 21, 22, 23] 6 folM (by kernel_rfl) (by kernel_rfl) (by kernel_rfl) ?_
    replace hst := hst.drew
    refine DRn (l1 := [0, 1, 2, 3, 4, 5, 7, 8, 9, 10, 11, 12, 14, 15, 16, 17, 18]) (l2 := []) (lc := [6]) (by kernel_rfl) (by kernel_rfl) (by kernel_rfl) ?_
    refine Ry rfl rfl wn (ym (v := h20.v) (et rfl e48_7)) ?_
    refine Ry rfl rfl wn (ym (v := h4.v) (et rfl e48_2)) ?_
    refine Ry rfl rfl wn (ym (v := .int .i64 x22) (et rfl e48_8)) ?_
    refine Ry rfl rfl wn (yIa SL_22 (et rfl rfl) (et rfl rfl) hst (rdI q1) gx51) ?_
    refine Ry rfl rfl wn (yI O_3 (et rfl rfl) hst (rdI q1) gx51) ?_
    refine Ry rfl rfl wn (ym (v := .int .i64 x1) (et rfl e48_0)) ?_
    refine Ry rfl rfl wn (ym (v := h4.v) (et rfl e48_2)) ?_
    refine Ry rfl rfl wn (ym (v := .int .i64 x22) (et rfl e48_8)) ?_
    refine Ry rfl rfl wn (yadd (et rfl rfl) rfl) ?_
    refine Ry rfl rfl wn (yIa SL_22 (et rfl rfl) (et rfl rfl) hst (rdI q1) gx53) ?_
    refine Ry rfl rfl wn (yI O_3 (et rfl rfl) hst (rdI q1) gx53) ?_
    refine Ry rfl rfl wn (ym (v := .int .i64 x2) (et rfl e48_1)) ?_
    refine Ry rfl rfl wn (ym (v := h4.v) (et rfl e48_2)) ?_
    refine Ry rfl rfl wn (ym (v := .int .i64 x22) (et rfl e48_8)) ?_
    refine Ry rfl rfl wn (yadd (et rfl rfl) rfl) ?_
    refine Ry rfl rfl wn (yIa SL_22 (et rfl rfl) (et rfl rfl) hst (rdI q1) gx55) ?_
    refine Ry rfl rfl wn (yI O_3 (et rfl rfl) hst (rdI q1) gx55) ?_
    refine Rn QSn ?_
    refine Lc rfl ?_ LAn
    refine Lk wn (yCall FN_6 (a2 (et rfl rfl) (et rfl rfl))) (sparsekit_Place_ok (hM := gr52) (hst := hst) ) ?_
    clear hst
    rintro _ w ⟨rfl, hst⟩
    refine ⟨_, rfl, ?_⟩
    refine DRn (l1 := []) (l2 := [0, 7, 8, 9, 10, 11, 12, 14, 15, 16, 17, 18]) (lc := [13]) (by kernel_rfl) (by kernel_rfl) (by kernel_rfl) ?_
    refine Rn (Sy rfl rfl wn (ym (v := h20.v) (et rfl e48_7)) rfl (Sy rfl rfl wn (ym (v := h4.v) (et rfl e48_2)) rfl (Sy rfl rfl wn (ym (v := .int .i64 x22) (et rfl e48_8)) rfl (Sy rfl rfl wn (yadd (et rfl rfl) rfl) rfl (Sy rfl rfl wn (yIa SL_22 (et rfl rfl) (et rfl rfl) hst (rdI q1) gx53) rfl (Sy rfl rfl wn (yI O_3 (et rfl rfl) hst (rdI q1) gx53) rfl (Sy rfl rfl wn (ym (v := .int .i64 x2) (et rfl e48_1)) rfl (Sy rfl rfl wn (ym (v := h4.v) (et rfl e48_2)) rfl (Sy rfl rfl wn (ym (v := .int .i64 x22) (et rfl e48_8)) rfl (Sy rfl rfl wn (yadd (et rfl rfl) rfl) rfl (Sy rfl rfl wn (yIa SL_22 (et rfl rfl) (et rfl rfl) hst (rdI q1) gx55) rfl (Sy rfl rfl wn (yI O_3 (et rfl rfl) hst (rdI q1) gx55) rfl QSn)))))))))))) ?_
    refine Lc rfl ?_ LAn
    refine Lk wn (yCall FN_6 (a2 (et rfl rfl) (et rfl rfl))) (sparsekit_Place_ok (hM := gr54) (hst := hst) ) ?_
    clear hst
    rintro _ w ⟨rfl, hst⟩
    refine ⟨_, rfl, ?_⟩
    refine DRn (l1 := []) (l2 := [0, 14, 15, 16, 17, 18]) (lc := [19]) (by kernel_rfl) (by kernel_rfl) (by kernel_rfl) ?_
    refine Rn (Sy rfl rfl wn (ym (v := h20.v) (et rfl e48_7)) rfl (Sy rfl rfl wn (ym (v := h4.v) (et rfl e48_2)) rfl (Sy rfl rfl wn (ym (v := .int .i64 x22) (et rfl e48_8)) rfl (Sy rfl rfl wn (yadd (et rfl rfl) rfl) rfl (Sy rfl rfl wn (yIa SL_22 (et rfl rfl) (et rfl rfl) hst (rdI q1) gx55) rfl (Sy rfl rfl wn (yI O_3 (et rfl rfl) hst (rdI q1) gx55) rfl QSn)))))) ?_
    refine Lc rfl ?_ LAn
    refine Lk wn (yCall FN_23 (a1 (et rfl rfl))) (sparsemake_Value_ok (hM := gr56) (hst := hst) (q1 := q2)) ?_
    clear hst
    rintro _ w ⟨rfl, hst⟩
    refine ⟨_, rfl, ?_⟩
    refine DRn (l1 := [20]) (l2 := [0]) (lc := [21]) (by kernel_rfl) (by kernel_rfl) (by kernel_rfl) ?_
    refine Ry rfl rfl wn (ybuild (us := [.int .i64 r52, .int .i64 r54, .int .u64 r56]) [(0, .int .i64 r52), (1, .int .i64 r54), (2, .int .u64 r56)] SO_57 (bp3 (et rfl rfl) (et rfl rfl) (et rfl rfl)) rfl) ?_
    refine Rn (Sy rfl rfl wn (ym (v := h20.v) (et rfl e48_7)) rfl QSn) ?_
    refine Lc rfl ?_ LAn
    refine LH wn (rLt (n := 1) (l := [(r52, r54, r56)]) hst SL_54 [.agg #[.int .i64 r52, .int .i64 r54, .int .u64 r56]] (bp1 (et rfl rfl)) rfl rfl (mks1 (cs := [.int .i64 r52, .int .i64 r54, .int .u64 r56]) rfl (mkF rfl) mks0)) ?_
    clear hst
    intro h57 w hst
    refine DRn (l1 := []) (l2 := [0]) (lc := [22]) (by kernel_rfl) (by kernel_rfl) (by kernel_rfl) ?_
    refine Rn (Sy rfl rfl wn (ym (v := h20.v) (et rfl e48_7)) rfl QSn) ?_
    refine Lc rfl ?_ LAn
    replace hst := hst.pk 3 [2, 0, 0] rfl
    refine LH wn (rAp hst SL_54 (et rfl rfl) (et rfl rfl) (rdO (mtR mhR)) gx59) ?_
    clear hst
    intro h58 w hst
    refine DRn (l1 := []) (l2 := []) (lc := [23]) (by kernel_rfl) (by kernel_rfl) (by kernel_rfl) ?_
    refine Rn QSn ?_
    refine Lc rfl ?_ LAn
    refine Ly wn (ya (v := h58.v) (et rfl rfl)) ?_
    refine DRz (l1 := []) (l2 := []) (by kernel_rfl) (by kernel_rfl) ?_
    refine Rn QSn ?_
    refine qb18 _ _ _ ?_
    refine k17 _ _ ?_
    refine wp_region_lit ?_
    refine Y wn rfl (ym (v := .int .i64 x22) (et rfl e48_8)) ?_
    refine Y wn rfl (yadd (et rfl rfl) rfl) ?_
    refine Y wn rfl (ya (v := .int .i64 (wa .i64 x22 3)) (et rfl rfl)) ?_
    refine wpList_nil ?_
    obtain rfl := someI hM5
    exact n5 _ _ _ rfl ⟨_, _, _, _, rfl, rfl, e48_0, e48_1, e48_2, e48_6, rfl, rfl, (hst.pk 3 [2, 0] rfl)⟩
  · refine condF (et rfl e48_21) (bfalse c50) ?_
    refine wp_exit ?_
    refine z15 _ _ _ rfl ?_
    obtain rfl := someI hM5
    refine zz5 _ _ _ _ rfl rfl ?_
    exact je5_0 _ _ _ _ e48_0 e48_1 e48_6 e48_7 hst (ho5 _ rfl)

theorem matrix_within_ok {w0 : World} {ros : List Fact} {rs : List Res} {w : World} {x1 : Int} {x2 : Int} {x3 : Int} {out : Bool} (hM : matrix_within x1 x2 x3 = some out) (hst : St w0 ros (rs) w) :
    Calls Tryz.prog 48 #[.int .i64 x1, .int .i64 x2, .int .i64 x3] w (fun e w => e = .returned (.bool out) ∧ St w0 (ros) (rs) w) := by
  refine enterQ Tryz.func48 rfl Tryz.ntmps48 rfl fun Q hQ => ?_
  refine seqQ fun Q1 k1 z1 => ?_
  refine wp_region_lit ?_
  refine Y wn rfl (ya (v := .bool false) rfl) ?_
  refine wpList_nil ?_
  refine k1 _ _ ?_
  refine seqQ fun Q2 k2 z2 => ?_
  refine wp_region_lit ?_
  refine Y wn rfl (ym (v := .int .i64 x1) (et rfl rfl)) ?_
  refine Y wn rfl (ym (v := .int .i64 x2) (et rfl rfl)) ?_
  refine Y wn rfl (ygeq (et rfl rfl) (et rfl rfl)) ?_
  refine Y wn rfl (ym (v := .bool (decide (x2 ≤ x1))) (et rfl rfl)) ?_
  refine joinW 4 (fun f w => f 14 = .bool ((decide (x2 ≤ x1)) && (decide (x1 ≤ x3))) ∧ St w0 (ros) (rs) w) (fun j1 => ?_) ?_
  · rcases Bool.eq_false_or_eq_true (decide (x2 ≤ x1)) with c5 | c5
    · refine Y (wg rfl rfl rfl c5) rfl (ym (v := .int .i64 x1) (et rfl rfl)) ?_
      refine Y (wg rfl rfl rfl c5) rfl (ym (v := .int .i64 x3) (et rfl rfl)) ?_
      refine Y (wg rfl rfl rfl c5) rfl (yleq (et rfl rfl) (et rfl rfl)) ?_
      refine Y wn rfl (ypt (v := .bool (decide (x1 ≤ x3))) (et rfl rfl) c5 (et rfl rfl)) ?_
      exact j1 _ _ ⟨(congrArg Value.bool (andT c5)), hst⟩
    · refine Gn (wx rfl rfl rfl c5) rfl ?_
      refine Gn (wx rfl rfl rfl c5) rfl ?_
      refine Gn (wx rfl rfl rfl c5) rfl ?_
      refine Y wn rfl (ypf (v := .bool false) (et rfl rfl) c5 rfl) ?_
      exact j1 _ _ ⟨(congrArg Value.bool (andF c5)), hst⟩
  clear hst
  rintro f w ⟨e4_14, hst⟩
  refine Y wn rfl (ya (v := .bool ((decide (x2 ≤ x1)) && (decide (x1 ≤ x3)))) (et rfl e4_14)) ?_
  refine wpList_nil ?_
  refine k2 _ _ ?_
  refine wp_ret ?_
  obtain rfl := someI hM
  exact hQ _ _ _ (fin1r Tryz.results48 ⟨rfl, rfl⟩ ⟨rfl, hst⟩)

theorem slices_IsSorted_int_ok {w0 : World} {ros : List Fact} {rs : List Res} {w : World} {x1 : List Int} {h2 : Hdr} {out : Bool} (hM : slices_IsSorted_int x1 = some out) (q1 : imm (rI .i64) h2.v x1 ∈ ros) (hst : St w0 ros (rs) w) :
    Calls Tryz.prog 69 #[h2.v] w (fun e w => e = .returned (.bool out) ∧ St w0 (ros) (rs) w) := by
  refine enterQ Tryz.func69 rfl Tryz.ntmps69 rfl fun Q hQ => ?_
  refine seqQ fun Q1 k1 z1 => ?_
  refine wp_region_lit ?_
  refine Y wn rfl (ya (v := .bool false) rfl) ?_
  refine wpList_nil ?_
  refine k1 _ _ ?_
  refine seqQ fun Q2 k2 z2 => ?_
  refine seqQ fun Q3 k3 z3 => ?_
  refine wp_region_lit ?_
  refine Y wn rfl (ym (v := h2.v) (et rfl rfl)) ?_
  refine Y wn rfl (yLen SL_22 (et rfl rfl) hst (rdI q1)) ?_
  refine Y wn rfl (ysub (et rfl rfl) rfl) ?_
  refine Y wn rfl (ya (v := .int .i64 (ws .i64 (x1.length : Int) 1)) (et rfl rfl)) ?_
  refine wpList_nil ?_
  refine k3 _ _ ?_
  refine blockQ fun Q4 qb4 => ?_
  obtain ⟨o1, go1, hM⟩ := bs hM
  have je1_0 : ∀ (f : Nat → Value) (w : World), St w0 (ros) (rs) w → .inl () = o1 → Q4 (.exit 0) (fr 21 f) w := by
    intro f w hst ho
    subst ho
    refine qb4 _ _ _ ?_
    refine k2 _ _ ?_
    refine seqQ fun Q17 k17 z17 => ?_
    refine wp_region_lit ?_
    refine Y wn rfl (ya (v := .bool true) rfl) ?_
    refine wpList_nil ?_
    refine k17 _ _ ?_
    refine wp_ret ?_
    obtain rfl := someI hM
    exact hQ _ _ _ (fin1r Tryz.results69 ⟨rfl, rfl⟩ ⟨rfl, hst⟩)
  have je1_1 : ∀ (f : Nat → Value) (w : World), f 2 = .bool false → St w0 (ros) (rs) w → .inr () = o1 → Q4 .ret (fr 21 f) w := by
    intro f w eje1_1_2 hst ho
    subst ho
    refine qb4 _ _ _ ?_
    refine z2 _ _ _ rfl ?_
    obtain rfl := someI hM
    exact hQ _ _ _ (fin1r Tryz.results69 ⟨rfl, eje1_1_2⟩ ⟨rfl, hst⟩)
  refine loopQ (fun s a w => ∃ (x8 : Int) (f : Nat → Value), x8 = s ∧ a = fr 21 f ∧ f 0 = h2.v ∧ f 3 = .int .i64 x8 ∧ St w0 (ros) (rs) w) go1 ⟨_, _, rfl, rfl, rfl, rfl, hst⟩ ?_
  clear hst
  rintro _ _ w r1_ ⟨x8, f, rfl, rfl, e1_0, e1_3, hst⟩ hM1 ho1 Q100001 n1 zz1
  refine seqQ fun Q18 k18 z18 => ?_
  refine seqQ fun Q19 k19 z19 => ?_
  refine wp_region_lit ?_
  refine Y wn rfl (ym (v := .int .i64 x8) (et rfl e1_3)) ?_
  refine Y wn rfl (ygtr (et rfl rfl) rfl) ?_
  refine wpList_nil ?_
  refine k19 _ _ ?_
  rcases iteS hM1 with ⟨c15, hM1⟩ | ⟨c15, hM1⟩
  · refine condT (et rfl rfl) (decide_eq_true c15) ?_
    refine wp_skip ?_
    refine k18 _ _ ?_
    refine seqQ fun Q20 k20 z20 => ?_
    refine blockQ fun Q21 qb21 => ?_
    refine seqQ fun Q22 k22 z22 => ?_
    obtain ⟨x16, gx16, hM1⟩ := bs hM1
    obtain ⟨x17, gx17, hM1⟩ := bs hM1
    obtain ⟨r18, gr18, hM1⟩ := bs hM1
    refine wp_drawR [0, 0, 3, 7, 0, 0, 32, 112, 240, 511] [9] 1 folM (by kernel_rfl) (by kernel_rfl) (by kernel_rfl) ?_
    replace hst := hst.drew
    refine DRn (l1 := [0, 1, 2, 3, 4, 5, 6, 7, 8]) (l2 := []) (lc := [9]) (by kernel_rfl) (by kernel_rfl) (by kernel_rfl) ?_
    refine Ry rfl rfl wn (ym (v := h2.v) (et rfl e1_0)) ?_
    refine Ry rfl rfl wn (ym (v := .int .i64 x8) (et rfl e1_3)) ?_
    refine Ry rfl rfl wn (yIa SL_22 (et rfl rfl) (et rfl rfl) hst (rdI q1) gx16) ?_
    refine Ry rfl rfl wn (yI O_3 (et rfl rfl) hst (rdI q1) gx16) ?_
    refine Ry rfl rfl wn (ym (v := h2.v) (et rfl e1_0)) ?_
    refine Ry rfl rfl wn (ym (v := .int .i64 x8) (et rfl e1_3)) ?_
    refine Ry rfl rfl wn (ysub (et rfl rfl) rfl) ?_
    refine Ry rfl rfl wn (yIa SL_22 (et rfl rfl) (et rfl rfl) hst (rdI q1) gx17) ?_
    refine Ry rfl rfl wn (yI O_3 (et rfl rfl) hst (rdI q1) gx17) ?_
    refine Rn QSn ?_
    refine Lc rfl ?_ LAn
    refine Lk wn (yCall FN_81 (a2 (et rfl rfl) (et rfl rfl))) (cmp_Less_int_ok (hM := gr18) (hst := hst) ) ?_
    clear hst
    rintro _ w ⟨rfl, hst⟩
    refine ⟨_, rfl, ?_⟩
    refine DRz (l1 := []) (l2 := []) (by kernel_rfl) (by kernel_rfl) ?_
    refine Rn QSn ?_
    refine k22 _ _ ?_
    rcases iteS hM1 with ⟨c19, hM1⟩ | ⟨c19, hM1⟩
    · refine condT (et rfl rfl) c19 ?_
      refine seqQ fun Q23 k23 z23 => ?_
      refine wp_region_lit ?_
      refine Y wn rfl (ya (v := .bool false) rfl) ?_
      refine wpList_nil ?_
      refine k23 _ _ ?_
      refine wp_ret ?_
      refine qb21 _ _ _ ?_
      refine z20 _ _ _ rfl ?_
      obtain rfl := someI hM1
      refine zz1 _ _ _ _ rfl rfl ?_
      exact je1_1 _ _ rfl hst (ho1 _ rfl)
    · refine condF (et rfl rfl) (bfalse c19) ?_
      refine wp_skip ?_
      refine qb21 _ _ _ ?_
      refine k20 _ _ ?_
      refine wp_region_lit ?_
      refine Y wn rfl (ym (v := .int .i64 x8) (et rfl e1_3)) ?_
      refine Y wn rfl (ysub (et rfl rfl) rfl) ?_
      refine Y wn rfl (ya (v := .int .i64 (ws .i64 x8 1)) (et rfl rfl)) ?_
      refine wpList_nil ?_
      obtain rfl := someI hM1
      exact n1 _ _ _ rfl ⟨_, _, rfl, rfl, e1_0, rfl, hst⟩
  · refine condF (et rfl rfl) (decide_eq_false c15) ?_
    refine wp_exit ?_
    refine z18 _ _ _ rfl ?_
    obtain rfl := someI hM1
    refine zz1 _ _ _ _ rfl rfl ?_
    exact je1_0 _ _ hst (ho1 _ rfl)

theorem matrix_columns_ok {w0 : World} {ros : List Fact} {rs : List Res} {w : World} {x1 : Int} {x2 : Int} {x3 : List Int} {x5 : List Int} {x7 : List Int} {h4 : Hdr} {h6 : Hdr} {h8 : Hdr} {out : Bool} (hM : matrix_columns x1 x2 x3 x5 x7 = some out) (q1 : imm (rI .i64) h4.v x3 ∈ ros) (q2 : imm (rI .i64) h6.v x5 ∈ ros) (q3 : imm (rI .u64) h8.v x7 ∈ ros) (hst : St w0 ros (rs) w) :
    Calls Tryz.prog 49 #[.agg #[.int .i64 x1, .int .i64 x2, h4.v, h6.v, h8.v]] w (fun e w => e = .returned (.bool out) ∧ St w0 (ros) (rs) w) := by
  refine enterQ Tryz.func49 rfl Tryz.ntmps49 rfl fun Q hQ => ?_
  refine seqQ fun Q1 k1 z1 => ?_
  refine wp_region_lit ?_
  refine YB wn rfl (r_box (vals := [.int .i64 x1, .int .i64 x2, h4.v, h6.v, h8.v]) hst (et rfl rfl) rfl) ?_
  clear hst
  intro b9 w hst
  refine Y wn rfl (ya (v := .bool false) rfl) ?_
  refine wpList_nil ?_
  refine k1 _ _ ?_
  refine seqQ fun Q2 k2 z2 => ?_
  refine seqQ fun Q3 k3 z3 => ?_
  obtain ⟨r10, gr10, hM⟩ := bs hM
  obtain ⟨r11, gr11, hM⟩ := bs hM
  obtain ⟨r12, gr12, hM⟩ := bs hM
  obtain ⟨r13, gr13, hM⟩ := bs hM
  refine joinN (n := 84) (fun f w => f 1 = .pointer (some ⟨b9, 0, none⟩) ∧ f 47 = .bool r13 ∧ St w0 (ros) (box b9 27 [.int .i64 x1, .int .i64 x2, h4.v, h6.v, h8.v] :: rs) w) (fun j1 => ?_) ?_
  · rcases iteS gr10 with ⟨c15, gr10⟩ | ⟨c15, gr10⟩
    · obtain ⟨x16, gx16, gr10⟩ := bs gr10
      have hr2 := someI gr10
      rcases iteS gr11 with ⟨c17, gr11⟩ | ⟨c17, gr11⟩
      · have hr3 := someI gr11
        have c18 : r11 = true := hr3.symm
        rw [if_pos c18] at gr12
        have hr4 := someI gr12
        have c19 : r12 = true := hr4.symm
        rw [if_pos c19] at gr13
        have hr5 := someI gr13
        refine wp_drawR [0, 1, 3, 0, 8, 24, 63, 127, 255, 511, 1023, 2047, 4095, 8191, 16383, 32767, 65535, 131071, 262143, 524287, 1048575, 2097151, 4194303, 2097151, 10485759, 33554431, 67108863, 2097151, 136314879, 404750335, 1073741823, 2147483647, 4294967295, 8589934591, 17179869183, 34359738367, 8589934591, 77309411327, 214748364799, 549755813887, 1099511627775] [17] 1 folM (by kernel_rfl) (by kernel_rfl) (by kernel_rfl) ?_
        replace hst := hst.drew
        refine DRn (l1 := [0, 1, 2, 3, 4, 5, 6, 7, 8, 9, 10, 11, 12, 13, 14, 15, 16]) (l2 := []) (lc := [17]) (by kernel_rfl) (by kernel_rfl) (by kernel_rfl) ?_
        refine Ry rfl rfl wn (yFb FL_27_2 (et rfl rfl)) ?_
        refine Ry rfl rfl wn (yLb (u := h4.v) O_22 (et rfl rfl) hst mhR rfl) ?_
        refine Ry rfl rfl wn (yLen SL_22 (et rfl rfl) hst (rdI q1)) ?_
        refine Ry rfl rfl wn (yFb FL_27_1 (et rfl rfl)) ?_
        refine Ry rfl rfl wn (yLb (u := .int .i64 x2) O_3 (et rfl rfl) hst mhR rfl) ?_
        refine Ry rfl rfl wn (yadd (et rfl rfl) rfl) ?_
        refine Ry rfl rfl wn (yneq (et rfl rfl) (et rfl rfl)) ?_
        refine Ry rfl rfl wn (ym (v := .bool (!(decide ((x3.length : Int) = (wa .i64 x2 1))))) (et rfl rfl)) ?_
        refine Ry rfl rfl (wg rfl rfl rfl (nF (decide_eq_true c15))) (yFb FL_27_2 (et rfl rfl)) ?_
        refine Ry rfl rfl (wg rfl rfl rfl (nF (decide_eq_true c15))) (yLb (u := h4.v) O_22 (et rfl rfl) hst mhR rfl) ?_
        refine Ry rfl rfl (wg rfl rfl rfl (nF (decide_eq_true c15))) (yIa SL_22 (et rfl rfl) rfl hst (rdI q1) gx16) ?_
        refine Ry rfl rfl (wg rfl rfl rfl (nF (decide_eq_true c15))) (yI O_3 (et rfl rfl) hst (rdI q1) gx16) ?_
        refine Ry rfl rfl (wg rfl rfl rfl (nF (decide_eq_true c15))) (yneq (et rfl rfl) rfl) ?_
        refine Ry rfl rfl wn (ypf (v := .bool r10) (et rfl rfl) (nF (decide_eq_true c15)) (eqv hr2 (et rfl rfl))) ?_
        refine Ry rfl rfl wn (ym (v := .bool r10) (et rfl rfl)) ?_
        refine Rx rfl rfl (wx rfl rfl rfl c17) ?_
        refine Rx rfl rfl (wx rfl rfl rfl c17) ?_
        refine Rn QSn ?_
        refine Lc rfl ?_ LAn
        refine Lx (wx rfl rfl rfl c17) ?_
        refine DRz (l1 := [18, 19, 20, 21, 22, 23, 24, 25, 26, 27, 28, 29, 30, 31, 32, 33, 34, 35, 36, 37, 38, 39, 40]) (l2 := []) (by kernel_rfl) (by kernel_rfl) ?_
        refine Rx rfl rfl (wx rfl rfl rfl c17) ?_
        refine Ry rfl rfl wn (ypt (v := .bool r11) (et rfl rfl) c17 (eqv hr3 rfl)) ?_
        refine Ry rfl rfl wn (ym (v := .bool r11) (et rfl rfl)) ?_
        refine Rx rfl rfl (wx rfl rfl rfl c18) ?_
        refine Rx rfl rfl (wx rfl rfl rfl c18) ?_
        refine Rx rfl rfl (wx rfl rfl rfl c18) ?_
        refine Rx rfl rfl (wx rfl rfl rfl c18) ?_
        refine Rx rfl rfl (wx rfl rfl rfl c18) ?_
        refine Rx rfl rfl (wx rfl rfl rfl c18) ?_
        refine Rx rfl rfl (wx rfl rfl rfl c18) ?_
        refine Rx rfl rfl (wx rfl rfl rfl c18) ?_
        refine Rx rfl rfl (wx rfl rfl rfl c18) ?_
        refine Rx rfl rfl (wx rfl rfl rfl c18) ?_
        refine Ry rfl rfl wn (ypt (v := .bool r12) (et rfl rfl) c18 (eqv hr4 rfl)) ?_
        refine Ry rfl rfl wn (ym (v := .bool r12) (et rfl rfl)) ?_
        refine Rx rfl rfl (wx rfl rfl rfl c19) ?_
        refine Rx rfl rfl (wx rfl rfl rfl c19) ?_
        refine Rx rfl rfl (wx rfl rfl rfl c19) ?_
        refine Rx rfl rfl (wx rfl rfl rfl c19) ?_
        refine Rx rfl rfl (wx rfl rfl rfl c19) ?_
        refine Rx rfl rfl (wx rfl rfl rfl c19) ?_
        refine Rx rfl rfl (wx rfl rfl rfl c19) ?_
        refine Ry rfl rfl wn (ypt (v := .bool r13) (et rfl rfl) c19 (eqv hr5 rfl)) ?_
        refine Rn QSn ?_
        exact j1 _ _ ⟨rfl, rfl, hst⟩
      · obtain ⟨r20, gr20, gr11⟩ := bs gr11
        have hr6 := someI gr11
        rcases iteS gr12 with ⟨c21, gr12⟩ | ⟨c21, gr12⟩
        · have hr7 := someI gr12
          have c22 : r12 = true := hr7.symm
          rw [if_pos c22] at gr13
          have hr8 := someI gr13
          refine wp_drawR [0, 1, 3, 0, 8, 24, 63, 127, 255, 511, 1023, 2047, 4095, 8191, 16383, 32767, 65535, 131071, 262143, 524287, 1048575, 2097151, 4194303, 2097151, 10485759, 33554431, 67108863, 2097151, 136314879, 404750335, 1073741823, 2147483647, 4294967295, 8589934591, 17179869183, 34359738367, 8589934591, 77309411327, 214748364799, 549755813887, 1099511627775] [17] 1 folM (by kernel_rfl) (by kernel_rfl) (by kernel_rfl) ?_
          replace hst := hst.drew
          refine DRn (l1 := [0, 1, 2, 3, 4, 5, 6, 7, 8, 9, 10, 11, 12, 13, 14, 15, 16]) (l2 := []) (lc := [17]) (by kernel_rfl) (by kernel_rfl) (by kernel_rfl) ?_
          refine Ry rfl rfl wn (yFb FL_27_2 (et rfl rfl)) ?_
          refine Ry rfl rfl wn (yLb (u := h4.v) O_22 (et rfl rfl) hst mhR rfl) ?_
          refine Ry rfl rfl wn (yLen SL_22 (et rfl rfl) hst (rdI q1)) ?_
          refine Ry rfl rfl wn (yFb FL_27_1 (et rfl rfl)) ?_
          refine Ry rfl rfl wn (yLb (u := .int .i64 x2) O_3 (et rfl rfl) hst mhR rfl) ?_
          refine Ry rfl rfl wn (yadd (et rfl rfl) rfl) ?_
          refine Ry rfl rfl wn (yneq (et rfl rfl) (et rfl rfl)) ?_
          refine Ry rfl rfl wn (ym (v := .bool (!(decide ((x3.length : Int) = (wa .i64 x2 1))))) (et rfl rfl)) ?_
          refine Ry rfl rfl (wg rfl rfl rfl (nF (decide_eq_true c15))) (yFb FL_27_2 (et rfl rfl)) ?_
          refine Ry rfl rfl (wg rfl rfl rfl (nF (decide_eq_true c15))) (yLb (u := h4.v) O_22 (et rfl rfl) hst mhR rfl) ?_
          refine Ry rfl rfl (wg rfl rfl rfl (nF (decide_eq_true c15))) (yIa SL_22 (et rfl rfl) rfl hst (rdI q1) gx16) ?_
          refine Ry rfl rfl (wg rfl rfl rfl (nF (decide_eq_true c15))) (yI O_3 (et rfl rfl) hst (rdI q1) gx16) ?_
          refine Ry rfl rfl (wg rfl rfl rfl (nF (decide_eq_true c15))) (yneq (et rfl rfl) rfl) ?_
          refine Ry rfl rfl wn (ypf (v := .bool r10) (et rfl rfl) (nF (decide_eq_true c15)) (eqv hr2 (et rfl rfl))) ?_
          refine Ry rfl rfl wn (ym (v := .bool r10) (et rfl rfl)) ?_
          refine Ry rfl rfl (wg rfl rfl rfl (bfalse c17)) (yFb FL_27_2 (et rfl rfl)) ?_
          refine Ry rfl rfl (wg rfl rfl rfl (bfalse c17)) (yLb (u := h4.v) O_22 (et rfl rfl) hst mhR rfl) ?_
          refine Rn QSn ?_
          refine Lc rfl ?_ LAn
          refine Lk (wg rfl rfl rfl (bfalse c17)) (yCall FN_69 (a1 (et rfl rfl))) (slices_IsSorted_int_ok (hM := gr20) (hst := hst) (q1 := q1)) ?_
          clear hst
          rintro _ w ⟨rfl, hst⟩
          refine ⟨_, rfl, ?_⟩
          refine DRz (l1 := [18, 19, 20, 21, 22, 23, 24, 25, 26, 27, 28, 29, 30, 31, 32, 33, 34, 35, 36, 37, 38, 39, 40]) (l2 := []) (by kernel_rfl) (by kernel_rfl) ?_
          refine Ry rfl rfl (wg rfl rfl rfl (bfalse c17)) (ynot (et rfl rfl)) ?_
          refine Ry rfl rfl wn (ypf (v := .bool r11) (et rfl rfl) (bfalse c17) (eqv hr6 (et rfl rfl))) ?_
          refine Ry rfl rfl wn (ym (v := .bool r11) (et rfl rfl)) ?_
          refine Rx rfl rfl (wx rfl rfl rfl c21) ?_
          refine Rx rfl rfl (wx rfl rfl rfl c21) ?_
          refine Rx rfl rfl (wx rfl rfl rfl c21) ?_
          refine Rx rfl rfl (wx rfl rfl rfl c21) ?_
          refine Rx rfl rfl (wx rfl rfl rfl c21) ?_
          refine Rx rfl rfl (wx rfl rfl rfl c21) ?_
          refine Rx rfl rfl (wx rfl rfl rfl c21) ?_
          refine Rx rfl rfl (wx rfl rfl rfl c21) ?_
          refine Rx rfl rfl (wx rfl rfl rfl c21) ?_
          refine Rx rfl rfl (wx rfl rfl rfl c21) ?_
          refine Ry rfl rfl wn (ypt (v := .bool r12) (et rfl rfl) c21 (eqv hr7 rfl)) ?_
          refine Ry rfl rfl wn (ym (v := .bool r12) (et rfl rfl)) ?_
          refine Rx rfl rfl (wx rfl rfl rfl c22) ?_
          refine Rx rfl rfl (wx rfl rfl rfl c22) ?_
          refine Rx rfl rfl (wx rfl rfl rfl c22) ?_
          refine Rx rfl rfl (wx rfl rfl rfl c22) ?_
          refine Rx rfl rfl (wx rfl rfl rfl c22) ?_
          refine Rx rfl rfl (wx rfl rfl rfl c22) ?_
          refine Rx rfl rfl (wx rfl rfl rfl c22) ?_
          refine Ry rfl rfl wn (ypt (v := .bool r13) (et rfl rfl) c22 (eqv hr8 rfl)) ?_
          refine Rn QSn ?_
          exact j1 _ _ ⟨rfl, rfl, hst⟩
        · obtain ⟨x23, gx23, gr12⟩ := bs gr12
          have hr9 := someI gr12
          rcases iteS gr13 with ⟨c24, gr13⟩ | ⟨c24, gr13⟩
          · have hr10 := someI gr13
            refine wp_drawR [0, 1, 3, 0, 8, 24, 63, 127, 255, 511, 1023, 2047, 4095, 8191, 16383, 32767, 65535, 131071, 262143, 524287, 1048575, 2097151, 4194303, 2097151, 10485759, 33554431, 67108863, 2097151, 136314879, 404750335, 1073741823, 2147483647, 4294967295, 8589934591, 17179869183, 34359738367, 8589934591, 77309411327, 214748364799, 549755813887, 1099511627775] [17] 1 folM (by kernel_rfl) (by kernel_rfl) (by kernel_rfl) ?_
            replace hst := hst.drew
            refine DRn (l1 := [0, 1, 2, 3, 4, 5, 6, 7, 8, 9, 10, 11, 12, 13, 14, 15, 16]) (l2 := []) (lc := [17]) (by kernel_rfl) (by kernel_rfl) (by kernel_rfl) ?_
            refine Ry rfl rfl wn (yFb FL_27_2 (et rfl rfl)) ?_
            refine Ry rfl rfl wn (yLb (u := h4.v) O_22 (et rfl rfl) hst mhR rfl) ?_
            refine Ry rfl rfl wn (yLen SL_22 (et rfl rfl) hst (rdI q1)) ?_
            refine Ry rfl rfl wn (yFb FL_27_1 (et rfl rfl)) ?_
            refine Ry rfl rfl wn (yLb (u := .int .i64 x2) O_3 (et rfl rfl) hst mhR rfl) ?_
            refine Ry rfl rfl wn (yadd (et rfl rfl) rfl) ?_
            refine Ry rfl rfl wn (yneq (et rfl rfl) (et rfl rfl)) ?_
            refine Ry rfl rfl wn (ym (v := .bool (!(decide ((x3.length : Int) = (wa .i64 x2 1))))) (et rfl rfl)) ?_
            refine Ry rfl rfl (wg rfl rfl rfl (nF (decide_eq_true c15))) (yFb FL_27_2 (et rfl rfl)) ?_
            refine Ry rfl rfl (wg rfl rfl rfl (nF (decide_eq_true c15))) (yLb (u := h4.v) O_22 (et rfl rfl) hst mhR rfl) ?_
            refine Ry rfl rfl (wg rfl rfl rfl (nF (decide_eq_true c15))) (yIa SL_22 (et rfl rfl) rfl hst (rdI q1) gx16) ?_
            refine Ry rfl rfl (wg rfl rfl rfl (nF (decide_eq_true c15))) (yI O_3 (et rfl rfl) hst (rdI q1) gx16) ?_
            refine Ry rfl rfl (wg rfl rfl rfl (nF (decide_eq_true c15))) (yneq (et rfl rfl) rfl) ?_
            refine Ry rfl rfl wn (ypf (v := .bool r10) (et rfl rfl) (nF (decide_eq_true c15)) (eqv hr2 (et rfl rfl))) ?_
            refine Ry rfl rfl wn (ym (v := .bool r10) (et rfl rfl)) ?_
            refine Ry rfl rfl (wg rfl rfl rfl (bfalse c17)) (yFb FL_27_2 (et rfl rfl)) ?_
            refine Ry rfl rfl (wg rfl rfl rfl (bfalse c17)) (yLb (u := h4.v) O_22 (et rfl rfl) hst mhR rfl) ?_
            refine Rn QSn ?_
            refine Lc rfl ?_ LAn
            refine Lk (wg rfl rfl rfl (bfalse c17)) (yCall FN_69 (a1 (et rfl rfl))) (slices_IsSorted_int_ok (hM := gr20) (hst := hst) (q1 := q1)) ?_
            clear hst
            rintro _ w ⟨rfl, hst⟩
            refine ⟨_, rfl, ?_⟩
            refine DRz (l1 := [18, 19, 20, 21, 22, 23, 24, 25, 26, 27, 28, 29, 30, 31, 32, 33, 34, 35, 36, 37, 38, 39, 40]) (l2 := []) (by kernel_rfl) (by kernel_rfl) ?_
            refine Ry rfl rfl (wg rfl rfl rfl (bfalse c17)) (ynot (et rfl rfl)) ?_
            refine Ry rfl rfl wn (ypf (v := .bool r11) (et rfl rfl) (bfalse c17) (eqv hr6 (et rfl rfl))) ?_
            refine Ry rfl rfl wn (ym (v := .bool r11) (et rfl rfl)) ?_
            refine Ry rfl rfl (wg rfl rfl rfl (bfalse c21)) (yFb FL_27_2 (et rfl rfl)) ?_
            refine Ry rfl rfl (wg rfl rfl rfl (bfalse c21)) (yLb (u := h4.v) O_22 (et rfl rfl) hst mhR rfl) ?_
            refine Ry rfl rfl (wg rfl rfl rfl (bfalse c21)) (yFb FL_27_1 (et rfl rfl)) ?_
            refine Ry rfl rfl (wg rfl rfl rfl (bfalse c21)) (yLb (u := .int .i64 x2) O_3 (et rfl rfl) hst mhR rfl) ?_
            refine Ry rfl rfl (wg rfl rfl rfl (bfalse c21)) (yIa SL_22 (et rfl rfl) (et rfl rfl) hst (rdI q1) gx23) ?_
            refine Ry rfl rfl (wg rfl rfl rfl (bfalse c21)) (yI O_3 (et rfl rfl) hst (rdI q1) gx23) ?_
            refine Ry rfl rfl (wg rfl rfl rfl (bfalse c21)) (yFb FL_27_3 (et rfl rfl)) ?_
            refine Ry rfl rfl (wg rfl rfl rfl (bfalse c21)) (yLb (u := h6.v) O_22 (et rfl rfl) hst mhR rfl) ?_
            refine Ry rfl rfl (wg rfl rfl rfl (bfalse c21)) (yLen SL_22 (et rfl rfl) hst (rdI q2)) ?_
            refine Ry rfl rfl (wg rfl rfl rfl (bfalse c21)) (yneq (et rfl rfl) (et rfl rfl)) ?_
            refine Ry rfl rfl wn (ypf (v := .bool r12) (et rfl rfl) (bfalse c21) (eqv hr9 (et rfl rfl))) ?_
            refine Ry rfl rfl wn (ym (v := .bool r12) (et rfl rfl)) ?_
            refine Rx rfl rfl (wx rfl rfl rfl c24) ?_
            refine Rx rfl rfl (wx rfl rfl rfl c24) ?_
            refine Rx rfl rfl (wx rfl rfl rfl c24) ?_
            refine Rx rfl rfl (wx rfl rfl rfl c24) ?_
            refine Rx rfl rfl (wx rfl rfl rfl c24) ?_
            refine Rx rfl rfl (wx rfl rfl rfl c24) ?_
            refine Rx rfl rfl (wx rfl rfl rfl c24) ?_
            refine Ry rfl rfl wn (ypt (v := .bool r13) (et rfl rfl) c24 (eqv hr10 rfl)) ?_
            refine Rn QSn ?_
            exact j1 _ _ ⟨rfl, rfl, hst⟩
          · have hr11 := someI gr13
            refine wp_drawR [0, 1, 3, 0, 8, 24, 63, 127, 255, 511, 1023, 2047, 4095, 8191, 16383, 32767, 65535, 131071, 262143, 524287, 1048575, 2097151, 4194303, 2097151, 10485759, 33554431, 67108863, 2097151, 136314879, 404750335, 1073741823, 2147483647, 4294967295, 8589934591, 17179869183, 34359738367, 8589934591, 77309411327, 214748364799, 549755813887, 1099511627775] [17] 1 folM (by kernel_rfl) (by kernel_rfl) (by kernel_rfl) ?_
            replace hst := hst.drew
            refine DRn (l1 := [0, 1, 2, 3, 4, 5, 6, 7, 8, 9, 10, 11, 12, 13, 14, 15, 16]) (l2 := []) (lc := [17]) (by kernel_rfl) (by kernel_rfl) (by kernel_rfl) ?_
            refine Ry rfl rfl wn (yFb FL_27_2 (et rfl rfl)) ?_
            refine Ry rfl rfl wn (yLb (u := h4.v) O_22 (et rfl rfl) hst mhR rfl) ?_
            refine Ry rfl rfl wn (yLen SL_22 (et rfl rfl) hst (rdI q1)) ?_
            refine Ry rfl rfl wn (yFb FL_27_1 (et rfl rfl)) ?_
            refine Ry rfl rfl wn (yLb (u := .int .i64 x2) O_3 (et rfl rfl) hst mhR rfl) ?_
            refine Ry rfl rfl wn (yadd (et rfl rfl) rfl) ?_
            refine Ry rfl rfl wn (yneq (et rfl rfl) (et rfl rfl)) ?_
            refine Ry rfl rfl wn (ym (v := .bool (!(decide ((x3.length : Int) = (wa .i64 x2 1))))) (et rfl rfl)) ?_
            refine Ry rfl rfl (wg rfl rfl rfl (nF (decide_eq_true c15))) (yFb FL_27_2 (et rfl rfl)) ?_
            refine Ry rfl rfl (wg rfl rfl rfl (nF (decide_eq_true c15))) (yLb (u := h4.v) O_22 (et rfl rfl) hst mhR rfl) ?_
            refine Ry rfl rfl (wg rfl rfl rfl (nF (decide_eq_true c15))) (yIa SL_22 (et rfl rfl) rfl hst (rdI q1) gx16) ?_
            refine Ry rfl rfl (wg rfl rfl rfl (nF (decide_eq_true c15))) (yI O_3 (et rfl rfl) hst (rdI q1) gx16) ?_
            refine Ry rfl rfl (wg rfl rfl rfl (nF (decide_eq_true c15))) (yneq (et rfl rfl) rfl) ?_
            refine Ry rfl rfl wn (ypf (v := .bool r10) (et rfl rfl) (nF (decide_eq_true c15)) (eqv hr2 (et rfl rfl))) ?_
            refine Ry rfl rfl wn (ym (v := .bool r10) (et rfl rfl)) ?_
            refine Ry rfl rfl (wg rfl rfl rfl (bfalse c17)) (yFb FL_27_2 (et rfl rfl)) ?_
            refine Ry rfl rfl (wg rfl rfl rfl (bfalse c17)) (yLb (u := h4.v) O_22 (et rfl rfl) hst mhR rfl) ?_
            refine Rn QSn ?_
            refine Lc rfl ?_ LAn
            refine Lk (wg rfl rfl rfl (bfalse c17)) (yCall FN_69 (a1 (et rfl rfl))) (slices_IsSorted_int_ok (hM := gr20) (hst := hst) (q1 := q1)) ?_
            clear hst
            rintro _ w ⟨rfl, hst⟩
            refine ⟨_, rfl, ?_⟩
            refine DRz (l1 := [18, 19, 20, 21, 22, 23, 24, 25, 26, 27, 28, 29, 30, 31, 32, 33, 34, 35, 36, 37, 38, 39, 40]) (l2 := []) (by kernel_rfl) (by kernel_rfl) ?_
            refine Ry rfl rfl (wg rfl rfl rfl (bfalse c17)) (ynot (et rfl rfl)) ?_
            refine Ry rfl rfl wn (ypf (v := .bool r11) (et rfl rfl) (bfalse c17) (eqv hr6 (et rfl rfl))) ?_
            refine Ry rfl rfl wn (ym (v := .bool r11) (et rfl rfl)) ?_
            refine Ry rfl rfl (wg rfl rfl rfl (bfalse c21)) (yFb FL_27_2 (et rfl rfl)) ?_
            refine Ry rfl rfl (wg rfl rfl rfl (bfalse c21)) (yLb (u := h4.v) O_22 (et rfl rfl) hst mhR rfl) ?_
            refine Ry rfl rfl (wg rfl rfl rfl (bfalse c21)) (yFb FL_27_1 (et rfl rfl)) ?_
            refine Ry rfl rfl (wg rfl rfl rfl (bfalse c21)) (yLb (u := .int .i64 x2) O_3 (et rfl rfl) hst mhR rfl) ?_
            refine Ry rfl rfl (wg rfl rfl rfl (bfalse c21)) (yIa SL_22 (et rfl rfl) (et rfl rfl) hst (rdI q1) gx23) ?_
            refine Ry rfl rfl (wg rfl rfl rfl (bfalse c21)) (yI O_3 (et rfl rfl) hst (rdI q1) gx23) ?_
            refine Ry rfl rfl (wg rfl rfl rfl (bfalse c21)) (yFb FL_27_3 (et rfl rfl)) ?_
            refine Ry rfl rfl (wg rfl rfl rfl (bfalse c21)) (yLb (u := h6.v) O_22 (et rfl rfl) hst mhR rfl) ?_
            refine Ry rfl rfl (wg rfl rfl rfl (bfalse c21)) (yLen SL_22 (et rfl rfl) hst (rdI q2)) ?_
            refine Ry rfl rfl (wg rfl rfl rfl (bfalse c21)) (yneq (et rfl rfl) (et rfl rfl)) ?_
            refine Ry rfl rfl wn (ypf (v := .bool r12) (et rfl rfl) (bfalse c21) (eqv hr9 (et rfl rfl))) ?_
            refine Ry rfl rfl wn (ym (v := .bool r12) (et rfl rfl)) ?_
            refine Ry rfl rfl (wg rfl rfl rfl (bfalse c24)) (yFb FL_27_3 (et rfl rfl)) ?_
            refine Ry rfl rfl (wg rfl rfl rfl (bfalse c24)) (yLb (u := h6.v) O_22 (et rfl rfl) hst mhR rfl) ?_
            refine Ry rfl rfl (wg rfl rfl rfl (bfalse c24)) (yLen SL_22 (et rfl rfl) hst (rdI q2)) ?_
            refine Ry rfl rfl (wg rfl rfl rfl (bfalse c24)) (yFb FL_27_4 (et rfl rfl)) ?_
            refine Ry rfl rfl (wg rfl rfl rfl (bfalse c24)) (yLb (u := h8.v) O_25 (et rfl rfl) hst mhR rfl) ?_
            refine Ry rfl rfl (wg rfl rfl rfl (bfalse c24)) (yLen SL_25 (et rfl rfl) hst (rdI q3)) ?_
            refine Ry rfl rfl (wg rfl rfl rfl (bfalse c24)) (yneq (et rfl rfl) (et rfl rfl)) ?_
            refine Ry rfl rfl wn (ypf (v := .bool r13) (et rfl rfl) (bfalse c24) (eqv hr11 (et rfl rfl))) ?_
            refine Rn QSn ?_
            exact j1 _ _ ⟨rfl, rfl, hst⟩
    · have hr12 := someI gr10
      have c25 : r10 = true := hr12.symm
      rw [if_pos c25] at gr11
      have hr13 := someI gr11
      have c26 : r11 = true := hr13.symm
      rw [if_pos c26] at gr12
      have hr14 := someI gr12
      have c27 : r12 = true := hr14.symm
      rw [if_pos c27] at gr13
      have hr15 := someI gr13
      refine wp_drawR [0, 1, 3, 0, 8, 24, 63, 127, 255, 511, 1023, 2047, 4095, 8191, 16383, 32767, 65535, 131071, 262143, 524287, 1048575, 2097151, 4194303, 2097151, 10485759, 33554431, 67108863, 2097151, 136314879, 404750335, 1073741823, 2147483647, 4294967295, 8589934591, 17179869183, 34359738367, 8589934591, 77309411327, 214748364799, 549755813887, 1099511627775] [17] 1 folM (by kernel_rfl) (by kernel_rfl) (by kernel_rfl) ?_
      replace hst := hst.drew
      refine DRn (l1 := [0, 1, 2, 3, 4, 5, 6, 7, 8, 9, 10, 11, 12, 13, 14, 15, 16]) (l2 := []) (lc := [17]) (by kernel_rfl) (by kernel_rfl) (by kernel_rfl) ?_
      refine Ry rfl rfl wn (yFb FL_27_2 (et rfl rfl)) ?_
      refine Ry rfl rfl wn (yLb (u := h4.v) O_22 (et rfl rfl) hst mhR rfl) ?_
      refine Ry rfl rfl wn (yLen SL_22 (et rfl rfl) hst (rdI q1)) ?_
      refine Ry rfl rfl wn (yFb FL_27_1 (et rfl rfl)) ?_
      refine Ry rfl rfl wn (yLb (u := .int .i64 x2) O_3 (et rfl rfl) hst mhR rfl) ?_
      refine Ry rfl rfl wn (yadd (et rfl rfl) rfl) ?_
      refine Ry rfl rfl wn (yneq (et rfl rfl) (et rfl rfl)) ?_
      refine Ry rfl rfl wn (ym (v := .bool (!(decide ((x3.length : Int) = (wa .i64 x2 1))))) (et rfl rfl)) ?_
      refine Rx rfl rfl (wx rfl rfl rfl (nT (decide_eq_false c15))) ?_
      refine Rx rfl rfl (wx rfl rfl rfl (nT (decide_eq_false c15))) ?_
      refine Rx rfl rfl (wx rfl rfl rfl (nT (decide_eq_false c15))) ?_
      refine Rx rfl rfl (wx rfl rfl rfl (nT (decide_eq_false c15))) ?_
      refine Rx rfl rfl (wx rfl rfl rfl (nT (decide_eq_false c15))) ?_
      refine Ry rfl rfl wn (ypt (v := .bool r10) (et rfl rfl) (nT (decide_eq_false c15)) (eqv hr12 rfl)) ?_
      refine Ry rfl rfl wn (ym (v := .bool r10) (et rfl rfl)) ?_
      refine Rx rfl rfl (wx rfl rfl rfl c25) ?_
      refine Rx rfl rfl (wx rfl rfl rfl c25) ?_
      refine Rn QSn ?_
      refine Lc rfl ?_ LAn
      refine Lx (wx rfl rfl rfl c25) ?_
      refine DRz (l1 := [18, 19, 20, 21, 22, 23, 24, 25, 26, 27, 28, 29, 30, 31, 32, 33, 34, 35, 36, 37, 38, 39, 40]) (l2 := []) (by kernel_rfl) (by kernel_rfl) ?_
      refine Rx rfl rfl (wx rfl rfl rfl c25) ?_
      refine Ry rfl rfl wn (ypt (v := .bool r11) (et rfl rfl) c25 (eqv hr13 rfl)) ?_
      refine Ry rfl rfl wn (ym (v := .bool r11) (et rfl rfl)) ?_
      refine Rx rfl rfl (wx rfl rfl rfl c26) ?_
      refine Rx rfl rfl (wx rfl rfl rfl c26) ?_
      refine Rx rfl rfl (wx rfl rfl rfl c26) ?_
      refine Rx rfl rfl (wx rfl rfl rfl c26) ?_
      refine Rx rfl rfl (wx rfl rfl rfl c26) ?_
      refine Rx rfl rfl (wx rfl rfl rfl c26) ?_
      refine Rx rfl rfl (wx rfl rfl rfl c26) ?_
      refine Rx rfl rfl (wx rfl rfl rfl c26) ?_
      refine Rx rfl rfl (wx rfl rfl rfl c26) ?_
      refine Rx rfl rfl (wx rfl rfl rfl c26) ?_
      refine Ry rfl rfl wn (ypt (v := .bool r12) (et rfl rfl) c26 (eqv hr14 rfl)) ?_
      refine Ry rfl rfl wn (ym (v := .bool r12) (et rfl rfl)) ?_
      refine Rx rfl rfl (wx rfl rfl rfl c27) ?_
      refine Rx rfl rfl (wx rfl rfl rfl c27) ?_
      refine Rx rfl rfl (wx rfl rfl rfl c27) ?_
      refine Rx rfl rfl (wx rfl rfl rfl c27) ?_
      refine Rx rfl rfl (wx rfl rfl rfl c27) ?_
      refine Rx rfl rfl (wx rfl rfl rfl c27) ?_
      refine Rx rfl rfl (wx rfl rfl rfl c27) ?_
      refine Ry rfl rfl wn (ypt (v := .bool r13) (et rfl rfl) c27 (eqv hr15 rfl)) ?_
      refine Rn QSn ?_
      exact j1 _ _ ⟨rfl, rfl, hst⟩
  clear hst
  rintro f w ⟨e14_1, e14_47, hst⟩
  refine k3 _ _ ?_
  rcases iteS hM with ⟨c28, hM⟩ | ⟨c28, hM⟩
  · refine condT (et rfl e14_47) c28 ?_
    refine seqQ fun Q4 k4 z4 => ?_
    refine wp_region_lit ?_
    refine Y wn rfl (ya (v := .bool false) rfl) ?_
    refine wpList_nil ?_
    refine k4 _ _ ?_
    refine wp_ret ?_
    refine z2 _ _ _ rfl ?_
    obtain rfl := someI hM
    exact hQ _ _ _ (fin1r Tryz.results49 ⟨rfl, rfl⟩ ⟨rfl, (hst.pk 1 [] rfl)⟩)
  · refine condF (et rfl e14_47) (bfalse c28) ?_
    refine wp_skip ?_
    refine k2 _ _ ?_
    refine seqQ fun Q5 k5 z5 => ?_
    refine seqQ fun Q6 k6 z6 => ?_
    refine wp_region_lit ?_
    refine Y wn rfl (yFb FL_27_1 (et rfl e14_1)) ?_
    refine Y wn rfl (yLb (u := .int .i64 x2) O_3 (et rfl rfl) hst mhR rfl) ?_
    refine Y wn rfl (ym (v := .int .i64 0) rfl) ?_
    refine wpList_nil ?_
    refine k6 _ _ ?_
    refine blockQ fun Q7 qb7 => ?_
    obtain ⟨o24, go24, hM⟩ := bs hM
    have je24_0 : ∀ (f : Nat → Value) (w : World), St w0 (ros) (rs) w → .inl () = o24 → Q7 (.exit 0) (fr 84 f) w := by
      intro f w hst ho
      subst ho
      refine qb7 _ _ _ ?_
      refine k5 _ _ ?_
      refine seqQ fun Q72 k72 z72 => ?_
      refine wp_region_lit ?_
      refine Y wn rfl (ya (v := .bool true) rfl) ?_
      refine wpList_nil ?_
      refine k72 _ _ ?_
      refine wp_ret ?_
      obtain rfl := someI hM
      exact hQ _ _ _ (fin1r Tryz.results49 ⟨rfl, rfl⟩ ⟨rfl, hst⟩)
    have je24_1 : ∀ (f : Nat → Value) (w : World), f 2 = .bool false → St w0 (ros) (rs) w → .inr () = o24 → Q7 .ret (fr 84 f) w := by
      intro f w eje24_1_2 hst ho
      subst ho
      refine qb7 _ _ _ ?_
      refine z5 _ _ _ rfl ?_
      obtain rfl := someI hM
      exact hQ _ _ _ (fin1r Tryz.results49 ⟨rfl, eje24_1_2⟩ ⟨rfl, hst⟩)
    refine loopQ (fun s a w => ∃ (x52 : Int) (f : Nat → Value), x52 = s ∧ a = fr 84 f ∧ f 1 = .pointer (some ⟨b9, 0, none⟩) ∧ f 49 = .int .i64 x2 ∧ f 50 = .int .i64 x52 ∧ St w0 (ros) (box b9 27 [.int .i64 x1, .int .i64 x2, h4.v, h6.v, h8.v] :: rs) w) go24 ⟨_, _, rfl, rfl, e14_1, rfl, rfl, hst⟩ ?_
    clear hst
    rintro _ _ w r24_ ⟨x52, f, rfl, rfl, e24_1, e24_49, e24_50, hst⟩ hM24 ho24 Q100024 n24 zz24
    refine seqQ fun Q73 k73 z73 => ?_
    refine wp_region_lit ?_
    refine Y wn rfl (ylss (et rfl e24_50) (et rfl e24_49)) ?_
    refine wpList_nil ?_
    refine k73 _ _ ?_
    refine seqQ fun Q74 k74 z74 => ?_
    rcases iteS hM24 with ⟨c77, hM24⟩ | ⟨c77, hM24⟩
    · refine condT (et rfl rfl) (decide_eq_true c77) ?_
      refine wp_skip ?_
      refine k74 _ _ ?_
      refine seqQ fun Q75 k75 z75 => ?_
      refine blockQ fun Q76 qb76 => ?_
      refine seqQ fun Q77 k77 z77 => ?_
      refine wp_region_lit ?_
      refine Y wn rfl (ym (v := .int .i64 x52) (et rfl e24_50)) ?_
      refine Y wn rfl (ya (v := .int .i64 x52) (et rfl rfl)) ?_
      refine wpList_nil ?_
      refine k77 _ _ ?_
      refine seqQ fun Q78 k78 z78 => ?_
      refine wp_region_lit ?_
      refine Y wn rfl (ya (v := .int .i64 (-1)) rfl) ?_
      refine wpList_nil ?_
      refine k78 _ _ ?_
      refine seqQ fun Q79 k79 z79 => ?_
      obtain ⟨x78, gx78, hM24⟩ := bs hM24
      obtain ⟨x79, gx79, hM24⟩ := bs hM24
      obtain ⟨x80, gx80, hM24⟩ := bs hM24
      refine wp_drawR [0, 1, 0, 4, 0, 28, 60, 0, 128, 0, 512, 1920, 3968, 8191, 16383, 0] [] 0 folM (by kernel_rfl) (by kernel_rfl) (by kernel_rfl) ?_
      replace hst := hst.drew
      refine DRz (l1 := [0, 1, 2, 3, 4, 5, 6, 7, 8, 9, 10, 11, 12, 13, 14, 15]) (l2 := []) (by kernel_rfl) (by kernel_rfl) ?_
      refine Ry rfl rfl wn (yFb FL_27_3 (et rfl e24_1)) ?_
      refine Ry rfl rfl wn (yLb (u := h6.v) O_22 (et rfl rfl) hst mhR rfl) ?_
      refine Ry rfl rfl wn (yFb FL_27_2 (et rfl e24_1)) ?_
      refine Ry rfl rfl wn (yLb (u := h4.v) O_22 (et rfl rfl) hst mhR rfl) ?_
      refine Ry rfl rfl wn (ym (v := .int .i64 x52) (et rfl rfl)) ?_
      refine Ry rfl rfl wn (yIa SL_22 (et rfl rfl) (et rfl rfl) hst (rdI q1) gx78) ?_
      refine Ry rfl rfl wn (yI O_3 (et rfl rfl) hst (rdI q1) gx78) ?_
      refine Ry rfl rfl wn (yFb FL_27_2 (et rfl e24_1)) ?_
      refine Ry rfl rfl wn (yLb (u := h4.v) O_22 (et rfl rfl) hst mhR rfl) ?_
      refine Ry rfl rfl wn (ym (v := .int .i64 x52) (et rfl rfl)) ?_
      refine Ry rfl rfl wn (yadd (et rfl rfl) rfl) ?_
      refine Ry rfl rfl wn (yIa SL_22 (et rfl rfl) (et rfl rfl) hst (rdI q1) gx79) ?_
      refine Ry rfl rfl wn (yI O_3 (et rfl rfl) hst (rdI q1) gx79) ?_
      refine Ry rfl rfl wn (ySl SL_22 (et rfl rfl) hst (rdI q2) (.inl (congrArg some (et rfl rfl))) (.inl (congrArg some (et rfl rfl))) gx80) ?_
      replace hst := hst.sub q2 gx80
      refine Ry rfl rfl wn (yLen SL_22 (et rfl rfl) hst (rdI mhF)) ?_
      refine Ry rfl rfl wn (ym (v := .int .i64 0) rfl) ?_
      refine Rn QSn ?_
      refine k79 _ _ ?_
      refine blockQ fun Q80 qb80 => ?_
      obtain ⟨o27, go27, hM24⟩ := bs hM24
      have je27_0 : ∀ (f : Nat → Value) (w : World), f 1 = .pointer (some ⟨b9, 0, none⟩) → f 49 = .int .i64 x2 → f 50 = .int .i64 x52 → St w0 (ros) (box b9 27 [.int .i64 x1, .int .i64 x2, h4.v, h6.v, h8.v] :: rs) w → .inl () = o27 → Q80 (.exit 2) (fr 84 f) w := by
        intro f w eje27_0_1 eje27_0_49 eje27_0_50 hst ho
        subst ho
        refine qb80 _ _ _ ?_
        refine qb76 _ _ _ ?_
        refine k75 _ _ ?_
        refine wp_region_lit ?_
        refine Y wn rfl (yadd (et rfl eje27_0_50) rfl) ?_
        refine Y wn rfl (ym (v := .int .i64 (wa .i64 x52 1)) (et rfl rfl)) ?_
        refine wpList_nil ?_
        obtain rfl := someI hM24
        exact n24 _ _ _ rfl ⟨_, _, rfl, rfl, eje27_0_1, eje27_0_49, rfl, hst⟩
      have je27_1 : ∀ (f : Nat → Value) (w : World), f 2 = .bool false → St w0 (ros) (rs) w → .inr () = o27 → Q80 .ret (fr 84 f) w := by
        intro f w eje27_1_2 hst ho
        subst ho
        refine qb80 _ _ _ ?_
        refine qb76 _ _ _ ?_
        refine z75 _ _ _ rfl ?_
        obtain rfl := someI hM24
        refine zz24 _ _ _ _ rfl rfl ?_
        exact je24_1 _ _ eje27_1_2 hst (ho24 _ rfl)
      refine loopQ (fun s a w => ∃ (x86 : Int) (x87 : Int) (f : Nat → Value), (x86, x87) = s ∧ a = fr 84 f ∧ f 1 = .pointer (some ⟨b9, 0, none⟩) ∧ f 4 = .int .i64 x86 ∧ f 49 = .int .i64 x2 ∧ f 50 = .int .i64 x52 ∧ f 66 = (subH h6 1 x78 x79).v ∧ f 67 = .int .i64 (x80.length : Int) ∧ f 68 = .int .i64 x87 ∧ St w0 (imm (rI .i64) (subH h6 1 x78 x79).v x80 :: ros) (box b9 27 [.int .i64 x1, .int .i64 x2, h4.v, h6.v, h8.v] :: rs) w) go27 ⟨_, _, _, rfl, rfl, e24_1, rfl, e24_49, e24_50, rfl, rfl, rfl, hst⟩ ?_
      clear hst
      rintro _ _ w r27_ ⟨x86, x87, f, rfl, rfl, e27_1, e27_4, e27_49, e27_50, e27_66, e27_67, e27_68, hst⟩ hM27 ho27 Q100027 n27 zz27
      refine seqQ fun Q97 k97 z97 => ?_
      refine wp_region_lit ?_
      refine Y wn rfl (ylss (et rfl e27_68) (et rfl e27_67)) ?_
      refine wpList_nil ?_
      refine k97 _ _ ?_
      refine seqQ fun Q98 k98 z98 => ?_
      rcases iteS hM27 with ⟨c95, hM27⟩ | ⟨c95, hM27⟩
      · refine condT (et rfl rfl) (decide_eq_true c95) ?_
        refine wp_skip ?_
        refine k98 _ _ ?_
        refine seqQ fun Q99 k99 z99 => ?_
        refine blockQ fun Q100 qb100 => ?_
        refine seqQ fun Q101 k101 z101 => ?_
        refine wp_region_lit ?_
        obtain ⟨x96, gx96, hM27⟩ := bs hM27
        refine Y wn rfl (yIa SL_22 (et rfl e27_66) (et rfl e27_68) hst (rdI mhF) gx96) ?_
        refine Y wn rfl (yI O_3 (et rfl rfl) hst (rdI mhF) gx96) ?_
        refine Y wn rfl (ya (v := .int .i64 x96) (et rfl rfl)) ?_
        refine wpList_nil ?_
        refine k101 _ _ ?_
        refine seqQ fun Q102 k102 z102 => ?_
        refine seqQ fun Q103 k103 z103 => ?_
        refine wp_region_lit ?_
        refine Y wn rfl (ym (v := .int .i64 x96) (et rfl rfl)) ?_
        refine Y wn rfl (ym (v := .int .i64 x86) (et rfl e27_4)) ?_
        refine Y wn rfl (yleq (et rfl rfl) (et rfl rfl)) ?_
        refine Y wn rfl (ym (v := .bool (decide (x96 ≤ x86))) (et rfl rfl)) ?_
        refine joinW 5 (fun f w => f 1 = .pointer (some ⟨b9, 0, none⟩) ∧ f 6 = .int .i64 x96 ∧ f 49 = .int .i64 x2 ∧ f 50 = .int .i64 x52 ∧ f 66 = (subH h6 1 x78 x79).v ∧ f 67 = .int .i64 (x80.length : Int) ∧ f 68 = .int .i64 x87 ∧ f 80 = .bool ((decide (x96 ≤ x86)) || (decide (x1 ≤ x96))) ∧ St w0 (imm (rI .i64) (subH h6 1 x78 x79).v x80 :: ros) (box b9 27 [.int .i64 x1, .int .i64 x2, h4.v, h6.v, h8.v] :: rs) w) (fun j28 => ?_) ?_
        · rcases Bool.eq_false_or_eq_true (decide (x96 ≤ x86)) with c98 | c98
          · refine Gn (wx rfl rfl rfl c98) rfl ?_
            refine Gn (wx rfl rfl rfl c98) rfl ?_
            refine Gn (wx rfl rfl rfl c98) rfl ?_
            refine Gn (wx rfl rfl rfl c98) rfl ?_
            refine Y wn rfl (ypt (v := .bool true) (et rfl rfl) c98 rfl) ?_
            exact j28 _ _ ⟨e27_1, rfl, e27_49, e27_50, e27_66, e27_67, e27_68, (congrArg Value.bool (orT c98)), hst⟩
          · refine Y (wg rfl rfl rfl c98) rfl (ym (v := .int .i64 x96) (et rfl rfl)) ?_
            refine Y (wg rfl rfl rfl c98) rfl (yFb FL_27_0 (et rfl e27_1)) ?_
            refine Y (wg rfl rfl rfl c98) rfl (yLb (u := .int .i64 x1) O_3 (et rfl rfl) hst mhR rfl) ?_
            refine Y (wg rfl rfl rfl c98) rfl (ygeq (et rfl rfl) (et rfl rfl)) ?_
            refine Y wn rfl (ypf (v := .bool (decide (x1 ≤ x96))) (et rfl rfl) c98 (et rfl rfl)) ?_
            exact j28 _ _ ⟨e27_1, rfl, e27_49, e27_50, e27_66, e27_67, e27_68, (congrArg Value.bool (orF c98)), hst⟩
        clear hst
        rintro f w ⟨e97_1, e97_6, e97_49, e97_50, e97_66, e97_67, e97_68, e97_80, hst⟩
        refine wpList_nil ?_
        refine k103 _ _ ?_
        rcases iteS hM27 with ⟨c99, hM27⟩ | ⟨c99, hM27⟩
        · refine condT (et rfl e97_80) c99 ?_
          refine seqQ fun Q104 k104 z104 => ?_
          refine wp_region_lit ?_
          refine Y wn rfl (ya (v := .bool false) rfl) ?_
          refine wpList_nil ?_
          refine k104 _ _ ?_
          refine wp_ret ?_
          refine z102 _ _ _ rfl ?_
          refine qb100 _ _ _ ?_
          refine z99 _ _ _ rfl ?_
          obtain rfl := someI hM27
          refine zz27 _ _ _ _ rfl rfl ?_
          exact je27_1 _ _ rfl ((hst.pk 1 [] rfl).facts (allT allI)) (ho27 _ rfl)
        · refine condF (et rfl e97_80) (bfalse c99) ?_
          refine wp_skip ?_
          refine k102 _ _ ?_
          refine wp_region_lit ?_
          refine Y wn rfl (ym (v := .int .i64 x96) (et rfl e97_6)) ?_
          refine Y wn rfl (ya (v := .int .i64 x96) (et rfl rfl)) ?_
          refine wpList_nil ?_
          refine qb100 _ _ _ ?_
          refine k99 _ _ ?_
          refine wp_region_lit ?_
          refine Y wn rfl (yadd (et rfl e97_68) rfl) ?_
          refine Y wn rfl (ym (v := .int .i64 (wa .i64 x87 1)) (et rfl rfl)) ?_
          refine wpList_nil ?_
          obtain rfl := someI hM27
          exact n27 _ _ _ rfl ⟨_, _, _, rfl, rfl, e97_1, rfl, e97_49, e97_50, e97_66, e97_67, rfl, hst⟩
      · refine condF (et rfl rfl) (decide_eq_false c95) ?_
        refine wp_exit ?_
        refine z98 _ _ _ rfl ?_
        obtain rfl := someI hM27
        refine zz27 _ _ _ _ rfl rfl ?_
        exact je27_0 _ _ e27_1 e27_49 e27_50 (hst.facts (allT allI)) (ho27 _ rfl)
    · refine condF (et rfl rfl) (decide_eq_false c77) ?_
      refine wp_exit ?_
      refine z74 _ _ _ rfl ?_
      obtain rfl := someI hM24
      refine zz24 _ _ _ _ rfl rfl ?_
      exact je24_0 _ _ (hst.pk 1 [] rfl) (ho24 _ rfl)

theorem float_parts_ok {w0 : World} {ros : List Fact} {rs : List Res} {w : World} {x1 : Int} {out : Int × Int} (hM : float_parts x1 = some out) (hst : St w0 ros (rs) w) :
    Calls Tryz.prog 71 #[.int .u64 x1] w (fun e w => e = .returned (.tuple #[.int .i64 out.1, .int .u64 out.2]) ∧ St w0 (ros) (rs) w) := by
  refine enterQ Tryz.func71 rfl Tryz.ntmps71 rfl fun Q hQ => ?_
  refine seqQ fun Q1 k1 z1 => ?_
  refine wp_region_lit ?_
  refine Y wn rfl (ya (v := .int .i64 0) rfl) ?_
  refine Y wn rfl (ya (v := .int .u64 0) rfl) ?_
  refine wpList_nil ?_
  refine k1 _ _ ?_
  refine seqQ fun Q2 k2 z2 => ?_
  refine wp_region_lit ?_
  refine Y wn rfl (ym (v := .int .u64 x1) (et rfl rfl)) ?_
  refine Y wn rfl (yshrc (et rfl rfl) rfl) ?_
  refine Y wn rfl (yand (et rfl rfl) rfl) ?_
  refine Y wn rfl (ycv (k' := .i64) (by kernel_rfl) (by kernel_rfl) (et rfl rfl)) ?_
  refine Y wn rfl (ym (v := .int .u64 x1) (et rfl rfl)) ?_
  refine Y wn rfl (yand (et rfl rfl) rfl) ?_
  refine Y wn rfl (ya (v := .int .i64 (wc .i64 (wand .u64 (wsrc .u64 x1 52) 2047))) (et rfl rfl)) ?_
  refine Y wn rfl (ya (v := .int .u64 (wand .u64 x1 4503599627370495)) (et rfl rfl)) ?_
  refine wpList_nil ?_
  refine k2 _ _ ?_
  refine wp_ret ?_
  obtain rfl := someI hM
  exact hQ _ _ _ (fin2r Tryz.results71 ⟨rfl, rfl⟩ ⟨rfl, rfl⟩ ⟨rfl, hst⟩)

theorem float_IsFinite_ok {w0 : World} {ros : List Fact} {rs : List Res} {w : World} {x1 : Int} {out : Bool} (hM : float_IsFinite x1 = some out) (hst : St w0 ros (rs) w) :
    Calls Tryz.prog 52 #[.int .u64 x1] w (fun e w => e = .returned (.bool out) ∧ St w0 (ros) (rs) w) := by
  refine enterQ Tryz.func52 rfl Tryz.ntmps52 rfl fun Q hQ => ?_
  refine seqQ fun Q1 k1 z1 => ?_
  refine wp_region_lit ?_
  refine Y wn rfl (ya (v := .bool false) rfl) ?_
  refine wpList_nil ?_
  refine k1 _ _ ?_
  refine seqQ fun Q2 k2 z2 => ?_
  refine wp_region_lit ?_
  refine Y wn rfl (ym (v := .int .u64 x1) (et rfl rfl)) ?_
  obtain ⟨r2, gr2, hM⟩ := bs hM
  refine Yc wn rfl (yCall FN_71 (a1 (et rfl rfl))) (float_parts_ok (hM := gr2) (hst := hst) ) ?_
  clear hst
  rintro _ w ⟨rfl, hst⟩
  refine ⟨_, rfl, ?_⟩
  refine Y wn rfl (ym (v := .tuple #[.int .i64 r2.1, .int .u64 r2.2]) (et rfl rfl)) ?_
  refine Y wn rfl (yx (v := .int .i64 r2.1) (et rfl rfl) rfl) ?_
  refine Y wn rfl (yx (v := .int .u64 r2.2) (et rfl rfl) rfl) ?_
  refine Y wn rfl (ya (v := .int .i64 r2.1) (et rfl rfl)) ?_
  refine Y wn rfl (ya (v := .int .u64 r2.2) (et rfl rfl)) ?_
  refine wpList_nil ?_
  refine k2 _ _ ?_
  refine seqQ fun Q3 k3 z3 => ?_
  refine wp_region_lit ?_
  refine Y wn rfl (ym (v := .int .i64 r2.1) (et rfl rfl)) ?_
  refine Y wn rfl (yneq (et rfl rfl) rfl) ?_
  refine Y wn rfl (ya (v := .bool (!(decide (r2.1 = 2047)))) (et rfl rfl)) ?_
  refine wpList_nil ?_
  refine k3 _ _ ?_
  refine wp_ret ?_
  obtain rfl := someI hM
  exact hQ _ _ _ (fin1r Tryz.results52 ⟨rfl, rfl⟩ ⟨rfl, hst⟩)

theorem matrix_Check_1_ok {w0 : World} {ros : List Fact} {rs : List Res} {w : World} {x1 : Int} {out : Bool} (hM : matrix_Check_1 x1 = some out) (hst : St w0 ros (rs) w) :
    Calls Tryz.prog 51 #[.int .u64 x1] w (fun e w => e = .returned (.bool out) ∧ St w0 (ros) (rs) w) := by
  refine enterQ Tryz.func51 rfl Tryz.ntmps51 rfl fun Q hQ => ?_
  refine seqQ fun Q1 k1 z1 => ?_
  refine wp_region_lit ?_
  refine Y wn rfl (ya (v := .bool false) rfl) ?_
  refine wpList_nil ?_
  refine k1 _ _ ?_
  refine seqQ fun Q2 k2 z2 => ?_
  refine wp_region_lit ?_
  refine Y wn rfl (ym (v := .int .u64 x1) (et rfl rfl)) ?_
  obtain ⟨r2, gr2, hM⟩ := bs hM
  refine Yc wn rfl (yCall FN_52 (a1 (et rfl rfl))) (float_IsFinite_ok (hM := gr2) (hst := hst) ) ?_
  clear hst
  rintro _ w ⟨rfl, hst⟩
  refine ⟨_, rfl, ?_⟩
  refine Y wn rfl (ynot (et rfl rfl)) ?_
  refine Y wn rfl (ya (v := .bool (!(r2))) (et rfl rfl)) ?_
  refine wpList_nil ?_
  refine k2 _ _ ?_
  refine wp_ret ?_
  obtain rfl := someI hM
  exact hQ _ _ _ (fin1r Tryz.results51 ⟨rfl, rfl⟩ ⟨rfl, hst⟩)

theorem slices_IndexFunc_apiFloat_ok {w0 : World} {ros : List Fact} {rs : List Res} {w : World} {x1 : List Int} {h2 : Hdr} {out : Int} (hM : slices_IndexFunc_apiFloat x1 = some out) (q1 : imm (rI .u64) h2.v x1 ∈ ros) (hst : St w0 ros (rs) w) :
    Calls Tryz.prog 70 #[h2.v, .func (.func 51) #[] #[]] w (fun e w => e = .returned (.int .i64 out) ∧ St w0 (ros) (rs) w) := by
  refine enterQ Tryz.func70 rfl Tryz.ntmps70 rfl fun Q hQ => ?_
  refine seqQ fun Q1 k1 z1 => ?_
  refine wp_region_lit ?_
  refine Y wn rfl (ya (v := .int .i64 0) rfl) ?_
  refine wpList_nil ?_
  refine k1 _ _ ?_
  refine seqQ fun Q2 k2 z2 => ?_
  refine seqQ fun Q3 k3 z3 => ?_
  refine wp_region_lit ?_
  refine Y wn rfl (ym (v := h2.v) (et rfl rfl)) ?_
  refine Y wn rfl (yLen SL_25 (et rfl rfl) hst (rdI q1)) ?_
  refine Y wn rfl (ym (v := .int .i64 0) rfl) ?_
  refine wpList_nil ?_
  refine k3 _ _ ?_
  refine blockQ fun Q4 qb4 => ?_
  obtain ⟨o1, go1, hM⟩ := bs hM
  have je1_0 : ∀ (f : Nat → Value) (w : World), St w0 (ros) (rs) w → .inl () = o1 → Q4 (.exit 0) (fr 19 f) w := by
    intro f w hst ho
    subst ho
    refine qb4 _ _ _ ?_
    refine k2 _ _ ?_
    refine seqQ fun Q19 k19 z19 => ?_
    refine wp_region_lit ?_
    refine Y wn rfl (ya (v := .int .i64 (-1)) rfl) ?_
    refine wpList_nil ?_
    refine k19 _ _ ?_
    refine wp_ret ?_
    obtain rfl := someI hM
    exact hQ _ _ _ (fin1r Tryz.results70 ⟨rfl, rfl⟩ ⟨rfl, hst⟩)
  have je1_1 : ∀ (x13 : Int) (f : Nat → Value) (w : World), f 4 = .int .i64 x13 → St w0 (ros) (rs) w → .inr x13 = o1 → Q4 .ret (fr 19 f) w := by
    intro x13 f w eje1_1_4 hst ho
    subst ho
    refine qb4 _ _ _ ?_
    refine z2 _ _ _ rfl ?_
    obtain rfl := someI hM
    exact hQ _ _ _ (fin1r Tryz.results70 ⟨rfl, eje1_1_4⟩ ⟨rfl, hst⟩)
  refine loopQ (fun s a w => ∃ (x7 : Int) (f : Nat → Value), x7 = s ∧ a = fr 19 f ∧ f 0 = h2.v ∧ f 1 = .func (.func 51) #[] #[] ∧ f 7 = .int .i64 (x1.length : Int) ∧ f 8 = .int .i64 x7 ∧ St w0 (ros) (rs) w) go1 ⟨_, _, rfl, rfl, rfl, rfl, rfl, rfl, hst⟩ ?_
  clear hst
  rintro _ _ w r1_ ⟨x7, f, rfl, rfl, e1_0, e1_1, e1_7, e1_8, hst⟩ hM1 ho1 Q100001 n1 zz1
  refine seqQ fun Q20 k20 z20 => ?_
  refine wp_region_lit ?_
  refine Y wn rfl (ylss (et rfl e1_8) (et rfl e1_7)) ?_
  refine wpList_nil ?_
  refine k20 _ _ ?_
  refine seqQ fun Q21 k21 z21 => ?_
  rcases iteS hM1 with ⟨c14, hM1⟩ | ⟨c14, hM1⟩
  · refine condT (et rfl rfl) (decide_eq_true c14) ?_
    refine wp_skip ?_
    refine k21 _ _ ?_
    refine seqQ fun Q22 k22 z22 => ?_
    refine blockQ fun Q23 qb23 => ?_
    refine seqQ fun Q24 k24 z24 => ?_
    refine wp_region_lit ?_
    refine Y wn rfl (ym (v := .int .i64 x7) (et rfl e1_8)) ?_
    refine Y wn rfl (ya (v := .int .i64 x7) (et rfl rfl)) ?_
    refine wpList_nil ?_
    refine k24 _ _ ?_
    refine seqQ fun Q25 k25 z25 => ?_
    refine wp_region_lit ?_
    refine Y wn rfl (ym (v := .func (.func 51) #[] #[]) (et rfl e1_1)) ?_
    refine Y wn rfl (ym (v := h2.v) (et rfl e1_0)) ?_
    refine Y wn rfl (ym (v := .int .i64 x7) (et rfl rfl)) ?_
    obtain ⟨x15, gx15, hM1⟩ := bs hM1
    refine Y wn rfl (yIa SL_25 (et rfl rfl) (et rfl rfl) hst (rdI q1) gx15) ?_
    refine Y wn rfl (yI O_46 (et rfl rfl) hst (rdI q1) gx15) ?_
    obtain ⟨r16, gr16, hM1⟩ := bs hM1
    refine Yc wn rfl (yCallw FN_51 (et rfl rfl) (a1 (et rfl rfl))) (matrix_Check_1_ok (hM := gr16) (hst := hst) ) ?_
    clear hst
    rintro _ w ⟨rfl, hst⟩
    refine ⟨_, rfl, ?_⟩
    refine wpList_nil ?_
    refine k25 _ _ ?_
    rcases iteS hM1 with ⟨c17, hM1⟩ | ⟨c17, hM1⟩
    · refine condT (et rfl rfl) c17 ?_
      refine seqQ fun Q26 k26 z26 => ?_
      refine wp_region_lit ?_
      refine Y wn rfl (ym (v := .int .i64 x7) (et rfl rfl)) ?_
      refine Y wn rfl (ya (v := .int .i64 x7) (et rfl rfl)) ?_
      refine wpList_nil ?_
      refine k26 _ _ ?_
      refine wp_ret ?_
      refine qb23 _ _ _ ?_
      refine z22 _ _ _ rfl ?_
      obtain rfl := someI hM1
      refine zz1 _ _ _ _ rfl rfl ?_
      exact je1_1 _ _ _ rfl hst (ho1 _ rfl)
    · refine condF (et rfl rfl) (bfalse c17) ?_
      refine wp_skip ?_
      refine qb23 _ _ _ ?_
      refine k22 _ _ ?_
      refine wp_region_lit ?_
      refine Y wn rfl (yadd (et rfl e1_8) rfl) ?_
      refine Y wn rfl (ym (v := .int .i64 (wa .i64 x7 1)) (et rfl rfl)) ?_
      refine wpList_nil ?_
      obtain rfl := someI hM1
      exact n1 _ _ _ rfl ⟨_, _, rfl, rfl, e1_0, e1_1, e1_7, rfl, hst⟩
  · refine condF (et rfl rfl) (decide_eq_false c14) ?_
    refine wp_exit ?_
    refine z21 _ _ _ rfl ?_
    obtain rfl := someI hM1
    refine zz1 _ _ _ _ rfl rfl ?_
    exact je1_0 _ _ hst (ho1 _ rfl)
end Go.Proofs.YtcknmegldjnjjaaGreatDoor
