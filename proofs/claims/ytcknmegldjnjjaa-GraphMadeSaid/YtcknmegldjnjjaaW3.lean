/- Walks: each function computes its model, printed. -/
import Derived.Test.YtcknmegldjnjjaaW2
namespace Go.Proofs.Ytcknmegldjnjjaa
open Go Sx M
set_option maxRecDepth 100000
set_option maxHeartbeats 400000
set_option linter.unusedVariables false
attribute [local irreducible] wpList Code.wp Calls DR QR QS LA LS St
theorem sparselaw12_GraphPeripheral_ok {w0 : World} {ros : List Fact} {rs : List Res} {w : World} {x1 : Int} {x2 : List Int} {x4 : Int} {h3 : Hdr} {out : Bool} (hM : sparselaw12_GraphPeripheral x1 x2 x4 = some out) (q1 : imm (rI .i64) h3.v x2 ∈ ros) (hst : St w0 ros (rs) w) :
    Calls Try.prog 5 #[.int .i64 x1, h3.v, .int .i64 x4] w (fun e w => e = .returned (.bool out) ∧ St w0 (ros) (rs) w) := by
  refine enterQ Try.func5 rfl Try.ntmps5 rfl fun Q hQ => ?_
  refine seqQ fun Q1 k1 z1 => ?_
  refine wp_region_lit ?_
  refine Y wn rfl (ya (v := .bool false) rfl) ?_
  refine wpList_nil ?_
  refine k1 _ _ ?_
  refine seqQ fun Q2 k2 z2 => ?_
  refine seqQ fun Q3 k3 z3 => ?_
  refine wp_region_lit ?_
  refine Y wn rfl (ym (v := h3.v) (et rfl rfl)) ?_
  refine Y wn rfl (yLen SL_22 (et rfl rfl) hst (rdI q1)) ?_
  refine Y wn rfl (ygtr (et rfl rfl) rfl) ?_
  refine wpList_nil ?_
  refine k3 _ _ ?_
  rcases iteS hM with ⟨c5, hM⟩ | ⟨c5, hM⟩
  · refine condT (et rfl rfl) (decide_eq_true c5) ?_
    refine seqQ fun Q4 k4 z4 => ?_
    refine wp_region_lit ?_
    obtain ⟨r6, gr6, hM⟩ := bs hM
    refine Yc wn rfl (yCall FN_9 a0) (sparselaw12_awake_ok (hM := gr6) (hst := hst) ) ?_
    clear hst
    rintro _ w ⟨rfl, hst⟩
    refine ⟨_, rfl, ?_⟩
    refine Y wn rfl (ya (v := .bool r6) (et rfl rfl)) ?_
    refine wpList_nil ?_
    refine k4 _ _ ?_
    refine wp_ret ?_
    refine z2 _ _ _ rfl ?_
    obtain rfl := someI hM
    exact hQ _ _ _ (fin1r Try.results5 ⟨rfl, rfl⟩ ⟨rfl, hst⟩)
  · refine condF (et rfl rfl) (decide_eq_false c5) ?_
    refine wp_skip ?_
    refine k2 _ _ ?_
    refine seqQ fun Q5 k5 z5 => ?_
    refine wp_region_lit ?_
    refine Y wn rfl (ym (v := .int .i64 x1) (et rfl rfl)) ?_
    obtain ⟨r7, gr7, hM⟩ := bs hM
    refine Yc wn rfl (yCall FN_10 (a2 (et rfl rfl) rfl)) (sparsekit_Place_ok (hM := gr7) (hst := hst) ) ?_
    clear hst
    rintro _ w ⟨rfl, hst⟩
    refine ⟨_, rfl, ?_⟩
    refine Y wn rfl (yadd rfl (et rfl rfl)) ?_
    refine Y wn rfl (ya (v := .int .i64 (wa .i64 1 r7)) (et rfl rfl)) ?_
    refine wpList_nil ?_
    refine k5 _ _ ?_
    refine seqQ fun Q6 k6 z6 => ?_
    refine wp_region_lit ?_
    refine Y wn rfl (ym (v := .int .i64 (wa .i64 1 r7)) (et rfl rfl)) ?_
    refine Y wn rfl (ym (v := h3.v) (et rfl rfl)) ?_
    obtain ⟨r8, gr8, hM⟩ := bs hM
    refine Yc wn rfl (yCall FN_11 (a2 (et rfl rfl) (et rfl rfl))) (sparsemake_Graph_ok (hM := gr8) (hst := hst) (q1 := q1)) ?_
    clear hst
    rintro _ w ⟨h9, rfl, hst⟩
    refine ⟨_, rfl, ?_⟩
    refine YB wn rfl (rAl hst ZT_27) ?_
    clear hst
    intro b10 w hst
    refine YT wn rfl (r_stbn (vals' := [h9.v]) (us := [h9.v]) hst ST_27 (et rfl rfl) (et rfl rfl) rfl rfl (one_of rfl) rfl) ?_
    clear hst
    intro w hst
    refine wpList_nil ?_
    refine k6 _ _ ?_
    refine seqQ fun Q7 k7 z7 => ?_
    refine wp_region_lit ?_
    refine Y wn rfl (ym (v := .int .i64 x4) (et rfl rfl)) ?_
    refine Y wn rfl (ym (v := .int .i64 (wa .i64 1 r7)) (et rfl rfl)) ?_
    obtain ⟨r11, gr11, hM⟩ := bs hM
    refine Yc wn rfl (yCall FN_10 (a2 (et rfl rfl) (et rfl rfl))) (sparsekit_Place_ok (hM := gr11) (hst := hst) ) ?_
    clear hst
    rintro _ w ⟨rfl, hst⟩
    refine ⟨_, rfl, ?_⟩
    refine Y wn rfl (ya (v := .int .i64 r11) (et rfl rfl)) ?_
    refine wpList_nil ?_
    refine k7 _ _ ?_
    refine seqQ fun Q8 k8 z8 => ?_
    refine wp_region_lit ?_
    refine Y wn rfl (yLbs (us := [h9.v]) ST_27 (et rfl rfl) hst mhR rfl rfl) ?_
    refine Y wn rfl (ym (v := .int .i64 r11) (et rfl rfl)) ?_
    obtain ⟨r12, gr12, hM⟩ := bs hM
    replace hst := hst.pk 2 [1, 0] rfl
    replace hst := hst.fz
    refine Yc wn rfl (yCall FN_17 (a2 (et rfl rfl) (et rfl rfl))) (graph_Peripheral_ok (hM := gr12) (hst := hst) (q1 := mhF)) ?_
    clear hst
    rintro _ w ⟨rfl, hst⟩
    refine ⟨_, rfl, ?_⟩
    refine Y wn rfl (ya (v := .int .i64 r12) (et rfl rfl)) ?_
    refine wpList_nil ?_
    refine k8 _ _ ?_
    refine seqQ fun Q9 k9 z9 => ?_
    refine seqQ fun Q10 k10 z10 => ?_
    refine wp_region_lit ?_
    refine Y wn rfl (ym (v := .int .i64 r12) (et rfl rfl)) ?_
    refine Y wn rfl (ylss (et rfl rfl) rfl) ?_
    refine Y wn rfl (ym (v := .bool (decide (r12 < 0))) (et rfl rfl)) ?_
    refine joinW 4 (fun f w => f 2 = .int .i64 r11 ∧ f 7 = .pointer (some ⟨b10, 0, none⟩) ∧ f 8 = .int .i64 r12 ∧ f 35 = .bool ((decide (r12 < 0)) || (decide ((wa .i64 1 r7) ≤ r12))) ∧ St w0 (imm (rS (rI .i64)) h9.v r8 :: ros) (box b10 27 [h9.v] :: rs) w) (fun j1 => ?_) ?_
    · rcases Bool.eq_false_or_eq_true (decide (r12 < 0)) with c14 | c14
      · refine Gn (wx rfl rfl rfl c14) rfl ?_
        refine Gn (wx rfl rfl rfl c14) rfl ?_
        refine Gn (wx rfl rfl rfl c14) rfl ?_
        refine Y wn rfl (ypt (v := .bool true) (et rfl rfl) c14 rfl) ?_
        exact j1 _ _ ⟨rfl, rfl, rfl, (congrArg Value.bool (orT c14)), hst⟩
      · refine Y (wg rfl rfl rfl c14) rfl (ym (v := .int .i64 r12) (et rfl rfl)) ?_
        refine Y (wg rfl rfl rfl c14) rfl (ym (v := .int .i64 (wa .i64 1 r7)) (et rfl rfl)) ?_
        refine Y (wg rfl rfl rfl c14) rfl (ygeq (et rfl rfl) (et rfl rfl)) ?_
        refine Y wn rfl (ypf (v := .bool (decide ((wa .i64 1 r7) ≤ r12))) (et rfl rfl) c14 (et rfl rfl)) ?_
        exact j1 _ _ ⟨rfl, rfl, rfl, (congrArg Value.bool (orF c14)), hst⟩
    clear hst
    rintro f w ⟨e13_2, e13_7, e13_8, e13_35, hst⟩
    refine Y wn rfl (ym (v := .bool ((decide (r12 < 0)) || (decide ((wa .i64 1 r7) ≤ r12)))) (et rfl e13_35)) ?_
    obtain ⟨r16, gr16, hM⟩ := bs hM
    refine joinW 6 (fun f w => f 2 = .int .i64 r11 ∧ f 7 = .pointer (some ⟨b10, 0, none⟩) ∧ f 8 = .int .i64 r12 ∧ f 42 = .bool r16 ∧ St w0 (imm (rS (rI .i64)) h9.v r8 :: ros) (box b10 27 [h9.v] :: rs) w) (fun j2 => ?_) ?_
    · rcases iteS gr16 with ⟨c18, gr16⟩ | ⟨c18, gr16⟩
      · refine Gn (wx rfl rfl rfl c18) rfl ?_
        refine Gn (wx rfl rfl rfl c18) rfl ?_
        refine Gn (wx rfl rfl rfl c18) rfl ?_
        refine Gn (wx rfl rfl rfl c18) rfl ?_
        refine Gn (wx rfl rfl rfl c18) rfl ?_
        refine Y wn rfl (ypt (v := .bool true) (et rfl rfl) c18 rfl) ?_
        obtain rfl := someI gr16
        exact j2 _ _ ⟨e13_2, e13_7, e13_8, rfl, hst⟩
      · refine Y (wg rfl rfl rfl (bfalse c18)) rfl (yLbs (us := [h9.v]) ST_27 (et rfl e13_7) hst mhR rfl rfl) ?_
        refine Y (wg rfl rfl rfl (bfalse c18)) rfl (ym (v := .int .i64 r12) (et rfl e13_8)) ?_
        obtain ⟨r19, gr19, gr16⟩ := bs gr16
        refine Yc (wg rfl rfl rfl (bfalse c18)) rfl (yCall FN_17 (a2 (et rfl rfl) (et rfl rfl))) (graph_Peripheral_ok (hM := gr19) (hst := hst) (q1 := mhF)) ?_
        clear hst
        rintro _ w ⟨rfl, hst⟩
        refine ⟨_, rfl, ?_⟩
        refine Y (wg rfl rfl rfl (bfalse c18)) rfl (ym (v := .int .i64 r12) (et rfl e13_8)) ?_
        refine Y (wg rfl rfl rfl (bfalse c18)) rfl (yneq (et rfl rfl) (et rfl rfl)) ?_
        refine Y wn rfl (ypf (v := .bool (!(decide (r19 = r12)))) (et rfl rfl) (bfalse c18) (et rfl rfl)) ?_
        obtain rfl := someI gr16
        exact j2 _ _ ⟨e13_2, e13_7, e13_8, rfl, hst⟩
    clear hst
    rintro f w ⟨e17_2, e17_7, e17_8, e17_42, hst⟩
    refine wpList_nil ?_
    refine k10 _ _ ?_
    rcases iteS hM with ⟨c20, hM⟩ | ⟨c20, hM⟩
    · refine condT (et rfl e17_42) c20 ?_
      refine seqQ fun Q11 k11 z11 => ?_
      refine wp_region_lit ?_
      refine Y wn rfl (ya (v := .bool false) rfl) ?_
      refine wpList_nil ?_
      refine k11 _ _ ?_
      refine wp_ret ?_
      refine z9 _ _ _ rfl ?_
      obtain rfl := someI hM
      exact hQ _ _ _ (fin1r Try.results5 ⟨rfl, rfl⟩ ⟨rfl, ((hst.pk 1 [] rfl).facts (allT allI))⟩)
    · refine condF (et rfl e17_42) (bfalse c20) ?_
      refine wp_skip ?_
      refine k9 _ _ ?_
      refine seqQ fun Q12 k12 z12 => ?_
      obtain ⟨r21, gr21, hM⟩ := bs hM
      obtain ⟨r23, gr23, hM⟩ := bs hM
      refine wp_drawR [0, 0, 3, 0, 0, 31, 63, 127] [2, 5, 6, 7] 4 folM (by kernel_rfl) (by kernel_rfl) (by kernel_rfl) ?_
      replace hst := hst.drew
      refine DRn (l1 := [0, 1, 3, 4]) (l2 := []) (lc := [2]) (by kernel_rfl) (by kernel_rfl) (by kernel_rfl) ?_
      refine Ry rfl rfl wn (yLbs (us := [h9.v]) ST_27 (et rfl e17_7) hst mhR rfl rfl) ?_
      refine Ry rfl rfl wn (ym (v := .int .i64 r11) (et rfl e17_2)) ?_
      refine Ry rfl rfl wn (yLbs (us := [h9.v]) ST_27 (et rfl e17_7) hst mhR rfl rfl) ?_
      refine Ry rfl rfl wn (ym (v := .int .i64 r12) (et rfl e17_8)) ?_
      refine Rn QSn ?_
      refine Lc rfl ?_ LAn
      refine Lk wn (yCall FN_12 (a2 (et rfl rfl) (et rfl rfl))) (graph_Levels_ok (hM := gr21) (hst := hst) (q1 := mhF)) ?_
      clear hst
      rintro _ w ⟨h22, rfl, hst⟩
      refine ⟨_, rfl, ?_⟩
      refine DRn (l1 := []) (l2 := [3, 4]) (lc := [5]) (by kernel_rfl) (by kernel_rfl) (by kernel_rfl) ?_
      refine Rn (Sy rfl rfl wn (yLbs (us := [h9.v]) ST_27 (et rfl e17_7) hst (mtR mhR) rfl rfl) rfl (Sy rfl rfl wn (ym (v := .int .i64 r12) (et rfl e17_8)) rfl QSn)) ?_
      refine Lc rfl ?_ LAn
      refine Lk wn (yCall FN_12 (a2 (et rfl rfl) (et rfl rfl))) (graph_Levels_ok (hM := gr23) (hst := hst) (q1 := mhF)) ?_
      clear hst
      rintro _ w ⟨h24, rfl, hst⟩
      refine ⟨_, rfl, ?_⟩
      refine DRn (l1 := []) (l2 := []) (lc := [6]) (by kernel_rfl) (by kernel_rfl) (by kernel_rfl) ?_
      refine Rn QSn ?_
      refine Lc rfl ?_ LAn
      refine Ly wn (ya (v := h22.v) (et rfl rfl)) ?_
      refine DRn (l1 := []) (l2 := []) (lc := [7]) (by kernel_rfl) (by kernel_rfl) (by kernel_rfl) ?_
      refine Rn QSn ?_
      refine Lc rfl ?_ LAn
      refine Ly wn (ya (v := h24.v) (et rfl rfl)) ?_
      refine DRz (l1 := []) (l2 := []) (by kernel_rfl) (by kernel_rfl) ?_
      refine Rn QSn ?_
      refine k12 _ _ ?_
      refine seqQ fun Q13 k13 z13 => ?_
      refine seqQ fun Q14 k14 z14 => ?_
      refine wp_region_lit ?_
      refine Y wn rfl (ym (v := h22.v) (et rfl rfl)) ?_
      refine Y wn rfl (yLen SL_25 (et rfl rfl) hst (rdO (mtR mhR))) ?_
      refine Y wn rfl (yeql (et rfl rfl) rfl) ?_
      refine Y wn rfl (ym (v := .bool (decide ((r21.length : Int) = 0))) (et rfl rfl)) ?_
      refine joinW 6 (fun f w => f 8 = .int .i64 r12 ∧ f 9 = h22.v ∧ f 58 = .bool ((decide ((r21.length : Int) = 0)) || (decide ((r23.length : Int) < (r21.length : Int)))) ∧ St w0 (ros) (row 22 (rS (rI .i64)) h22.v r21 :: rs) w) (fun j3 => ?_) ?_
      · rcases Bool.eq_false_or_eq_true (decide ((r21.length : Int) = 0)) with c26 | c26
        · refine Gn (wx rfl rfl rfl c26) rfl ?_
          refine Gn (wx rfl rfl rfl c26) rfl ?_
          refine Gn (wx rfl rfl rfl c26) rfl ?_
          refine Gn (wx rfl rfl rfl c26) rfl ?_
          refine Gn (wx rfl rfl rfl c26) rfl ?_
          refine Y wn rfl (ypt (v := .bool true) (et rfl rfl) c26 rfl) ?_
          exact j3 _ _ ⟨e17_8, rfl, (congrArg Value.bool (orT c26)), ((hst.pk 3 [1] rfl).facts (allT allI))⟩
        · refine Y (wg rfl rfl rfl c26) rfl (ym (v := h24.v) (et rfl rfl)) ?_
          refine Y (wg rfl rfl rfl c26) rfl (yLen SL_25 (et rfl rfl) hst (rdO mhR)) ?_
          refine Y (wg rfl rfl rfl c26) rfl (ym (v := h22.v) (et rfl rfl)) ?_
          refine Y (wg rfl rfl rfl c26) rfl (yLen SL_25 (et rfl rfl) hst (rdO (mtR mhR))) ?_
          refine Y (wg rfl rfl rfl c26) rfl (ylss (et rfl rfl) (et rfl rfl)) ?_
          refine Y wn rfl (ypf (v := .bool (decide ((r23.length : Int) < (r21.length : Int)))) (et rfl rfl) c26 (et rfl rfl)) ?_
          exact j3 _ _ ⟨e17_8, rfl, (congrArg Value.bool (orF c26)), ((hst.pk 3 [1] rfl).facts (allT allI))⟩
      clear hst
      rintro f w ⟨e25_8, e25_9, e25_58, hst⟩
      refine wpList_nil ?_
      refine k14 _ _ ?_
      rcases iteS hM with ⟨c27, hM⟩ | ⟨c27, hM⟩
      · refine condT (et rfl e25_58) c27 ?_
        refine seqQ fun Q15 k15 z15 => ?_
        refine wp_region_lit ?_
        refine Y wn rfl (ya (v := .bool false) rfl) ?_
        refine wpList_nil ?_
        refine k15 _ _ ?_
        refine wp_ret ?_
        refine z13 _ _ _ rfl ?_
        obtain rfl := someI hM
        exact hQ _ _ _ (fin1r Try.results5 ⟨rfl, rfl⟩ ⟨rfl, (hst.pk 1 [] rfl)⟩)
      · refine condF (et rfl e25_58) (bfalse c27) ?_
        refine wp_skip ?_
        refine k13 _ _ ?_
        refine seqQ fun Q16 k16 z16 => ?_
        refine wp_region_lit ?_
        refine Y wn rfl (ya (v := .bool false) rfl) ?_
        refine wpList_nil ?_
        refine k16 _ _ ?_
        refine seqQ fun Q17 k17 z17 => ?_
        refine seqQ fun Q18 k18 z18 => ?_
        refine wp_region_lit ?_
        refine Y wn rfl (ya (v := .int .i64 0) rfl) ?_
        refine wpList_nil ?_
        refine k18 _ _ ?_
        refine blockQ fun Q19 q19 => ?_
        obtain ⟨o5, go5, hM⟩ := bs hM
        have je5_0 : ∀ (x46 : Bool) (f : Nat → Value) (w : World), f 11 = .bool x46 → St w0 (ros) (rs) w → x46 = o5 → Q19 (.exit 0) (fr 78 f) w := by
          intro x46 f w eje5_0_11 hst ho
          subst ho
          refine q19 _ _ _ ?_
          refine k17 _ _ ?_
          refine seqQ fun Q28 k28 z28 => ?_
          refine wp_region_lit ?_
          refine Y wn rfl (ym (v := .bool x46) (et rfl eje5_0_11)) ?_
          refine Y wn rfl (ym (v := .bool x46) (et rfl rfl)) ?_
          obtain ⟨r48, gr48, hM⟩ := bs hM
          refine joinW 2 (fun f w => f 77 = .bool r48 ∧ St w0 (ros) (rs) w) (fun j6 => ?_) ?_
          · rcases iteS gr48 with ⟨c50, gr48⟩ | ⟨c50, gr48⟩
            · obtain ⟨r51, gr51, gr48⟩ := bs gr48
              refine Yc (wg rfl rfl rfl c50) rfl (yCall FN_9 a0) (sparselaw12_awake_ok (hM := gr51) (hst := hst) ) ?_
              clear hst
              rintro _ w ⟨rfl, hst⟩
              refine ⟨_, rfl, ?_⟩
              refine Y wn rfl (ypt (v := .bool r51) (et rfl rfl) c50 (et rfl rfl)) ?_
              obtain rfl := someI gr48
              exact j6 _ _ ⟨rfl, hst⟩
            · refine Gn (wx rfl rfl rfl (bfalse c50)) rfl ?_
              refine Y wn rfl (ypf (v := .bool false) (et rfl rfl) (bfalse c50) rfl) ?_
              obtain rfl := someI gr48
              exact j6 _ _ ⟨rfl, hst⟩
          clear hst
          rintro f w ⟨e49_77, hst⟩
          refine Y wn rfl (ya (v := .bool r48) (et rfl e49_77)) ?_
          refine wpList_nil ?_
          refine k28 _ _ ?_
          refine wp_ret ?_
          obtain rfl := someI hM
          exact hQ _ _ _ (fin1r Try.results5 ⟨rfl, rfl⟩ ⟨rfl, hst⟩)
        refine loopQ (fun s a w => ∃ (x32 : Bool) (x33 : Int) (f : Nat → Value), (x32, x33) = s ∧ a = fr 78 f ∧ f 8 = .int .i64 r12 ∧ f 9 = h22.v ∧ f 11 = .bool x32 ∧ f 12 = .int .i64 x33 ∧ St w0 (ros) (row 22 (rS (rI .i64)) h22.v r21 :: rs) w) go5 ⟨_, _, _, rfl, rfl, e25_8, e25_9, rfl, rfl, hst⟩ ?_
        clear hst
        rintro _ _ w r5_ ⟨x32, x33, f, rfl, rfl, e5_8, e5_9, e5_11, e5_12, hst⟩ hM5 ho5 Q100005 n5 zz5
        refine seqQ fun Q29 k29 z29 => ?_
        refine seqQ fun Q30 k30 z30 => ?_
        refine wp_region_lit ?_
        refine Y wn rfl (ym (v := .int .i64 x33) (et rfl e5_12)) ?_
        refine Y wn rfl (ym (v := h22.v) (et rfl e5_9)) ?_
        refine Y wn rfl (yLen SL_25 (et rfl rfl) hst (rdO mhR)) ?_
        refine Y wn rfl (ylss (et rfl rfl) (et rfl rfl)) ?_
        refine wpList_nil ?_
        refine k30 _ _ ?_
        rcases iteS hM5 with ⟨c52, hM5⟩ | ⟨c52, hM5⟩
        · refine condT (et rfl rfl) (decide_eq_true c52) ?_
          refine wp_skip ?_
          refine k29 _ _ ?_
          refine seqQ fun Q31 k31 z31 => ?_
          refine blockQ fun Q32 q32 => ?_
          refine wp_region_lit ?_
          refine Y wn rfl (ym (v := .bool x32) (et rfl e5_11)) ?_
          refine Y wn rfl (ym (v := .bool x32) (et rfl rfl)) ?_
          obtain ⟨r56, gr56, hM5⟩ := bs hM5
          refine joinW 7 (fun f w => f 8 = .int .i64 r12 ∧ f 9 = h22.v ∧ f 12 = .int .i64 x33 ∧ f 73 = .bool r56 ∧ St w0 (ros) (row 22 (rS (rI .i64)) h22.v r21 :: rs) w) (fun j7 => ?_) ?_
          · rcases iteS gr56 with ⟨c58, gr56⟩ | ⟨c58, gr56⟩
            · refine Gn (wx rfl rfl rfl c58) rfl ?_
              refine Gn (wx rfl rfl rfl c58) rfl ?_
              refine Gn (wx rfl rfl rfl c58) rfl ?_
              refine Gn (wx rfl rfl rfl c58) rfl ?_
              refine Gn (wx rfl rfl rfl c58) rfl ?_
              refine Gn (wx rfl rfl rfl c58) rfl ?_
              refine Y wn rfl (ypt (v := .bool true) (et rfl rfl) c58 rfl) ?_
              obtain rfl := someI gr56
              exact j7 _ _ ⟨e5_8, e5_9, e5_12, rfl, hst⟩
            · refine Y (wg rfl rfl rfl (bfalse c58)) rfl (ym (v := h22.v) (et rfl e5_9)) ?_
              refine Y (wg rfl rfl rfl (bfalse c58)) rfl (ym (v := .int .i64 x33) (et rfl e5_12)) ?_
              obtain ⟨x59, gx59, gr56⟩ := bs gr56
              refine Y (wg rfl rfl rfl (bfalse c58)) rfl (yIa SL_25 (et rfl rfl) (et rfl rfl) hst (rdO mhR) gx59) ?_
              obtain ⟨h60, ch60, hst⟩ := rLs hst (rdO mhR) gx59
              refine Y (wg rfl rfl rfl (bfalse c58)) rfl (yCe O_22 (et rfl rfl) ch60 rfl) ?_
              refine Y (wg rfl rfl rfl (bfalse c58)) rfl (ym (v := .int .i64 r12) (et rfl e5_8)) ?_
              obtain ⟨r61, gr61, gr56⟩ := bs gr56
              refine Yc (wg rfl rfl rfl (bfalse c58)) rfl (yCall FN_18 (a2 (et rfl rfl) (et rfl rfl))) (sparsekit_In_ok (hM := gr61) (hst := hst) (q1 := mhF)) ?_
              clear hst
              rintro _ w ⟨rfl, hst⟩
              refine ⟨_, rfl, ?_⟩
              refine Y wn rfl (ypf (v := .bool r61) (et rfl rfl) (bfalse c58) (et rfl rfl)) ?_
              obtain rfl := someI gr56
              exact j7 _ _ ⟨e5_8, e5_9, e5_12, rfl, (hst.facts (allT allI))⟩
          clear hst
          rintro f w ⟨e57_8, e57_9, e57_12, e57_73, hst⟩
          refine Y wn rfl (ya (v := .bool r56) (et rfl e57_73)) ?_
          refine wpList_nil ?_
          refine q32 _ _ _ ?_
          refine k31 _ _ ?_
          refine wp_region_lit ?_
          refine Y wn rfl (ym (v := .int .i64 x33) (et rfl e57_12)) ?_
          refine Y wn rfl (yadd (et rfl rfl) rfl) ?_
          refine Y wn rfl (ya (v := .int .i64 (wa .i64 x33 1)) (et rfl rfl)) ?_
          refine wpList_nil ?_
          obtain rfl := someI hM5
          exact n5 _ _ _ rfl ⟨_, _, _, rfl, rfl, e57_8, e57_9, rfl, rfl, hst⟩
        · refine condF (et rfl rfl) (decide_eq_false c52) ?_
          refine wp_exit ?_
          refine z29 _ _ _ rfl ?_
          obtain rfl := someI hM5
          refine zz5 _ _ _ _ rfl rfl ?_
          exact je5_0 _ _ _ e5_11 (hst.pk 1 [] rfl) (ho5 _ rfl)

theorem sparsekit_Shuffle_ok {w0 : World} {ros : List Fact} {rs : List Res} {w : World} {x1 : List Int} {x3 : Int} {h2 : Hdr} {out : (List Int)} (hM : sparsekit_Shuffle x1 x3 = some out) (q1 : imm (rI .i64) h2.v x1 ∈ ros) (hst : St w0 ros (rs) w) :
    Calls Try.prog 19 #[h2.v, .int .i64 x3] w (fun e w => ∃ (h100001 : Hdr), e = .returned (h100001.v) ∧ St w0 (ros) (row 3 (rI .i64) h100001.v out :: rs) w) := by
  refine enterQ Try.func19 rfl Try.ntmps19 rfl fun Q hQ => ?_
  refine seqQ fun Q1 k1 z1 => ?_
  refine wp_region_lit ?_
  refine Y wn rfl (ya (v := hnil.v) rfl) ?_
  refine wpList_nil ?_
  refine k1 _ _ ?_
  refine seqQ fun Q2 k2 z2 => ?_
  refine wp_region_lit ?_
  refine Y wn rfl (ya (v := hnil.v) rfl) ?_
  refine wpList_nil ?_
  refine k2 _ _ ?_
  refine seqQ fun Q3 k3 z3 => ?_
  refine seqQ fun Q4 k4 z4 => ?_
  refine wp_region_lit ?_
  refine Y wn rfl (ya (v := .int .i64 0) rfl) ?_
  refine wpList_nil ?_
  refine k4 _ _ ?_
  refine blockQ fun Q5 q5 => ?_
  obtain ⟨o1, go1, hM⟩ := bs hM
  have je1_0 : ∀ (x19 : List Int) (h18 : Hdr) (f : Nat → Value) (w : World), f 0 = h2.v → f 1 = .int .i64 x3 → f 5 = h18.v → St w0 (ros) (row 3 (rI .i64) h18.v x19 :: rs) w → x19 = o1 → Q5 (.exit 0) (fr 51 f) w := by
    intro x19 h18 f w eje1_0_0 eje1_0_1 eje1_0_5 hst ho
    subst ho
    refine q5 _ _ _ ?_
    refine k3 _ _ ?_
    refine seqQ fun Q14 k14 z14 => ?_
    refine wp_region_lit ?_
    refine Y wn rfl (ya (v := hnil.v) rfl) ?_
    refine wpList_nil ?_
    refine k14 _ _ ?_
    refine seqQ fun Q15 k15 z15 => ?_
    refine seqQ fun Q16 k16 z16 => ?_
    refine wp_region_lit ?_
    refine Y wn rfl (ya (v := .int .i64 0) rfl) ?_
    refine wpList_nil ?_
    refine k16 _ _ ?_
    refine blockQ fun Q17 q17 => ?_
    obtain ⟨o4, go4, hM⟩ := bs hM
    have je4_0 : ∀ (x61 : List Int) (h60 : Hdr) (f : Nat → Value) (w : World), f 7 = h60.v → St w0 (ros) (row 3 (rI .i64) h60.v x61 :: rs) w → x61 = o4 → Q17 (.exit 2) (fr 51 f) w := by
      intro x61 h60 f w eje4_0_7 hst ho
      subst ho
      refine q17 _ _ _ ?_
      refine k15 _ _ ?_
      refine seqQ fun Q34 k34 z34 => ?_
      refine wp_region_lit ?_
      refine Y wn rfl (ym (v := h60.v) (et rfl eje4_0_7)) ?_
      refine Y wn rfl (ya (v := h60.v) (et rfl rfl)) ?_
      refine wpList_nil ?_
      refine k34 _ _ ?_
      refine wp_ret ?_
      obtain rfl := someI hM
      exact hQ _ _ _ (fin1r Try.results19 ⟨rfl, rfl⟩ ⟨_, rfl, hst⟩)
    replace hst := hst.rowNh 3 (rI .i64)
    refine loopQ (fun s a w => ∃ (x36 : List Int) (x38 : List Int) (x39 : Int) (f : Nat → Value) (h35 : Hdr) (h37 : Hdr), (x36, x38, x39) = s ∧ a = fr 51 f ∧ f 0 = h2.v ∧ f 1 = .int .i64 x3 ∧ f 5 = h35.v ∧ f 7 = h37.v ∧ f 8 = .int .i64 x39 ∧ St w0 (ros) (row 3 (rI .i64) h35.v x36 :: row 3 (rI .i64) h37.v x38 :: rs) w) go4 ⟨_, _, _, _, _, _, rfl, rfl, eje1_0_0, eje1_0_1, eje1_0_5, rfl, rfl, (hst.pk 2 [1, 0] rfl)⟩ ?_
    clear hst
    rintro _ _ w r4_ ⟨x36, x38, x39, f, h35, h37, rfl, rfl, e4_0, e4_1, e4_5, e4_7, e4_8, hst⟩ hM4 ho4 Q100004 n4 zz4
    refine seqQ fun Q35 k35 z35 => ?_
    refine seqQ fun Q36 k36 z36 => ?_
    refine wp_region_lit ?_
    refine Y wn rfl (ym (v := .int .i64 x39) (et rfl e4_8)) ?_
    refine Y wn rfl (ym (v := .int .i64 x3) (et rfl e4_1)) ?_
    refine Y wn rfl (ylss (et rfl rfl) (et rfl rfl)) ?_
    refine wpList_nil ?_
    refine k36 _ _ ?_
    rcases iteS hM4 with ⟨c62, hM4⟩ | ⟨c62, hM4⟩
    · refine condT (et rfl rfl) (decide_eq_true c62) ?_
      refine wp_skip ?_
      refine k35 _ _ ?_
      refine seqQ fun Q37 k37 z37 => ?_
      refine blockQ fun Q38 q38 => ?_
      refine seqQ fun Q39 k39 z39 => ?_
      refine wp_region_lit ?_
      refine Y wn rfl (ya (v := .int .i64 0) rfl) ?_
      refine wpList_nil ?_
      refine k39 _ _ ?_
      refine seqQ fun Q40 k40 z40 => ?_
      refine seqQ fun Q41 k41 z41 => ?_
      refine wp_region_lit ?_
      refine Y wn rfl (ym (v := .int .i64 x39) (et rfl e4_8)) ?_
      refine Y wn rfl (ym (v := h2.v) (et rfl e4_0)) ?_
      refine Y wn rfl (yLen SL_22 (et rfl rfl) hst (rdI q1)) ?_
      refine Y wn rfl (ylss (et rfl rfl) (et rfl rfl)) ?_
      refine wpList_nil ?_
      refine k41 _ _ ?_
      have j5 : ∀ (x65 : Int) (f : Nat → Value) (w : World), f 0 = h2.v → f 1 = .int .i64 x3 → f 5 = h35.v → f 7 = h37.v → f 8 = .int .i64 x39 → f 9 = .int .i64 x65 → St w0 (ros) (row 3 (rI .i64) h35.v x36 :: row 3 (rI .i64) h37.v x38 :: rs) w → sparsekit_Shuffle_j5 x36 x38 x39 x65 = some r4_ → Q40 .normal (fr 51 f) w := by
        intro x65 f w ej5_0 ej5_1 ej5_5 ej5_7 ej5_8 ej5_9 hst hM
        refine k40 _ _ ?_
        refine seqQ fun Q42 k42 z42 => ?_
        refine wp_region_lit ?_
        refine Y wn rfl (ym (v := h37.v) (et rfl ej5_7)) ?_
        refine Y wn rfl (ym (v := h35.v) (et rfl ej5_5)) ?_
        refine Y wn rfl (ym (v := .int .i64 x65) (et rfl ej5_9)) ?_
        obtain ⟨x66, gx66, hM⟩ := bs hM
        refine Y wn rfl (yIa SL_22 (et rfl rfl) (et rfl rfl) hst (rdO mhR) gx66) ?_
        refine Y wn rfl (yI O_3 (et rfl rfl) hst (rdO mhR) gx66) ?_
        refine YH wn rfl (rLt (n := 1) (l := [x66]) hst SL_22 [.int .i64 x66] (bp1 (et rfl rfl)) rfl rfl (mks1 (cs := [.int .i64 x66]) rfl mkI mks0)) ?_
        clear hst
        intro h67 w hst
        obtain ⟨x69, gx69, hM⟩ := bs hM
        replace hst := hst.pk 3 [2, 0, 0] rfl
        refine YH wn rfl (rAp hst SL_22 (et rfl rfl) (et rfl rfl) (rdO (mtR mhR)) gx69) ?_
        clear hst
        intro h68 w hst
        refine Y wn rfl (ya (v := h68.v) (et rfl rfl)) ?_
        refine wpList_nil ?_
        refine k42 _ _ ?_
        obtain ⟨x70, gx70, hM⟩ := bs hM
        obtain ⟨x71, gx71, hM⟩ := bs hM
        obtain ⟨x73, gx73, hM⟩ := bs hM
        refine wp_drawR [0, 0, 3, 0, 0, 16, 56, 127, 255] [7, 8] 2 folM (by kernel_rfl) (by kernel_rfl) (by kernel_rfl) ?_
        replace hst := hst.drew
        refine DRn (l1 := [0, 1, 2, 3, 4, 5, 6]) (l2 := []) (lc := [7]) (by kernel_rfl) (by kernel_rfl) (by kernel_rfl) ?_
        refine Ry rfl rfl wn (ym (v := h35.v) (et rfl ej5_5)) ?_
        refine Ry rfl rfl wn (ym (v := .int .i64 x65) (et rfl ej5_9)) ?_
        refine Ry rfl rfl wn (ySl (k1 := .i64) SL_22 (et rfl rfl) hst (rdO (mtR (mtR mhR))) (.inr ⟨rfl, rfl⟩) (.inl (congrArg some (et rfl rfl))) gx70) ?_
        refine Ry rfl rfl wn (ym (v := h35.v) (et rfl ej5_5)) ?_
        refine Ry rfl rfl wn (ym (v := .int .i64 x65) (et rfl ej5_9)) ?_
        refine Ry rfl rfl wn (yadd (et rfl rfl) rfl) ?_
        refine Ry rfl rfl wn (ySl (k2 := .i64) SL_22 (et rfl rfl) hst (rdO (mtR (mtR mhR))) (.inl (congrArg some (et rfl rfl))) (.inr ⟨rfl, rfl⟩) gx71) ?_
        refine Rn QSn ?_
        refine Lc rfl ?_ LAn
        replace hst := hst.pk 3 [2, 0, 0] rfl
        refine LH wn (rAp2 hst SL_22 (et rfl rfl) (et rfl rfl) gx70 gx71 gx73) ?_
        clear hst
        intro h72 w hst
        refine DRn (l1 := []) (l2 := []) (lc := [8]) (by kernel_rfl) (by kernel_rfl) (by kernel_rfl) ?_
        refine Rn QSn ?_
        refine Lc rfl ?_ LAn
        refine Ly wn (ya (v := h72.v) (et rfl rfl)) ?_
        refine DRz (l1 := []) (l2 := []) (by kernel_rfl) (by kernel_rfl) ?_
        refine Rn QSn ?_
        refine q38 _ _ _ ?_
        refine k37 _ _ ?_
        refine wp_region_lit ?_
        refine Y wn rfl (ym (v := .int .i64 x39) (et rfl ej5_8)) ?_
        refine Y wn rfl (yadd (et rfl rfl) rfl) ?_
        refine Y wn rfl (ya (v := .int .i64 (wa .i64 x39 1)) (et rfl rfl)) ?_
        refine wpList_nil ?_
        obtain rfl := someI hM
        exact n4 _ _ _ rfl ⟨_, _, _, _, _, _, rfl, rfl, ej5_0, ej5_1, rfl, rfl, rfl, (hst.pk 3 [0, 0] rfl)⟩
      rcases iteS hM4 with ⟨c74, hM4⟩ | ⟨c74, hM4⟩
      · refine condT (et rfl rfl) (decide_eq_true c74) ?_
        refine wp_region_lit ?_
        refine Y wn rfl (ym (v := h2.v) (et rfl e4_0)) ?_
        refine Y wn rfl (ym (v := .int .i64 x39) (et rfl e4_8)) ?_
        obtain ⟨x75, gx75, hM4⟩ := bs hM4
        refine Y wn rfl (yIa SL_22 (et rfl rfl) (et rfl rfl) hst (rdI q1) gx75) ?_
        refine Y wn rfl (yI O_3 (et rfl rfl) hst (rdI q1) gx75) ?_
        refine Y wn rfl (ym (v := h35.v) (et rfl e4_5)) ?_
        refine Y wn rfl (yLen SL_22 (et rfl rfl) hst (rdO mhR)) ?_
        obtain ⟨r76, gr76, hM4⟩ := bs hM4
        refine Yc wn rfl (yCall FN_10 (a2 (et rfl rfl) (et rfl rfl))) (sparsekit_Place_ok (hM := gr76) (hst := hst) ) ?_
        clear hst
        rintro _ w ⟨rfl, hst⟩
        refine ⟨_, rfl, ?_⟩
        refine Y wn rfl (ya (v := .int .i64 r76) (et rfl rfl)) ?_
        refine wpList_nil ?_
        exact j5 _ _ _ e4_0 e4_1 e4_5 e4_7 e4_8 rfl hst hM4
      · refine condF (et rfl rfl) (decide_eq_false c74) ?_
        refine wp_skip ?_
        exact j5 _ _ _ e4_0 e4_1 e4_5 e4_7 e4_8 rfl hst hM4
    · refine condF (et rfl rfl) (decide_eq_false c62) ?_
      refine wp_exit ?_
      refine z35 _ _ _ rfl ?_
      obtain rfl := someI hM4
      refine zz4 _ _ _ _ rfl rfl ?_
      exact je4_0 _ _ _ _ e4_7 (hst.pk 2 [1] rfl) (ho4 _ rfl)
  replace hst := hst.rowNh 3 (rI .i64)
  refine loopQ (fun s a w => ∃ (x9 : List Int) (x10 : Int) (f : Nat → Value) (h8 : Hdr), (x9, x10) = s ∧ a = fr 51 f ∧ f 0 = h2.v ∧ f 1 = .int .i64 x3 ∧ f 5 = h8.v ∧ f 6 = .int .i64 x10 ∧ St w0 (ros) (row 3 (rI .i64) h8.v x9 :: rs) w) go1 ⟨_, _, _, _, rfl, rfl, rfl, rfl, rfl, rfl, hst⟩ ?_
  clear hst
  rintro _ _ w r1_ ⟨x9, x10, f, h8, rfl, rfl, e1_0, e1_1, e1_5, e1_6, hst⟩ hM1 ho1 Q100001 n1 zz1
  refine seqQ fun Q43 k43 z43 => ?_
  refine seqQ fun Q44 k44 z44 => ?_
  refine wp_region_lit ?_
  refine Y wn rfl (ym (v := .int .i64 x10) (et rfl e1_6)) ?_
  refine Y wn rfl (ym (v := .int .i64 x3) (et rfl e1_1)) ?_
  refine Y wn rfl (ylss (et rfl rfl) (et rfl rfl)) ?_
  refine wpList_nil ?_
  refine k44 _ _ ?_
  rcases iteS hM1 with ⟨c77, hM1⟩ | ⟨c77, hM1⟩
  · refine condT (et rfl rfl) (decide_eq_true c77) ?_
    refine wp_skip ?_
    refine k43 _ _ ?_
    refine seqQ fun Q45 k45 z45 => ?_
    refine blockQ fun Q46 q46 => ?_
    refine wp_region_lit ?_
    refine Y wn rfl (ym (v := h8.v) (et rfl e1_5)) ?_
    refine Y wn rfl (ym (v := .int .i64 x10) (et rfl e1_6)) ?_
    refine YH wn rfl (rLt (n := 1) (l := [x10]) hst SL_22 [.int .i64 x10] (bp1 (et rfl rfl)) rfl rfl (mks1 (cs := [.int .i64 x10]) rfl mkI mks0)) ?_
    clear hst
    intro h78 w hst
    obtain ⟨x80, gx80, hM1⟩ := bs hM1
    replace hst := hst.pk 2 [1, 0] rfl
    refine YH wn rfl (rAp hst SL_22 (et rfl rfl) (et rfl rfl) (rdO (mtR mhR)) gx80) ?_
    clear hst
    intro h79 w hst
    refine Y wn rfl (ya (v := h79.v) (et rfl rfl)) ?_
    refine wpList_nil ?_
    refine q46 _ _ _ ?_
    refine k45 _ _ ?_
    refine wp_region_lit ?_
    refine Y wn rfl (ym (v := .int .i64 x10) (et rfl e1_6)) ?_
    refine Y wn rfl (yadd (et rfl rfl) rfl) ?_
    refine Y wn rfl (ya (v := .int .i64 (wa .i64 x10 1)) (et rfl rfl)) ?_
    refine wpList_nil ?_
    obtain rfl := someI hM1
    exact n1 _ _ _ rfl ⟨_, _, _, _, rfl, rfl, e1_0, e1_1, rfl, rfl, (hst.pk 2 [0] rfl)⟩
  · refine condF (et rfl rfl) (decide_eq_false c77) ?_
    refine wp_exit ?_
    refine z43 _ _ _ rfl ?_
    obtain rfl := someI hM1
    refine zz1 _ _ _ _ rfl rfl ?_
    exact je1_0 _ _ _ _ e1_0 e1_1 e1_5 hst (ho1 _ rfl)

theorem graph_Permuted_1_ok {w0 : World} {ros : List Fact} {rs : List Res} {w : World} {x1 : Int} {x3 : List (List Int)} {b2 : Nat} {h4 : Hdr} {out : Bool} (hM : graph_Permuted_1 x1 x3 = some out) (q1 : imm (rS (rI .i64)) h4.v x3 ∈ ros) (hst : St w0 ros (box b2 27 [h4.v] :: rs) w) :
    Calls Try.prog 64 #[.int .i64 x1, .pointer (some ⟨b2, 0, none⟩)] w (fun e w => e = .returned (.bool out) ∧ St w0 (ros) (box b2 27 [h4.v] :: rs) w) := by
  refine enterQ Try.func64 rfl Try.ntmps64 rfl fun Q hQ => ?_
  refine seqQ fun Q1 k1 z1 => ?_
  refine wp_region_lit ?_
  refine Y wn rfl (ya (v := .bool false) rfl) ?_
  refine wpList_nil ?_
  refine k1 _ _ ?_
  refine seqQ fun Q2 k2 z2 => ?_
  refine wp_region_lit ?_
  refine Y wn rfl (yLbs (us := [h4.v]) ST_27 (et rfl rfl) hst mhR rfl rfl) ?_
  refine Y wn rfl (ym (v := .int .i64 x1) (et rfl rfl)) ?_
  obtain ⟨r5, gr5, hM⟩ := bs hM
  refine Yc wn rfl (yCall FN_37 (a2 (et rfl rfl) (et rfl rfl))) (graph_vertex_ok (hM := gr5) (hst := hst) (q1 := q1)) ?_
  clear hst
  rintro _ w ⟨rfl, hst⟩
  refine ⟨_, rfl, ?_⟩
  refine Y wn rfl (ynot (et rfl rfl)) ?_
  refine Y wn rfl (ya (v := .bool (!(r5))) (et rfl rfl)) ?_
  refine wpList_nil ?_
  refine k2 _ _ ?_
  refine wp_ret ?_
  obtain rfl := someI hM
  exact hQ _ _ _ (fin1r Try.results64 ⟨rfl, rfl⟩ ⟨rfl, hst⟩)

theorem slices_IndexFunc_int_ok {w0 : World} {ros : List Fact} {rs : List Res} {w : World} {x1 : List Int} {x4 : List (List Int)} {h2 : Hdr} {b3 : Nat} {h5 : Hdr} {out : Int} (hM : slices_IndexFunc_int x1 x4 = some out) (q1 : imm (rI .i64) h2.v x1 ∈ ros) (q2 : imm (rS (rI .i64)) h5.v x4 ∈ ros) (hst : St w0 ros (box b3 27 [h5.v] :: rs) w) :
    Calls Try.prog 67 #[h2.v, .func (.func 64) #[] #[.pointer (some ⟨b3, 0, none⟩)]] w (fun e w => e = .returned (.int .i64 out) ∧ St w0 (ros) (box b3 27 [h5.v] :: rs) w) := by
  refine enterQ Try.func67 rfl Try.ntmps67 rfl fun Q hQ => ?_
  refine seqQ fun Q1 k1 z1 => ?_
  refine wp_region_lit ?_
  refine Y wn rfl (ya (v := .int .i64 0) rfl) ?_
  refine wpList_nil ?_
  refine k1 _ _ ?_
  refine seqQ fun Q2 k2 z2 => ?_
  refine seqQ fun Q3 k3 z3 => ?_
  refine wp_region_lit ?_
  refine Y wn rfl (ym (v := h2.v) (et rfl rfl)) ?_
  refine Y wn rfl (yLen SL_22 (et rfl rfl) hst (rdI q1)) ?_
  refine Y wn rfl (ym (v := .int .i64 0) rfl) ?_
  refine wpList_nil ?_
  refine k3 _ _ ?_
  refine blockQ fun Q4 q4 => ?_
  obtain ⟨o1, go1, hM⟩ := bs hM
  have je1_0 : ∀ (f : Nat → Value) (w : World), St w0 (ros) (box b3 27 [h5.v] :: rs) w → .inl () = o1 → Q4 (.exit 0) (fr 19 f) w := by
    intro f w hst ho
    subst ho
    refine q4 _ _ _ ?_
    refine k2 _ _ ?_
    refine seqQ fun Q19 k19 z19 => ?_
    refine wp_region_lit ?_
    refine Y wn rfl (ya (v := .int .i64 (-1)) rfl) ?_
    refine wpList_nil ?_
    refine k19 _ _ ?_
    refine wp_ret ?_
    obtain rfl := someI hM
    exact hQ _ _ _ (fin1r Try.results67 ⟨rfl, rfl⟩ ⟨rfl, hst⟩)
  have je1_1 : ∀ (x16 : Int) (f : Nat → Value) (w : World), f 4 = .int .i64 x16 → St w0 (ros) (box b3 27 [h5.v] :: rs) w → .inr x16 = o1 → Q4 .ret (fr 19 f) w := by
    intro x16 f w eje1_1_4 hst ho
    subst ho
    refine q4 _ _ _ ?_
    refine z2 _ _ _ rfl ?_
    obtain rfl := someI hM
    exact hQ _ _ _ (fin1r Try.results67 ⟨rfl, eje1_1_4⟩ ⟨rfl, hst⟩)
  refine loopQ (fun s a w => ∃ (x10 : Int) (f : Nat → Value), x10 = s ∧ a = fr 19 f ∧ f 0 = h2.v ∧ f 1 = .func (.func 64) #[] #[.pointer (some ⟨b3, 0, none⟩)] ∧ f 7 = .int .i64 (x1.length : Int) ∧ f 8 = .int .i64 x10 ∧ St w0 (ros) (box b3 27 [h5.v] :: rs) w) go1 ⟨_, _, rfl, rfl, rfl, rfl, rfl, rfl, hst⟩ ?_
  clear hst
  rintro _ _ w r1_ ⟨x10, f, rfl, rfl, e1_0, e1_1, e1_7, e1_8, hst⟩ hM1 ho1 Q100001 n1 zz1
  refine seqQ fun Q20 k20 z20 => ?_
  refine wp_region_lit ?_
  refine Y wn rfl (ylss (et rfl e1_8) (et rfl e1_7)) ?_
  refine wpList_nil ?_
  refine k20 _ _ ?_
  refine seqQ fun Q21 k21 z21 => ?_
  rcases iteS hM1 with ⟨c17, hM1⟩ | ⟨c17, hM1⟩
  · refine condT (et rfl rfl) (decide_eq_true c17) ?_
    refine wp_skip ?_
    refine k21 _ _ ?_
    refine seqQ fun Q22 k22 z22 => ?_
    refine blockQ fun Q23 q23 => ?_
    refine seqQ fun Q24 k24 z24 => ?_
    refine wp_region_lit ?_
    refine Y wn rfl (ym (v := .int .i64 x10) (et rfl e1_8)) ?_
    refine Y wn rfl (ya (v := .int .i64 x10) (et rfl rfl)) ?_
    refine wpList_nil ?_
    refine k24 _ _ ?_
    refine seqQ fun Q25 k25 z25 => ?_
    refine wp_region_lit ?_
    refine Y wn rfl (ym (v := .func (.func 64) #[] #[.pointer (some ⟨b3, 0, none⟩)]) (et rfl e1_1)) ?_
    refine Y wn rfl (ym (v := h2.v) (et rfl e1_0)) ?_
    refine Y wn rfl (ym (v := .int .i64 x10) (et rfl rfl)) ?_
    obtain ⟨x18, gx18, hM1⟩ := bs hM1
    refine Y wn rfl (yIa SL_22 (et rfl rfl) (et rfl rfl) hst (rdI q1) gx18) ?_
    refine Y wn rfl (yI O_3 (et rfl rfl) hst (rdI q1) gx18) ?_
    obtain ⟨r19, gr19, hM1⟩ := bs hM1
    refine Yc wn rfl (yCallw FN_64 (et rfl rfl) (a1 (et rfl rfl))) (graph_Permuted_1_ok (hM := gr19) (hst := hst) (q1 := q2)) ?_
    clear hst
    rintro _ w ⟨rfl, hst⟩
    refine ⟨_, rfl, ?_⟩
    refine wpList_nil ?_
    refine k25 _ _ ?_
    rcases iteS hM1 with ⟨c20, hM1⟩ | ⟨c20, hM1⟩
    · refine condT (et rfl rfl) c20 ?_
      refine seqQ fun Q26 k26 z26 => ?_
      refine wp_region_lit ?_
      refine Y wn rfl (ym (v := .int .i64 x10) (et rfl rfl)) ?_
      refine Y wn rfl (ya (v := .int .i64 x10) (et rfl rfl)) ?_
      refine wpList_nil ?_
      refine k26 _ _ ?_
      refine wp_ret ?_
      refine q23 _ _ _ ?_
      refine z22 _ _ _ rfl ?_
      obtain rfl := someI hM1
      refine zz1 _ _ _ _ rfl rfl ?_
      exact je1_1 _ _ _ rfl hst (ho1 _ rfl)
    · refine condF (et rfl rfl) (bfalse c20) ?_
      refine wp_skip ?_
      refine q23 _ _ _ ?_
      refine k22 _ _ ?_
      refine wp_region_lit ?_
      refine Y wn rfl (yadd (et rfl e1_8) rfl) ?_
      refine Y wn rfl (ym (v := .int .i64 (wa .i64 x10 1)) (et rfl rfl)) ?_
      refine wpList_nil ?_
      obtain rfl := someI hM1
      exact n1 _ _ _ rfl ⟨_, _, rfl, rfl, e1_0, e1_1, e1_7, rfl, hst⟩
  · refine condF (et rfl rfl) (decide_eq_false c17) ?_
    refine wp_exit ?_
    refine z21 _ _ _ rfl ?_
    obtain rfl := someI hM1
    refine zz1 _ _ _ _ rfl rfl ?_
    exact je1_0 _ _ hst (ho1 _ rfl)

theorem slices_ContainsFunc_int_ok {w0 : World} {ros : List Fact} {rs : List Res} {w : World} {x1 : List Int} {x4 : List (List Int)} {h2 : Hdr} {b3 : Nat} {h5 : Hdr} {out : Bool} (hM : slices_ContainsFunc_int x1 x4 = some out) (q1 : imm (rI .i64) h2.v x1 ∈ ros) (q2 : imm (rS (rI .i64)) h5.v x4 ∈ ros) (hst : St w0 ros (box b3 27 [h5.v] :: rs) w) :
    Calls Try.prog 47 #[h2.v, .func (.func 64) #[] #[.pointer (some ⟨b3, 0, none⟩)]] w (fun e w => e = .returned (.bool out) ∧ St w0 (ros) (box b3 27 [h5.v] :: rs) w) := by
  refine enterQ Try.func47 rfl Try.ntmps47 rfl fun Q hQ => ?_
  refine seqQ fun Q1 k1 z1 => ?_
  refine wp_region_lit ?_
  refine Y wn rfl (ya (v := .bool false) rfl) ?_
  refine wpList_nil ?_
  refine k1 _ _ ?_
  refine seqQ fun Q2 k2 z2 => ?_
  refine wp_region_lit ?_
  refine Y wn rfl (ym (v := h2.v) (et rfl rfl)) ?_
  refine Y wn rfl (ym (v := .func (.func 64) #[] #[.pointer (some ⟨b3, 0, none⟩)]) (et rfl rfl)) ?_
  obtain ⟨r6, gr6, hM⟩ := bs hM
  refine Yc wn rfl (yCall FN_67 (a2 (et rfl rfl) (et rfl rfl))) (slices_IndexFunc_int_ok (hM := gr6) (hst := hst) (q1 := q1) (q2 := q2)) ?_
  clear hst
  rintro _ w ⟨rfl, hst⟩
  refine ⟨_, rfl, ?_⟩
  refine Y wn rfl (ygeq (et rfl rfl) rfl) ?_
  refine Y wn rfl (ya (v := .bool (decide ((0 : Int) ≤ r6))) (et rfl rfl)) ?_
  refine wpList_nil ?_
  refine k2 _ _ ?_
  refine wp_ret ?_
  obtain rfl := someI hM
  exact hQ _ _ _ (fin1r Try.results47 ⟨rfl, rfl⟩ ⟨rfl, hst⟩)

theorem slices_Values_int_ok {w0 : World} {ros : List Fact} {rs : List Res} {w : World} {x1 : List Int} {h2 : Hdr} {out : Unit} (hM : slices_Values_int x1 = some out) (q1 : imm (rI .i64) h2.v x1 ∈ ros) (hst : St w0 ros (rs) w) :
    Calls Try.prog 70 #[h2.v] w (fun e w => ∃ (b100001 : Nat), e = .returned (.func (.func 92) #[] #[.pointer (some ⟨b100001, 0, none⟩)]) ∧ St w0 (ros) (box b100001 22 [h2.v] :: rs) w) := by
  refine enterQ Try.func70 rfl Try.ntmps70 rfl fun Q hQ => ?_
  refine seqQ fun Q1 k1 z1 => ?_
  refine wp_region_lit ?_
  refine YB wn rfl (r_box (vals := [h2.v]) hst (et rfl rfl) rfl) ?_
  clear hst
  intro b3 w hst
  refine Y wn rfl (ya (v := .nilFunc) rfl) ?_
  refine wpList_nil ?_
  refine k1 _ _ ?_
  refine seqQ fun Q2 k2 z2 => ?_
  refine wp_region_lit ?_
  refine Y wn rfl (ymf (vf := #[]) (vc := #[.pointer (some ⟨b3, 0, none⟩)]) a0 (a1 (et rfl rfl))) ?_
  refine Y wn rfl (ya (v := .func (.func 92) #[] #[.pointer (some ⟨b3, 0, none⟩)]) (et rfl rfl)) ?_
  refine wpList_nil ?_
  refine k2 _ _ ?_
  refine wp_ret ?_
  obtain rfl := someI hM
  exact hQ _ _ _ (fin1r Try.results70 ⟨rfl, rfl⟩ ⟨_, rfl, hst⟩)

theorem slices_Collect_int_ok {w0 : World} {ros : List Fact} {rs : List Res} {w : World} {x2 : List Int} {b1 : Nat} {h3 : Hdr} {out : (List Int)} (hM : slices_Collect_int x2 = some out) (q1 : imm (rI .i64) h3.v x2 ∈ ros) (hst : St w0 ros (box b1 22 [h3.v] :: rs) w) :
    Calls Try.prog 91 #[.func (.func 92) #[] #[.pointer (some ⟨b1, 0, none⟩)]] w (fun e w => ∃ (h100001 : Hdr), e = .returned (h100001.v) ∧ St w0 (ros) (box b1 22 [h3.v] :: row 3 (rI .i64) h100001.v out :: rs) w) := by
  refine enterQ Try.func91 rfl Try.ntmps91 rfl fun Q hQ => ?_
  refine seqQ fun Q1 k1 z1 => ?_
  refine wp_region_lit ?_
  refine Y wn rfl (ya (v := hnil.v) rfl) ?_
  refine wpList_nil ?_
  refine k1 _ _ ?_
  refine seqQ fun Q2 k2 z2 => ?_
  refine wp_region_lit ?_
  refine Y wn rfl (ym (v := .func (.func 92) #[] #[.pointer (some ⟨b1, 0, none⟩)]) (et rfl rfl)) ?_
  obtain ⟨r4, gr4, hM⟩ := bs hM
  refine Yc wn rfl (yCall FN_103 (a2 rfl (et rfl rfl))) (colV_ok (hM := gr4) (hst := hst) (q1 := q1)) ?_
  clear hst
  rintro _ w ⟨h5, rfl, hst⟩
  refine ⟨_, rfl, ?_⟩
  refine Y wn rfl (ya (v := h5.v) (et rfl rfl)) ?_
  refine wpList_nil ?_
  refine k2 _ _ ?_
  refine wp_ret ?_
  obtain rfl := someI hM
  exact hQ _ _ _ (fin1r Try.results91 ⟨rfl, rfl⟩ ⟨_, rfl, (hst.pk 2 [1, 0] rfl)⟩)

theorem slices_Sorted_int_ok {w0 : World} {ros : List Fact} {rs : List Res} {w : World} {x2 : List Int} {b1 : Nat} {h3 : Hdr} {out : (List Int)} (hM : slices_Sorted_int x2 = some out) (q1 : imm (rI .i64) h3.v x2 ∈ ros) (hst : St w0 ros (box b1 22 [h3.v] :: rs) w) :
    Calls Try.prog 69 #[.func (.func 92) #[] #[.pointer (some ⟨b1, 0, none⟩)]] w (fun e w => ∃ (h100001 : Hdr), e = .returned (h100001.v) ∧ St w0 (ros) (box b1 22 [h3.v] :: row 3 (rI .i64) h100001.v out :: rs) w) := by
  refine enterQ Try.func69 rfl Try.ntmps69 rfl fun Q hQ => ?_
  refine seqQ fun Q1 k1 z1 => ?_
  refine wp_region_lit ?_
  refine Y wn rfl (ya (v := hnil.v) rfl) ?_
  refine wpList_nil ?_
  refine k1 _ _ ?_
  refine seqQ fun Q2 k2 z2 => ?_
  refine wp_region_lit ?_
  refine Y wn rfl (ym (v := .func (.func 92) #[] #[.pointer (some ⟨b1, 0, none⟩)]) (et rfl rfl)) ?_
  obtain ⟨r4, gr4, hM⟩ := bs hM
  refine Yc wn rfl (yCall FN_91 (a1 (et rfl rfl))) (slices_Collect_int_ok (hM := gr4) (hst := hst) (q1 := q1)) ?_
  clear hst
  rintro _ w ⟨h5, rfl, hst⟩
  refine ⟨_, rfl, ?_⟩
  refine Y wn rfl (ya (v := h5.v) (et rfl rfl)) ?_
  refine wpList_nil ?_
  refine k2 _ _ ?_
  refine seqQ fun Q3 k3 z3 => ?_
  refine wp_region_lit ?_
  refine Y wn rfl (ym (v := h5.v) (et rfl rfl)) ?_
  obtain ⟨r6, gr6, hM⟩ := bs hM
  replace hst := hst.pk 2 [1, 0] rfl
  refine Yc wn rfl (yCall FN_40 (a1 (et rfl rfl))) (slices_Sort_int_ok (hM := gr6) (hst := hst) ) ?_
  clear hst
  rintro _ w ⟨rfl, hst⟩
  refine ⟨_, rfl, ?_⟩
  refine wpList_nil ?_
  refine k3 _ _ ?_
  refine seqQ fun Q4 k4 z4 => ?_
  refine wp_region_lit ?_
  refine Y wn rfl (ym (v := h5.v) (et rfl rfl)) ?_
  refine Y wn rfl (ya (v := h5.v) (et rfl rfl)) ?_
  refine wpList_nil ?_
  refine k4 _ _ ?_
  refine wp_ret ?_
  obtain rfl := someI hM
  exact hQ _ _ _ (fin1r Try.results69 ⟨rfl, rfl⟩ ⟨_, rfl, (hst.pk 2 [1, 0] rfl)⟩)

theorem slices_Compact_int_ok {w0 : World} {ros : List Fact} {rs : List Res} {w : World} {x1 : List Int} {h2 : Hdr} {out : Unit} (hM : slices_Compact_int x1 = some out) (hst : St w0 ros (row 3 (rI .i64) h2.v x1 :: rs) w) :
    Calls Try.prog 68 #[h2.v] w (fun e w => e = .returned (h2.v) ∧ St w0 (ros) (row 3 (rI .i64) h2.v x1 :: rs) w) := by
  refine enterQ Try.func68 rfl Try.ntmps68 rfl fun Q hQ => ?_
  refine seqQ fun Q1 k1 z1 => ?_
  refine wp_region_lit ?_
  refine Y wn rfl (ya (v := hnil.v) rfl) ?_
  refine wpList_nil ?_
  refine k1 _ _ ?_
  refine seqQ fun Q2 k2 z2 => ?_
  refine seqQ fun Q3 k3 z3 => ?_
  refine wp_region_lit ?_
  refine Y wn rfl (ym (v := h2.v) (et rfl rfl)) ?_
  refine Y wn rfl (yLen SL_22 (et rfl rfl) hst (rdO mhR)) ?_
  refine Y wn rfl (ylss (et rfl rfl) rfl) ?_
  refine wpList_nil ?_
  refine k3 _ _ ?_
  rcases iteS hM with ⟨c3, hM⟩ | ⟨c3, hM⟩
  · refine condT (et rfl rfl) (decide_eq_true c3) ?_
    refine seqQ fun Q4 k4 z4 => ?_
    refine wp_region_lit ?_
    refine Y wn rfl (ym (v := h2.v) (et rfl rfl)) ?_
    refine Y wn rfl (ya (v := h2.v) (et rfl rfl)) ?_
    refine wpList_nil ?_
    refine k4 _ _ ?_
    refine wp_ret ?_
    refine z2 _ _ _ rfl ?_
    obtain rfl := someI hM
    exact hQ _ _ _ (fin1r Try.results68 ⟨rfl, rfl⟩ ⟨rfl, hst⟩)
  · refine condF (et rfl rfl) (decide_eq_false c3) ?_
    refine wp_skip ?_
    refine k2 _ _ ?_
    refine seqQ fun Q5 k5 z5 => ?_
    refine seqQ fun Q6 k6 z6 => ?_
    refine wp_region_lit ?_
    refine Y wn rfl (ya (v := .int .i64 1) rfl) ?_
    refine wpList_nil ?_
    refine k6 _ _ ?_
    refine blockQ fun Q7 q7 => ?_
    obtain ⟨o7, go7, hM⟩ := bs hM
    have je7_0 : ∀ (f : Nat → Value) (w : World), f 0 = h2.v → St w0 (ros) (row 3 (rI .i64) h2.v x1 :: rs) w → () = o7 → Q7 (.exit 0) (fr 61 f) w := by
      intro f w eje7_0_0 hst ho
      subst ho
      refine q7 _ _ _ ?_
      refine k5 _ _ ?_
      refine seqQ fun Q56 k56 z56 => ?_
      refine wp_region_lit ?_
      refine Y wn rfl (ym (v := h2.v) (et rfl eje7_0_0)) ?_
      refine Y wn rfl (ya (v := h2.v) (et rfl rfl)) ?_
      refine wpList_nil ?_
      refine k56 _ _ ?_
      refine wp_ret ?_
      obtain rfl := someI hM
      exact hQ _ _ _ (fin1r Try.results68 ⟨rfl, rfl⟩ ⟨rfl, hst⟩)
    refine loopQ (fun s a w => ∃ (x28 : Int) (f : Nat → Value), x28 = s ∧ a = fr 61 f ∧ f 0 = h2.v ∧ f 3 = .int .i64 x28 ∧ St w0 (ros) (row 3 (rI .i64) h2.v x1 :: rs) w) go7 ⟨_, _, rfl, rfl, rfl, rfl, hst⟩ ?_
    clear hst
    rintro _ _ w r7_ ⟨x28, f, rfl, rfl, e7_0, e7_3, hst⟩ hM7 ho7 Q100007 n7 zz7
    refine seqQ fun Q57 k57 z57 => ?_
    refine seqQ fun Q58 k58 z58 => ?_
    refine wp_region_lit ?_
    refine Y wn rfl (ym (v := .int .i64 x28) (et rfl e7_3)) ?_
    refine Y wn rfl (ym (v := h2.v) (et rfl e7_0)) ?_
    refine Y wn rfl (yLen SL_22 (et rfl rfl) hst (rdO mhR)) ?_
    refine Y wn rfl (ylss (et rfl rfl) (et rfl rfl)) ?_
    refine wpList_nil ?_
    refine k58 _ _ ?_
    rcases iteS hM7 with ⟨c54, hM7⟩ | ⟨c54, hM7⟩
    · refine condT (et rfl rfl) (decide_eq_true c54) ?_
      refine wp_skip ?_
      refine k57 _ _ ?_
      refine seqQ fun Q59 k59 z59 => ?_
      refine blockQ fun Q60 q60 => ?_
      refine seqQ fun Q61 k61 z61 => ?_
      obtain ⟨x55, gx55, hM7⟩ := bs hM7
      obtain ⟨x56, gx56, hM7⟩ := bs hM7
      refine wp_drawR [0, 0, 3, 7, 0, 0, 32, 112, 240, 511] [] 0 folM (by kernel_rfl) (by kernel_rfl) (by kernel_rfl) ?_
      replace hst := hst.drew
      refine DRz (l1 := [0, 1, 2, 3, 4, 5, 6, 7, 8, 9]) (l2 := []) (by kernel_rfl) (by kernel_rfl) ?_
      refine Ry rfl rfl wn (ym (v := h2.v) (et rfl e7_0)) ?_
      refine Ry rfl rfl wn (ym (v := .int .i64 x28) (et rfl e7_3)) ?_
      refine Ry rfl rfl wn (yIa SL_22 (et rfl rfl) (et rfl rfl) hst (rdO mhR) gx55) ?_
      refine Ry rfl rfl wn (yI O_3 (et rfl rfl) hst (rdO mhR) gx55) ?_
      refine Ry rfl rfl wn (ym (v := h2.v) (et rfl e7_0)) ?_
      refine Ry rfl rfl wn (ym (v := .int .i64 x28) (et rfl e7_3)) ?_
      refine Ry rfl rfl wn (ysub (et rfl rfl) rfl) ?_
      refine Ry rfl rfl wn (yIa SL_22 (et rfl rfl) (et rfl rfl) hst (rdO mhR) gx56) ?_
      refine Ry rfl rfl wn (yI O_3 (et rfl rfl) hst (rdO mhR) gx56) ?_
      refine Ry rfl rfl wn (yeql (et rfl rfl) (et rfl rfl)) ?_
      refine Rn QSn ?_
      refine k61 _ _ ?_
      rcases iteS hM7 with ⟨c57, hM7⟩ | ⟨c57, hM7⟩
      · refine condT (et rfl rfl) (decide_eq_true c57) ?_
        cases hM7
      · refine condF (et rfl rfl) (decide_eq_false c57) ?_
        refine wp_skip ?_
        refine q60 _ _ _ ?_
        refine k59 _ _ ?_
        refine wp_region_lit ?_
        refine Y wn rfl (ym (v := .int .i64 x28) (et rfl e7_3)) ?_
        refine Y wn rfl (yadd (et rfl rfl) rfl) ?_
        refine Y wn rfl (ya (v := .int .i64 (wa .i64 x28 1)) (et rfl rfl)) ?_
        refine wpList_nil ?_
        obtain rfl := someI hM7
        exact n7 _ _ _ rfl ⟨_, _, rfl, rfl, e7_0, rfl, hst⟩
    · refine condF (et rfl rfl) (decide_eq_false c54) ?_
      refine wp_exit ?_
      refine z57 _ _ _ rfl ?_
      obtain rfl := someI hM7
      refine zz7 _ _ _ _ rfl rfl ?_
      exact je7_0 _ _ e7_0 hst (ho7 _ rfl)

theorem graph_twice_ok {w0 : World} {ros : List Fact} {rs : List Res} {w : World} {x1 : List Int} {h2 : Hdr} {out : Bool} (hM : graph_twice x1 = some out) (q1 : imm (rI .i64) h2.v x1 ∈ ros) (hst : St w0 ros (rs) w) :
    Calls Try.prog 49 #[h2.v] w (fun e w => e = .returned (.bool out) ∧ St w0 (ros) (rs) w) := by
  refine enterQ Try.func49 rfl Try.ntmps49 rfl fun Q hQ => ?_
  refine seqQ fun Q1 k1 z1 => ?_
  refine wp_region_lit ?_
  refine Y wn rfl (ya (v := .bool false) rfl) ?_
  refine wpList_nil ?_
  refine k1 _ _ ?_
  refine seqQ fun Q2 k2 z2 => ?_
  refine wp_region_lit ?_
  refine Y wn rfl (ym (v := h2.v) (et rfl rfl)) ?_
  obtain ⟨r3, gr3, hM⟩ := bs hM
  refine Yc wn rfl (yCall FN_70 (a1 (et rfl rfl))) (slices_Values_int_ok (hM := gr3) (hst := hst) (q1 := q1)) ?_
  clear hst
  rintro _ w ⟨b4, rfl, hst⟩
  refine ⟨_, rfl, ?_⟩
  obtain ⟨r5, gr5, hM⟩ := bs hM
  refine Yc wn rfl (yCall FN_69 (a1 (et rfl rfl))) (slices_Sorted_int_ok (hM := gr5) (hst := hst) (q1 := q1)) ?_
  clear hst
  rintro _ w ⟨h6, rfl, hst⟩
  refine ⟨_, rfl, ?_⟩
  obtain ⟨r7, gr7, hM⟩ := bs hM
  replace hst := hst.pk 2 [1, 0] rfl
  refine Yc wn rfl (yCall FN_68 (a1 (et rfl rfl))) (slices_Compact_int_ok (hM := gr7) (hst := hst) ) ?_
  clear hst
  rintro _ w ⟨rfl, hst⟩
  refine ⟨_, rfl, ?_⟩
  refine Y wn rfl (yLen SL_22 (et rfl rfl) hst (rdO mhR)) ?_
  refine Y wn rfl (ym (v := h2.v) (et rfl rfl)) ?_
  refine Y wn rfl (yLen SL_22 (et rfl rfl) hst (rdI q1)) ?_
  refine Y wn rfl (ylss (et rfl rfl) (et rfl rfl)) ?_
  refine Y wn rfl (ya (v := .bool (decide ((r5.length : Int) < (x1.length : Int)))) (et rfl rfl)) ?_
  refine wpList_nil ?_
  refine k2 _ _ ?_
  refine wp_ret ?_
  obtain rfl := someI hM
  exact hQ _ _ _ (fin1r Try.results49 ⟨rfl, rfl⟩ ⟨rfl, (hst.pk 2 [] rfl)⟩)

theorem graph_Permuted_ok {w0 : World} {ros : List Fact} {rs : List Res} {w : World} {x1 : List (List Int)} {x3 : List Int} {h2 : Hdr} {h4 : Hdr} {out : Int} (hM : graph_Permuted x1 x3 = some out) (q1 : imm (rS (rI .i64)) h2.v x1 ∈ ros) (q2 : imm (rI .i64) h4.v x3 ∈ ros) (hst : St w0 ros (rs) w) :
    Calls Try.prog 41 #[.agg #[h2.v], h4.v] w (fun e w => e = .returned (.int .i64 out) ∧ St w0 (ros) (rs) w) := by
  refine enterQ Try.func41 rfl Try.ntmps41 rfl fun Q hQ => ?_
  refine seqQ fun Q1 k1 z1 => ?_
  refine wp_region_lit ?_
  refine YB wn rfl (r_box (vals := [h2.v]) hst (et rfl rfl) rfl) ?_
  clear hst
  intro b5 w hst
  refine Y wn rfl (ya (v := .int .i64 0) rfl) ?_
  refine wpList_nil ?_
  refine k1 _ _ ?_
  refine seqQ fun Q2 k2 z2 => ?_
  refine wp_region_lit ?_
  refine Y wn rfl (yLbs (us := [h2.v]) ST_27 (et rfl rfl) hst mhR rfl rfl) ?_
  obtain ⟨r6, gr6, hM⟩ := bs hM
  refine Yc wn rfl (yCall FN_22 (a1 (et rfl rfl))) (graph_Check_ok (hM := gr6) (hst := hst) (q1 := q1)) ?_
  clear hst
  rintro _ w ⟨rfl, hst⟩
  refine ⟨_, rfl, ?_⟩
  refine Y wn rfl (ya (v := .int .i64 r6) (et rfl rfl)) ?_
  refine wpList_nil ?_
  refine k2 _ _ ?_
  refine seqQ fun Q3 k3 z3 => ?_
  refine blockQ fun Q4 q4 => ?_
  refine seqQ fun Q5 k5 z5 => ?_
  refine wp_region_lit ?_
  refine Y wn rfl (ym (v := .int .i64 r6) (et rfl rfl)) ?_
  refine Y wn rfl (yneq (et rfl rfl) rfl) ?_
  refine Y wn rfl (ya (v := .bool (!(decide (r6 = 0)))) (et rfl rfl)) ?_
  refine wpList_nil ?_
  refine k5 _ _ ?_
  rcases iteS hM with ⟨c7, hM⟩ | ⟨c7, hM⟩
  · refine condF (et rfl rfl) (nF (decide_eq_true c7)) ?_
    refine seqQ fun Q6 k6 z6 => ?_
    refine wp_region_lit ?_
    refine Y wn rfl (ym (v := h4.v) (et rfl rfl)) ?_
    refine Y wn rfl (yLen SL_22 (et rfl rfl) hst (rdI q2)) ?_
    refine Y wn rfl (yFb FL_27_0 (et rfl rfl)) ?_
    refine Y wn rfl (yLb (u := h2.v) O_25 (et rfl rfl) hst mhR rfl) ?_
    refine Y wn rfl (yLen SL_25 (et rfl rfl) hst (rdI q1)) ?_
    refine Y wn rfl (yneq (et rfl rfl) (et rfl rfl)) ?_
    refine Y wn rfl (ya (v := .bool (!(decide ((x3.length : Int) = (x1.length : Int))))) (et rfl rfl)) ?_
    refine wpList_nil ?_
    refine k6 _ _ ?_
    rcases iteS hM with ⟨c8, hM⟩ | ⟨c8, hM⟩
    · refine condF (et rfl rfl) (nF (decide_eq_true c8)) ?_
      refine seqQ fun Q7 k7 z7 => ?_
      refine wp_region_lit ?_
      refine Y wn rfl (ym (v := h4.v) (et rfl rfl)) ?_
      refine Y wn rfl (ymf (vf := #[]) (vc := #[.pointer (some ⟨b5, 0, none⟩)]) a0 (a1 (et rfl rfl))) ?_
      obtain ⟨r9, gr9, hM⟩ := bs hM
      refine Yc wn rfl (yCall FN_47 (a2 (et rfl rfl) (et rfl rfl))) (slices_ContainsFunc_int_ok (hM := gr9) (hst := hst) (q1 := q2) (q2 := q1)) ?_
      clear hst
      rintro _ w ⟨rfl, hst⟩
      refine ⟨_, rfl, ?_⟩
      refine Y wn rfl (ym (v := .bool r9) (et rfl rfl)) ?_
      obtain ⟨r11, gr11, hM⟩ := bs hM
      refine joinW 3 (fun f w => f 26 = .bool r11 ∧ St w0 (ros) (rs) w) (fun j1 => ?_) ?_
      · rcases iteS gr11 with ⟨c13, gr11⟩ | ⟨c13, gr11⟩
        · refine Gn (wx rfl rfl rfl c13) rfl ?_
          refine Gn (wx rfl rfl rfl c13) rfl ?_
          refine Y wn rfl (ypt (v := .bool true) (et rfl rfl) c13 rfl) ?_
          obtain rfl := someI gr11
          exact j1 _ _ ⟨rfl, (hst.pk 1 [] rfl)⟩
        · refine Y (wg rfl rfl rfl (bfalse c13)) rfl (ym (v := h4.v) (et rfl rfl)) ?_
          obtain ⟨r14, gr14, gr11⟩ := bs gr11
          refine Yc (wg rfl rfl rfl (bfalse c13)) rfl (yCall FN_49 (a1 (et rfl rfl))) (graph_twice_ok (hM := gr14) (hst := hst) (q1 := q2)) ?_
          clear hst
          rintro _ w ⟨rfl, hst⟩
          refine ⟨_, rfl, ?_⟩
          refine Y wn rfl (ypf (v := .bool r14) (et rfl rfl) (bfalse c13) (et rfl rfl)) ?_
          obtain rfl := someI gr11
          exact j1 _ _ ⟨rfl, (hst.pk 1 [] rfl)⟩
      clear hst
      rintro f w ⟨e12_26, hst⟩
      refine Y wn rfl (ya (v := .bool r11) (et rfl e12_26)) ?_
      refine wpList_nil ?_
      refine k7 _ _ ?_
      rcases iteS hM with ⟨c15, hM⟩ | ⟨c15, hM⟩
      · refine condT (et rfl rfl) c15 ?_
        refine seqQ fun Q8 k8 z8 => ?_
        refine wp_region_lit ?_
        refine Y wn rfl (ya (v := .int .i64 90) rfl) ?_
        refine wpList_nil ?_
        refine k8 _ _ ?_
        refine wp_ret ?_
        refine q4 _ _ _ ?_
        refine z3 _ _ _ rfl ?_
        obtain rfl := someI hM
        exact hQ _ _ _ (fin1r Try.results41 ⟨rfl, rfl⟩ ⟨rfl, hst⟩)
      · refine condF (et rfl rfl) (bfalse c15) ?_
        refine wp_skip ?_
        refine q4 _ _ _ ?_
        refine k3 _ _ ?_
        refine seqQ fun Q9 k9 z9 => ?_
        refine wp_region_lit ?_
        refine Y wn rfl (ya (v := .int .i64 0) rfl) ?_
        refine wpList_nil ?_
        refine k9 _ _ ?_
        refine wp_ret ?_
        obtain rfl := someI hM
        exact hQ _ _ _ (fin1r Try.results41 ⟨rfl, rfl⟩ ⟨rfl, hst⟩)
    · refine condT (et rfl rfl) (nT (decide_eq_false c8)) ?_
      refine seqQ fun Q10 k10 z10 => ?_
      refine wp_region_lit ?_
      refine Y wn rfl (ya (v := .int .i64 2) rfl) ?_
      refine wpList_nil ?_
      refine k10 _ _ ?_
      refine wp_ret ?_
      refine q4 _ _ _ ?_
      refine z3 _ _ _ rfl ?_
      obtain rfl := someI hM
      exact hQ _ _ _ (fin1r Try.results41 ⟨rfl, rfl⟩ ⟨rfl, (hst.pk 1 [] rfl)⟩)
  · refine condT (et rfl rfl) (nT (decide_eq_false c7)) ?_
    refine seqQ fun Q11 k11 z11 => ?_
    refine wp_region_lit ?_
    refine Y wn rfl (ym (v := .int .i64 r6) (et rfl rfl)) ?_
    refine Y wn rfl (ya (v := .int .i64 r6) (et rfl rfl)) ?_
    refine wpList_nil ?_
    refine k11 _ _ ?_
    refine wp_ret ?_
    refine q4 _ _ _ ?_
    refine z3 _ _ _ rfl ?_
    obtain rfl := someI hM
    exact hQ _ _ _ (fin1r Try.results41 ⟨rfl, rfl⟩ ⟨rfl, (hst.pk 1 [] rfl)⟩)

theorem graph_NewSets_ok {w0 : World} {ros : List Fact} {rs : List Res} {w : World} {x1 : Int} {out : (List (List Bool))} (hM : graph_NewSets x1 = some out) (hst : St w0 ros (rs) w) :
    Calls Try.prog 55 #[.int .i64 x1] w (fun e w => ∃ (h100001 : Hdr) (y100002 : List Hdr), e = .returned (h100001.v) ∧ St w0 (ros) (row 54 rH h100001.v y100002 :: fam 4 rB y100002 out :: rs) w) := by
  refine enterQ Try.func55 rfl Try.ntmps55 rfl fun Q hQ => ?_
  refine seqQ fun Q1 k1 z1 => ?_
  refine wp_region_lit ?_
  refine Y wn rfl (ya (v := hnil.v) rfl) ?_
  refine wpList_nil ?_
  refine k1 _ _ ?_
  refine seqQ fun Q2 k2 z2 => ?_
  refine wp_region_lit ?_
  refine Y wn rfl (ym (v := .int .i64 x1) (et rfl rfl)) ?_
  obtain ⟨x4, gx4, hM⟩ := bs hM
  obtain ⟨m3, em3, gm3⟩ := mkL_rep gx4 hnil
  refine YH wn rfl (rMk hst SLH_69 (et rfl rfl) gm3) ?_
  clear hst
  intro h2 w hst
  replace hst := (hst.fReps 4 rB m3).pk 2 [1, 0] rfl
  rw [← em3] at hst
  refine Y wn rfl (ya (v := h2.v) (et rfl rfl)) ?_
  refine wpList_nil ?_
  refine k2 _ _ ?_
  refine seqQ fun Q3 k3 z3 => ?_
  refine seqQ fun Q4 k4 z4 => ?_
  refine wp_region_lit ?_
  refine Y wn rfl (ym (v := h2.v) (et rfl rfl)) ?_
  refine Y wn rfl (yLenF SLH_69 (et rfl rfl) hst (rdO mhR) (mtR mhR)) ?_
  refine Y wn rfl (ym (v := .int .i64 0) rfl) ?_
  refine wpList_nil ?_
  refine k4 _ _ ?_
  refine blockQ fun Q5 q5 => ?_
  obtain ⟨o1, go1, hM⟩ := bs hM
  have je1_0 : ∀ (x24 : List (List Bool)) (y23 : List Hdr) (f : Nat → Value) (w : World), f 3 = h2.v → St w0 (ros) (row 54 rH h2.v y23 :: fam 4 rB y23 x24 :: rs) w → x24 = o1 → Q5 (.exit 0) (fr 19 f) w := by
    intro x24 y23 f w eje1_0_3 hst ho
    subst ho
    refine q5 _ _ _ ?_
    refine k3 _ _ ?_
    refine seqQ fun Q16 k16 z16 => ?_
    refine wp_region_lit ?_
    refine Y wn rfl (ym (v := h2.v) (et rfl eje1_0_3)) ?_
    refine Y wn rfl (ya (v := h2.v) (et rfl rfl)) ?_
    refine wpList_nil ?_
    refine k16 _ _ ?_
    refine wp_ret ?_
    obtain rfl := someI hM
    exact hQ _ _ _ (fin1r Try.results55 ⟨rfl, rfl⟩ ⟨_, _, rfl, hst⟩)
  refine loopQ (fun s a w => ∃ (x12 : List (List Bool)) (x13 : Int) (f : Nat → Value) (y11 : List Hdr), (x12, x13) = s ∧ a = fr 19 f ∧ f 0 = .int .i64 x1 ∧ f 3 = h2.v ∧ f 8 = .int .i64 (x4.length : Int) ∧ f 9 = .int .i64 x13 ∧ St w0 (ros) (row 54 rH h2.v y11 :: fam 4 rB y11 x12 :: rs) w) go1 ⟨_, _, _, _, rfl, rfl, rfl, rfl, rfl, rfl, hst⟩ ?_
  clear hst
  rintro _ _ w r1_ ⟨x12, x13, f, y11, rfl, rfl, e1_0, e1_3, e1_8, e1_9, hst⟩ hM1 ho1 Q100001 n1 zz1
  refine seqQ fun Q17 k17 z17 => ?_
  refine wp_region_lit ?_
  refine Y wn rfl (ylss (et rfl e1_9) (et rfl e1_8)) ?_
  refine wpList_nil ?_
  refine k17 _ _ ?_
  refine seqQ fun Q18 k18 z18 => ?_
  rcases iteS hM1 with ⟨c25, hM1⟩ | ⟨c25, hM1⟩
  · refine condT (et rfl rfl) (decide_eq_true c25) ?_
    refine wp_skip ?_
    refine k18 _ _ ?_
    refine seqQ fun Q19 k19 z19 => ?_
    refine blockQ fun Q20 q20 => ?_
    refine seqQ fun Q21 k21 z21 => ?_
    refine wp_region_lit ?_
    refine Y wn rfl (ym (v := .int .i64 x13) (et rfl e1_9)) ?_
    refine Y wn rfl (ya (v := .int .i64 x13) (et rfl rfl)) ?_
    refine wpList_nil ?_
    refine k21 _ _ ?_
    refine wp_region_lit ?_
    refine Y wn rfl (ym (v := h2.v) (et rfl e1_3)) ?_
    refine Y wn rfl (ym (v := .int .i64 x13) (et rfl rfl)) ?_
    refine Y wn rfl (ym (v := .int .i64 x1) (et rfl e1_0)) ?_
    obtain ⟨x28, gx28, hM1⟩ := bs hM1
    refine YH wn rfl (rMk hst SL_54 (et rfl rfl) gx28) ?_
    clear hst
    intro h26 w hst
    obtain ⟨x29, gx29, hM1⟩ := bs hM1
    obtain ⟨y30, gy30⟩ := setI_len (u := h26) gx29 (hst.famL (mtR (mtR mhR)))
    refine Y wn rfl (yIs SLH_69 (et rfl rfl) (et rfl rfl) hst (rdO (mtR mhR)) gy30) ?_
    replace hst := hst.pk 2 [1, 0] rfl
    refine YT wn rfl (r_sti (cs := [h26.v]) hst O_54 rfl (et rfl rfl) (et rfl rfl) rfl (mkF rfl) gy30) ?_
    clear hst
    intro w hst
    replace hst := hst.pk 3 [1, 1, 0] rfl
    replace hst := hst.fput gy30 gx29
    refine wpList_nil ?_
    refine q20 _ _ _ ?_
    refine k19 _ _ ?_
    refine wp_region_lit ?_
    refine Y wn rfl (yadd (et rfl e1_9) rfl) ?_
    refine Y wn rfl (ym (v := .int .i64 (wa .i64 x13 1)) (et rfl rfl)) ?_
    refine wpList_nil ?_
    obtain rfl := someI hM1
    exact n1 _ _ _ rfl ⟨_, _, _, _, rfl, rfl, e1_0, e1_3, e1_8, rfl, (hst.pk 2 [1, 0] rfl)⟩
  · refine condF (et rfl rfl) (decide_eq_false c25) ?_
    refine wp_exit ?_
    refine z18 _ _ _ rfl ?_
    obtain rfl := someI hM1
    refine zz1 _ _ _ _ rfl rfl ?_
    exact je1_0 _ _ _ _ e1_3 hst (ho1 _ rfl)
end Go.Proofs.Ytcknmegldjnjjaa
