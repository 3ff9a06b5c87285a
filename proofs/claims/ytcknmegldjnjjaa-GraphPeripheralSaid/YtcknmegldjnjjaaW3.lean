/- Walks: each function computes its model, printed. -/
import Derived.Test.YtcknmegldjnjjaaW2
namespace Go.Proofs.Ytcknmegldjnjjaa
open Go Sx M
set_option maxRecDepth 100000
set_option maxHeartbeats 400000
set_option linter.unusedVariables false
attribute [local irreducible] wpList Code.wp Calls DR QR QS LA LS St
theorem sparselaw12_GraphPeripheral_ok {w0 : World} {ros : List Fact} {rs : List Res} {w : World} {x1 : Int} {x2 : List Int} {x4 : Int} {h3 : Hdr} {out : Bool} (hM : sparselaw12_GraphPeripheral x1 x2 x4 = some out) (q1 : imm (rI .i64) h3.v x2 ∈ ros) (hst : St w0 ros (rs) w) :
    Calls Try.prog 5 #[.int .i64 x1, h3.v, .int .i64 x4] w (fun e w => e = .returned (.bool out) ∧ St w0 (ros) (rs) w) := by
  refine enterQ Try.func5 rfl Try.ntmps5 rfl fun Q hQ => ?_
  refine seqQ fun Q1 k1 z1 => ?_
  refine wp_region_lit ?_
  refine Y wn rfl (ya (v := .bool false) rfl) ?_
  refine wpList_nil ?_
  refine k1 _ _ ?_
  refine seqQ fun Q2 k2 z2 => ?_
  refine seqQ fun Q3 k3 z3 => ?_
  refine wp_region_lit ?_
  refine Y wn rfl (ym (v := h3.v) (et rfl rfl)) ?_
  refine Y wn rfl (yLen SL_22 (et rfl rfl) hst (rdI q1)) ?_
  refine Y wn rfl (ygtr (et rfl rfl) rfl) ?_
  refine wpList_nil ?_
  refine k3 _ _ ?_
  rcases iteS hM with ⟨c5, hM⟩ | ⟨c5, hM⟩
  · refine condT (et rfl rfl) (decide_eq_true c5) ?_
    refine seqQ fun Q4 k4 z4 => ?_
    refine wp_region_lit ?_
    obtain ⟨r6, gr6, hM⟩ := bs hM
    refine Yc wn rfl (yCall FN_9 a0) (sparselaw12_awake_ok (hM := gr6) (hst := hst) ) ?_
    clear hst
    rintro _ w ⟨rfl, hst⟩
    refine ⟨_, rfl, ?_⟩
    refine Y wn rfl (ya (v := .bool r6) (et rfl rfl)) ?_
    refine wpList_nil ?_
    refine k4 _ _ ?_
    refine wp_ret ?_
    refine z2 _ _ _ rfl ?_
    obtain rfl := someI hM
    exact hQ _ _ _ (fin1r Try.results5 ⟨rfl, rfl⟩ ⟨rfl, hst⟩)
  · refine condF (et rfl rfl) (decide_eq_false c5) ?_
    refine wp_skip ?_
    refine k2 _ _ ?_
    refine seqQ fun Q5 k5 z5 => ?_
    refine wp_region_lit ?_
    refine Y wn rfl (ym (v := .int .i64 x1) (et rfl rfl)) ?_
    obtain ⟨r7, gr7, hM⟩ := bs hM
    refine Yc wn rfl (yCall FN_10 (a2 (et rfl rfl) rfl)) (sparsekit_Place_ok (hM := gr7) (hst := hst) ) ?_
    clear hst
    rintro _ w ⟨rfl, hst⟩
    refine ⟨_, rfl, ?_⟩
    refine Y wn rfl (yadd rfl (et rfl rfl)) ?_
    refine Y wn rfl (ya (v := .int .i64 (wa .i64 1 r7)) (et rfl rfl)) ?_
    refine wpList_nil ?_
    refine k5 _ _ ?_
    refine seqQ fun Q6 k6 z6 => ?_
    refine wp_region_lit ?_
    refine Y wn rfl (ym (v := .int .i64 (wa .i64 1 r7)) (et rfl rfl)) ?_
    refine Y wn rfl (ym (v := h3.v) (et rfl rfl)) ?_
    obtain ⟨r8, gr8, hM⟩ := bs hM
    refine Yc wn rfl (yCall FN_11 (a2 (et rfl rfl) (et rfl rfl))) (sparsemake_Graph_ok (hM := gr8) (hst := hst) (q1 := q1)) ?_
    clear hst
    rintro _ w ⟨h9, rfl, hst⟩
    refine ⟨_, rfl, ?_⟩
    refine YB wn rfl (rAl hst ZT_27) ?_
    clear hst
    intro b10 w hst
    refine YT wn rfl (r_stbn (vals' := [h9.v]) (us := [h9.v]) hst ST_27 (et rfl rfl) (et rfl rfl) rfl rfl (one_of rfl) rfl) ?_
    clear hst
    intro w hst
    refine wpList_nil ?_
    refine k6 _ _ ?_
    refine seqQ fun Q7 k7 z7 => ?_
    refine wp_region_lit ?_
    refine Y wn rfl (ym (v := .int .i64 x4) (et rfl rfl)) ?_
    refine Y wn rfl (ym (v := .int .i64 (wa .i64 1 r7)) (et rfl rfl)) ?_
    obtain ⟨r11, gr11, hM⟩ := bs hM
    refine Yc wn rfl (yCall FN_10 (a2 (et rfl rfl) (et rfl rfl))) (sparsekit_Place_ok (hM := gr11) (hst := hst) ) ?_
    clear hst
    rintro _ w ⟨rfl, hst⟩
    refine ⟨_, rfl, ?_⟩
    refine Y wn rfl (ya (v := .int .i64 r11) (et rfl rfl)) ?_
    refine wpList_nil ?_
    refine k7 _ _ ?_
    refine seqQ fun Q8 k8 z8 => ?_
    refine wp_region_lit ?_
    refine Y wn rfl (yLbs (us := [h9.v]) ST_27 (et rfl rfl) hst mhR rfl rfl) ?_
    refine Y wn rfl (ym (v := .int .i64 r11) (et rfl rfl)) ?_
    obtain ⟨r12, gr12, hM⟩ := bs hM
    replace hst := hst.pk 2 [1, 0] rfl
    replace hst := hst.fz
    refine Yc wn rfl (yCall FN_17 (a2 (et rfl rfl) (et rfl rfl))) (graph_Peripheral_ok (hM := gr12) (hst := hst) (q1 := mhF)) ?_
    clear hst
    rintro _ w ⟨rfl, hst⟩
    refine ⟨_, rfl, ?_⟩
    refine Y wn rfl (ya (v := .int .i64 r12) (et rfl rfl)) ?_
    refine wpList_nil ?_
    refine k8 _ _ ?_
    refine seqQ fun Q9 k9 z9 => ?_
    refine seqQ fun Q10 k10 z10 => ?_
    refine wp_region_lit ?_
    refine Y wn rfl (ym (v := .int .i64 r12) (et rfl rfl)) ?_
    refine Y wn rfl (ylss (et rfl rfl) rfl) ?_
    refine Y wn rfl (ym (v := .bool (decide (r12 < 0))) (et rfl rfl)) ?_
    refine joinW 4 (fun f w => f 2 = .int .i64 r11 ∧ f 7 = .pointer (some ⟨b10, 0, none⟩) ∧ f 8 = .int .i64 r12 ∧ f 35 = .bool ((decide (r12 < 0)) || (decide ((wa .i64 1 r7) ≤ r12))) ∧ St w0 (imm (rS (rI .i64)) h9.v r8 :: ros) (box b10 27 [h9.v] :: rs) w) (fun j1 => ?_) ?_
    · rcases Bool.eq_false_or_eq_true (decide (r12 < 0)) with c14 | c14
      · refine Gn (wx rfl rfl rfl c14) rfl ?_
        refine Gn (wx rfl rfl rfl c14) rfl ?_
        refine Gn (wx rfl rfl rfl c14) rfl ?_
        refine Y wn rfl (ypt (v := .bool true) (et rfl rfl) c14 rfl) ?_
        exact j1 _ _ ⟨rfl, rfl, rfl, (congrArg Value.bool (orT c14)), hst⟩
      · refine Y (wg rfl rfl rfl c14) rfl (ym (v := .int .i64 r12) (et rfl rfl)) ?_
        refine Y (wg rfl rfl rfl c14) rfl (ym (v := .int .i64 (wa .i64 1 r7)) (et rfl rfl)) ?_
        refine Y (wg rfl rfl rfl c14) rfl (ygeq (et rfl rfl) (et rfl rfl)) ?_
        refine Y wn rfl (ypf (v := .bool (decide ((wa .i64 1 r7) ≤ r12))) (et rfl rfl) c14 (et rfl rfl)) ?_
        exact j1 _ _ ⟨rfl, rfl, rfl, (congrArg Value.bool (orF c14)), hst⟩
    clear hst
    rintro f w ⟨e13_2, e13_7, e13_8, e13_35, hst⟩
    refine Y wn rfl (ym (v := .bool ((decide (r12 < 0)) || (decide ((wa .i64 1 r7) ≤ r12)))) (et rfl e13_35)) ?_
    obtain ⟨r16, gr16, hM⟩ := bs hM
    refine joinW 6 (fun f w => f 2 = .int .i64 r11 ∧ f 7 = .pointer (some ⟨b10, 0, none⟩) ∧ f 8 = .int .i64 r12 ∧ f 42 = .bool r16 ∧ St w0 (imm (rS (rI .i64)) h9.v r8 :: ros) (box b10 27 [h9.v] :: rs) w) (fun j2 => ?_) ?_
    · rcases iteS gr16 with ⟨c18, gr16⟩ | ⟨c18, gr16⟩
      · refine Gn (wx rfl rfl rfl c18) rfl ?_
        refine Gn (wx rfl rfl rfl c18) rfl ?_
        refine Gn (wx rfl rfl rfl c18) rfl ?_
        refine Gn (wx rfl rfl rfl c18) rfl ?_
        refine Gn (wx rfl rfl rfl c18) rfl ?_
        refine Y wn rfl (ypt (v := .bool true) (et rfl rfl) c18 rfl) ?_
        obtain rfl := someI gr16
        exact j2 _ _ ⟨e13_2, e13_7, e13_8, rfl, hst⟩
      · refine Y (wg rfl rfl rfl (bfalse c18)) rfl (yLbs (us := [h9.v]) ST_27 (et rfl e13_7) hst mhR rfl rfl) ?_
        refine Y (wg rfl rfl rfl (bfalse c18)) rfl (ym (v := .int .i64 r12) (et rfl e13_8)) ?_
        obtain ⟨r19, gr19, gr16⟩ := bs gr16
        refine Yc (wg rfl rfl rfl (bfalse c18)) rfl (yCall FN_17 (a2 (et rfl rfl) (et rfl rfl))) (graph_Peripheral_ok (hM := gr19) (hst := hst) (q1 := mhF)) ?_
        clear hst
        rintro _ w ⟨rfl, hst⟩
        refine ⟨_, rfl, ?_⟩
        refine Y (wg rfl rfl rfl (bfalse c18)) rfl (ym (v := .int .i64 r12) (et rfl e13_8)) ?_
        refine Y (wg rfl rfl rfl (bfalse c18)) rfl (yneq (et rfl rfl) (et rfl rfl)) ?_
        refine Y wn rfl (ypf (v := .bool (!(decide (r19 = r12)))) (et rfl rfl) (bfalse c18) (et rfl rfl)) ?_
        obtain rfl := someI gr16
        exact j2 _ _ ⟨e13_2, e13_7, e13_8, rfl, hst⟩
    clear hst
    rintro f w ⟨e17_2, e17_7, e17_8, e17_42, hst⟩
    refine wpList_nil ?_
    refine k10 _ _ ?_
    rcases iteS hM with ⟨c20, hM⟩ | ⟨c20, hM⟩
    · refine condT (et rfl e17_42) c20 ?_
      refine seqQ fun Q11 k11 z11 => ?_
      refine wp_region_lit ?_
      refine Y wn rfl (ya (v := .bool false) rfl) ?_
      refine wpList_nil ?_
      refine k11 _ _ ?_
      refine wp_ret ?_
      refine z9 _ _ _ rfl ?_
      obtain rfl := someI hM
      exact hQ _ _ _ (fin1r Try.results5 ⟨rfl, rfl⟩ ⟨rfl, ((hst.pk 1 [] rfl).facts (allT allI))⟩)
    · refine condF (et rfl e17_42) (bfalse c20) ?_
      refine wp_skip ?_
      refine k9 _ _ ?_
      refine seqQ fun Q12 k12 z12 => ?_
      obtain ⟨r21, gr21, hM⟩ := bs hM
      obtain ⟨r23, gr23, hM⟩ := bs hM
      refine wp_drawR [0, 0, 3, 0, 0, 31, 63, 127] [2, 5, 6, 7] 4 folM (by kernel_rfl) (by kernel_rfl) (by kernel_rfl) ?_
      replace hst := hst.drew
      refine DRn (l1 := [0, 1, 3, 4]) (l2 := []) (lc := [2]) (by kernel_rfl) (by kernel_rfl) (by kernel_rfl) ?_
      refine Ry rfl rfl wn (yLbs (us := [h9.v]) ST_27 (et rfl e17_7) hst mhR rfl rfl) ?_
      refine Ry rfl rfl wn (ym (v := .int .i64 r11) (et rfl e17_2)) ?_
      refine Ry rfl rfl wn (yLbs (us := [h9.v]) ST_27 (et rfl e17_7) hst mhR rfl rfl) ?_
      refine Ry rfl rfl wn (ym (v := .int .i64 r12) (et rfl e17_8)) ?_
      refine Rn QSn ?_
      refine Lc rfl ?_ LAn
      refine Lk wn (yCall FN_12 (a2 (et rfl rfl) (et rfl rfl))) (graph_Levels_ok (hM := gr21) (hst := hst) (q1 := mhF)) ?_
      clear hst
      rintro _ w ⟨h22, rfl, hst⟩
      refine ⟨_, rfl, ?_⟩
      refine DRn (l1 := []) (l2 := [3, 4]) (lc := [5]) (by kernel_rfl) (by kernel_rfl) (by kernel_rfl) ?_
      refine Rn (Sy rfl rfl wn (yLbs (us := [h9.v]) ST_27 (et rfl e17_7) hst (mtR mhR) rfl rfl) rfl (Sy rfl rfl wn (ym (v := .int .i64 r12) (et rfl e17_8)) rfl QSn)) ?_
      refine Lc rfl ?_ LAn
      refine Lk wn (yCall FN_12 (a2 (et rfl rfl) (et rfl rfl))) (graph_Levels_ok (hM := gr23) (hst := hst) (q1 := mhF)) ?_
      clear hst
      rintro _ w ⟨h24, rfl, hst⟩
      refine ⟨_, rfl, ?_⟩
      refine DRn (l1 := []) (l2 := []) (lc := [6]) (by kernel_rfl) (by kernel_rfl) (by kernel_rfl) ?_
      refine Rn QSn ?_
      refine Lc rfl ?_ LAn
      refine Ly wn (ya (v := h22.v) (et rfl rfl)) ?_
      refine DRn (l1 := []) (l2 := []) (lc := [7]) (by kernel_rfl) (by kernel_rfl) (by kernel_rfl) ?_
      refine Rn QSn ?_
      refine Lc rfl ?_ LAn
      refine Ly wn (ya (v := h24.v) (et rfl rfl)) ?_
      refine DRz (l1 := []) (l2 := []) (by kernel_rfl) (by kernel_rfl) ?_
      refine Rn QSn ?_
      refine k12 _ _ ?_
      refine seqQ fun Q13 k13 z13 => ?_
      refine seqQ fun Q14 k14 z14 => ?_
      refine wp_region_lit ?_
      refine Y wn rfl (ym (v := h22.v) (et rfl rfl)) ?_
      refine Y wn rfl (yLen SL_25 (et rfl rfl) hst (rdO (mtR mhR))) ?_
      refine Y wn rfl (yeql (et rfl rfl) rfl) ?_
      refine Y wn rfl (ym (v := .bool (decide ((r21.length : Int) = 0))) (et rfl rfl)) ?_
      refine joinW 6 (fun f w => f 8 = .int .i64 r12 ∧ f 9 = h22.v ∧ f 58 = .bool ((decide ((r21.length : Int) = 0)) || (decide ((r23.length : Int) < (r21.length : Int)))) ∧ St w0 (ros) (row 22 (rS (rI .i64)) h22.v r21 :: rs) w) (fun j3 => ?_) ?_
      · rcases Bool.eq_false_or_eq_true (decide ((r21.length : Int) = 0)) with c26 | c26
        · refine Gn (wx rfl rfl rfl c26) rfl ?_
          refine Gn (wx rfl rfl rfl c26) rfl ?_
          refine Gn (wx rfl rfl rfl c26) rfl ?_
          refine Gn (wx rfl rfl rfl c26) rfl ?_
          refine Gn (wx rfl rfl rfl c26) rfl ?_
          refine Y wn rfl (ypt (v := .bool true) (et rfl rfl) c26 rfl) ?_
          exact j3 _ _ ⟨e17_8, rfl, (congrArg Value.bool (orT c26)), ((hst.pk 3 [1] rfl).facts (allT allI))⟩
        · refine Y (wg rfl rfl rfl c26) rfl (ym (v := h24.v) (et rfl rfl)) ?_
          refine Y (wg rfl rfl rfl c26) rfl (yLen SL_25 (et rfl rfl) hst (rdO mhR)) ?_
          refine Y (wg rfl rfl rfl c26) rfl (ym (v := h22.v) (et rfl rfl)) ?_
          refine Y (wg rfl rfl rfl c26) rfl (yLen SL_25 (et rfl rfl) hst (rdO (mtR mhR))) ?_
          refine Y (wg rfl rfl rfl c26) rfl (ylss (et rfl rfl) (et rfl rfl)) ?_
          refine Y wn rfl (ypf (v := .bool (decide ((r23.length : Int) < (r21.length : Int)))) (et rfl rfl) c26 (et rfl rfl)) ?_
          exact j3 _ _ ⟨e17_8, rfl, (congrArg Value.bool (orF c26)), ((hst.pk 3 [1] rfl).facts (allT allI))⟩
      clear hst
      rintro f w ⟨e25_8, e25_9, e25_58, hst⟩
      refine wpList_nil ?_
      refine k14 _ _ ?_
      rcases iteS hM with ⟨c27, hM⟩ | ⟨c27, hM⟩
      · refine condT (et rfl e25_58) c27 ?_
        refine seqQ fun Q15 k15 z15 => ?_
        refine wp_region_lit ?_
        refine Y wn rfl (ya (v := .bool false) rfl) ?_
        refine wpList_nil ?_
        refine k15 _ _ ?_
        refine wp_ret ?_
        refine z13 _ _ _ rfl ?_
        obtain rfl := someI hM
        exact hQ _ _ _ (fin1r Try.results5 ⟨rfl, rfl⟩ ⟨rfl, (hst.pk 1 [] rfl)⟩)
      · refine condF (et rfl e25_58) (bfalse c27) ?_
        refine wp_skip ?_
        refine k13 _ _ ?_
        refine seqQ fun Q16 k16 z16 => ?_
        refine wp_region_lit ?_
        refine Y wn rfl (ya (v := .bool false) rfl) ?_
        refine wpList_nil ?_
        refine k16 _ _ ?_
        refine seqQ fun Q17 k17 z17 => ?_
        refine seqQ fun Q18 k18 z18 => ?_
        refine wp_region_lit ?_
        refine Y wn rfl (ya (v := .int .i64 0) rfl) ?_
        refine wpList_nil ?_
        refine k18 _ _ ?_
        refine blockQ fun Q19 q19 => ?_
        obtain ⟨o5, go5, hM⟩ := bs hM
        have je5_0 : ∀ (x46 : Bool) (f : Nat → Value) (w : World), f 11 = .bool x46 → St w0 (ros) (rs) w → x46 = o5 → Q19 (.exit 0) (fr 78 f) w := by
          intro x46 f w eje5_0_11 hst ho
          subst ho
          refine q19 _ _ _ ?_
          refine k17 _ _ ?_
          refine seqQ fun Q28 k28 z28 => ?_
          refine wp_region_lit ?_
          refine Y wn rfl (ym (v := .bool x46) (et rfl eje5_0_11)) ?_
          refine Y wn rfl (ym (v := .bool x46) (et rfl rfl)) ?_
          obtain ⟨r48, gr48, hM⟩ := bs hM
          refine joinW 2 (fun f w => f 77 = .bool r48 ∧ St w0 (ros) (rs) w) (fun j6 => ?_) ?_
          · rcases iteS gr48 with ⟨c50, gr48⟩ | ⟨c50, gr48⟩
            · obtain ⟨r51, gr51, gr48⟩ := bs gr48
              refine Yc (wg rfl rfl rfl c50) rfl (yCall FN_9 a0) (sparselaw12_awake_ok (hM := gr51) (hst := hst) ) ?_
              clear hst
              rintro _ w ⟨rfl, hst⟩
              refine ⟨_, rfl, ?_⟩
              refine Y wn rfl (ypt (v := .bool r51) (et rfl rfl) c50 (et rfl rfl)) ?_
              obtain rfl := someI gr48
              exact j6 _ _ ⟨rfl, hst⟩
            · refine Gn (wx rfl rfl rfl (bfalse c50)) rfl ?_
              refine Y wn rfl (ypf (v := .bool false) (et rfl rfl) (bfalse c50) rfl) ?_
              obtain rfl := someI gr48
              exact j6 _ _ ⟨rfl, hst⟩
          clear hst
          rintro f w ⟨e49_77, hst⟩
          refine Y wn rfl (ya (v := .bool r48) (et rfl e49_77)) ?_
          refine wpList_nil ?_
          refine k28 _ _ ?_
          refine wp_ret ?_
          obtain rfl := someI hM
          exact hQ _ _ _ (fin1r Try.results5 ⟨rfl, rfl⟩ ⟨rfl, hst⟩)
        refine loopQ (fun s a w => ∃ (x32 : Bool) (x33 : Int) (f : Nat → Value), (x32, x33) = s ∧ a = fr 78 f ∧ f 8 = .int .i64 r12 ∧ f 9 = h22.v ∧ f 11 = .bool x32 ∧ f 12 = .int .i64 x33 ∧ St w0 (ros) (row 22 (rS (rI .i64)) h22.v r21 :: rs) w) go5 ⟨_, _, _, rfl, rfl, e25_8, e25_9, rfl, rfl, hst⟩ ?_
        clear hst
        rintro _ _ w r5_ ⟨x32, x33, f, rfl, rfl, e5_8, e5_9, e5_11, e5_12, hst⟩ hM5 ho5 Q100005 n5 zz5
        refine seqQ fun Q29 k29 z29 => ?_
        refine seqQ fun Q30 k30 z30 => ?_
        refine wp_region_lit ?_
        refine Y wn rfl (ym (v := .int .i64 x33) (et rfl e5_12)) ?_
        refine Y wn rfl (ym (v := h22.v) (et rfl e5_9)) ?_
        refine Y wn rfl (yLen SL_25 (et rfl rfl) hst (rdO mhR)) ?_
        refine Y wn rfl (ylss (et rfl rfl) (et rfl rfl)) ?_
        refine wpList_nil ?_
        refine k30 _ _ ?_
        rcases iteS hM5 with ⟨c52, hM5⟩ | ⟨c52, hM5⟩
        · refine condT (et rfl rfl) (decide_eq_true c52) ?_
          refine wp_skip ?_
          refine k29 _ _ ?_
          refine seqQ fun Q31 k31 z31 => ?_
          refine blockQ fun Q32 q32 => ?_
          refine wp_region_lit ?_
          refine Y wn rfl (ym (v := .bool x32) (et rfl e5_11)) ?_
          refine Y wn rfl (ym (v := .bool x32) (et rfl rfl)) ?_
          obtain ⟨r56, gr56, hM5⟩ := bs hM5
          refine joinW 7 (fun f w => f 8 = .int .i64 r12 ∧ f 9 = h22.v ∧ f 12 = .int .i64 x33 ∧ f 73 = .bool r56 ∧ St w0 (ros) (row 22 (rS (rI .i64)) h22.v r21 :: rs) w) (fun j7 => ?_) ?_
          · rcases iteS gr56 with ⟨c58, gr56⟩ | ⟨c58, gr56⟩
            · refine Gn (wx rfl rfl rfl c58) rfl ?_
              refine Gn (wx rfl rfl rfl c58) rfl ?_
              refine Gn (wx rfl rfl rfl c58) rfl ?_
              refine Gn (wx rfl rfl rfl c58) rfl ?_
              refine Gn (wx rfl rfl rfl c58) rfl ?_
              refine Gn (wx rfl rfl rfl c58) rfl ?_
              refine Y wn rfl (ypt (v := .bool true) (et rfl rfl) c58 rfl) ?_
              obtain rfl := someI gr56
              exact j7 _ _ ⟨e5_8, e5_9, e5_12, rfl, hst⟩
            · refine Y (wg rfl rfl rfl (bfalse c58)) rfl (ym (v := h22.v) (et rfl e5_9)) ?_
              refine Y (wg rfl rfl rfl (bfalse c58)) rfl (ym (v := .int .i64 x33) (et rfl e5_12)) ?_
              obtain ⟨x59, gx59, gr56⟩ := bs gr56
              refine Y (wg rfl rfl rfl (bfalse c58)) rfl (yIa SL_25 (et rfl rfl) (et rfl rfl) hst (rdO mhR) gx59) ?_
              obtain ⟨h60, ch60, hst⟩ := rLs hst (rdO mhR) gx59
              refine Y (wg rfl rfl rfl (bfalse c58)) rfl (yCe O_22 (et rfl rfl) ch60 rfl) ?_
              refine Y (wg rfl rfl rfl (bfalse c58)) rfl (ym (v := .int .i64 r12) (et rfl e5_8)) ?_
              obtain ⟨r61, gr61, gr56⟩ := bs gr56
              refine Yc (wg rfl rfl rfl (bfalse c58)) rfl (yCall FN_18 (a2 (et rfl rfl) (et rfl rfl))) (sparsekit_In_ok (hM := gr61) (hst := hst) (q1 := mhF)) ?_
              clear hst
              rintro _ w ⟨rfl, hst⟩
              refine ⟨_, rfl, ?_⟩
              refine Y wn rfl (ypf (v := .bool r61) (et rfl rfl) (bfalse c58) (et rfl rfl)) ?_
              obtain rfl := someI gr56
              exact j7 _ _ ⟨e5_8, e5_9, e5_12, rfl, (hst.facts (allT allI))⟩
          clear hst
          rintro f w ⟨e57_8, e57_9, e57_12, e57_73, hst⟩
          refine Y wn rfl (ya (v := .bool r56) (et rfl e57_73)) ?_
          refine wpList_nil ?_
          refine q32 _ _ _ ?_
          refine k31 _ _ ?_
          refine wp_region_lit ?_
          refine Y wn rfl (ym (v := .int .i64 x33) (et rfl e57_12)) ?_
          refine Y wn rfl (yadd (et rfl rfl) rfl) ?_
          refine Y wn rfl (ya (v := .int .i64 (wa .i64 x33 1)) (et rfl rfl)) ?_
          refine wpList_nil ?_
          obtain rfl := someI hM5
          exact n5 _ _ _ rfl ⟨_, _, _, rfl, rfl, e57_8, e57_9, rfl, rfl, hst⟩
        · refine condF (et rfl rfl) (decide_eq_false c52) ?_
          refine wp_exit ?_
          refine z29 _ _ _ rfl ?_
          obtain rfl := someI hM5
          refine zz5 _ _ _ _ rfl rfl ?_
          exact je5_0 _ _ _ e5_11 (hst.pk 1 [] rfl) (ho5 _ rfl)
end Go.Proofs.Ytcknmegldjnjjaa
