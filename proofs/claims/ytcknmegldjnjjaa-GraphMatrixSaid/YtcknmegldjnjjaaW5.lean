/- Walks: each function computes its model, printed. -/
import Derived.Test.YtcknmegldjnjjaaW4
namespace Go.Proofs.Ytcknmegldjnjjaa
open Go Sx M
set_option maxRecDepth 100000
set_option maxHeartbeats 400000
set_option linter.unusedVariables false
attribute [local irreducible] wpList Code.wp Calls DR QR QS LA LS St
theorem sparselaw12_GraphMade_ok {w0 : World} {ros : List Fact} {rs : List Res} {w : World} {x1 : Int} {x2 : List Int} {x4 : Int} {x5 : List Int} {h3 : Hdr} {h6 : Hdr} {out : Bool} (hM : sparselaw12_GraphMade x1 x2 x4 x5 = some out) (q1 : imm (rI .i64) h3.v x2 ∈ ros) (q2 : imm (rI .i64) h6.v x5 ∈ ros) (hst : St w0 ros (rs) w) :
    Calls Try.prog 6 #[.int .i64 x1, h3.v, .int .i64 x4, h6.v] w (fun e w => e = .returned (.bool out) ∧ St w0 (ros) (rs) w) := by
  refine enterQ Try.func6 rfl Try.ntmps6 rfl fun Q hQ => ?_
  refine seqQ fun Q1 k1 z1 => ?_
  refine wp_region_lit ?_
  refine Y wn rfl (ya (v := .bool false) rfl) ?_
  refine wpList_nil ?_
  refine k1 _ _ ?_
  refine seqQ fun Q2 k2 z2 => ?_
  refine seqQ fun Q3 k3 z3 => ?_
  refine wp_region_lit ?_
  refine Y wn rfl (ym (v := h3.v) (et rfl rfl)) ?_
  refine Y wn rfl (yLen SL_22 (et rfl rfl) hst (rdI q1)) ?_
  refine Y wn rfl (ygtr (et rfl rfl) rfl) ?_
  refine wpList_nil ?_
  refine k3 _ _ ?_
  rcases iteS hM with ⟨c7, hM⟩ | ⟨c7, hM⟩
  · refine condT (et rfl rfl) (decide_eq_true c7) ?_
    refine seqQ fun Q4 k4 z4 => ?_
    refine wp_region_lit ?_
    obtain ⟨r8, gr8, hM⟩ := bs hM
    refine Yc wn rfl (yCall FN_9 a0) (sparselaw12_awake_ok (hM := gr8) (hst := hst) ) ?_
    clear hst
    rintro _ w ⟨rfl, hst⟩
    refine ⟨_, rfl, ?_⟩
    refine Y wn rfl (ya (v := .bool r8) (et rfl rfl)) ?_
    refine wpList_nil ?_
    refine k4 _ _ ?_
    refine wp_ret ?_
    refine z2 _ _ _ rfl ?_
    obtain rfl := someI hM
    exact hQ _ _ _ (fin1r Try.results6 ⟨rfl, rfl⟩ ⟨rfl, hst⟩)
  · refine condF (et rfl rfl) (decide_eq_false c7) ?_
    refine wp_skip ?_
    refine k2 _ _ ?_
    refine seqQ fun Q5 k5 z5 => ?_
    refine wp_region_lit ?_
    refine Y wn rfl (ym (v := .int .i64 x1) (et rfl rfl)) ?_
    obtain ⟨r9, gr9, hM⟩ := bs hM
    refine Yc wn rfl (yCall FN_10 (a2 (et rfl rfl) rfl)) (sparsekit_Place_ok (hM := gr9) (hst := hst) ) ?_
    clear hst
    rintro _ w ⟨rfl, hst⟩
    refine ⟨_, rfl, ?_⟩
    refine Y wn rfl (ya (v := .int .i64 r9) (et rfl rfl)) ?_
    refine wpList_nil ?_
    refine k5 _ _ ?_
    refine seqQ fun Q6 k6 z6 => ?_
    refine wp_region_lit ?_
    refine Y wn rfl (ym (v := .int .i64 r9) (et rfl rfl)) ?_
    refine Y wn rfl (ym (v := h3.v) (et rfl rfl)) ?_
    obtain ⟨r10, gr10, hM⟩ := bs hM
    refine Yc wn rfl (yCall FN_11 (a2 (et rfl rfl) (et rfl rfl))) (sparsemake_Graph_ok (hM := gr10) (hst := hst) (q1 := q1)) ?_
    clear hst
    rintro _ w ⟨h11, rfl, hst⟩
    refine ⟨_, rfl, ?_⟩
    refine YB wn rfl (rAl hst ZT_27) ?_
    clear hst
    intro b12 w hst
    refine YT wn rfl (r_stbn (vals' := [h11.v]) (us := [h11.v]) hst ST_27 (et rfl rfl) (et rfl rfl) rfl rfl (one_of rfl) rfl) ?_
    clear hst
    intro w hst
    refine wpList_nil ?_
    refine k6 _ _ ?_
    refine seqQ fun Q7 k7 z7 => ?_
    refine wp_region_lit ?_
    refine Y wn rfl (ym (v := h6.v) (et rfl rfl)) ?_
    refine Y wn rfl (ym (v := .int .i64 r9) (et rfl rfl)) ?_
    obtain ⟨r13, gr13, hM⟩ := bs hM
    refine Yc wn rfl (yCall FN_19 (a2 (et rfl rfl) (et rfl rfl))) (sparsekit_Shuffle_ok (hM := gr13) (hst := hst) (q1 := q2)) ?_
    clear hst
    rintro _ w ⟨h14, rfl, hst⟩
    refine ⟨_, rfl, ?_⟩
    refine Y wn rfl (ya (v := h14.v) (et rfl rfl)) ?_
    refine wpList_nil ?_
    refine k7 _ _ ?_
    refine seqQ fun Q8 k8 z8 => ?_
    refine wp_region_lit ?_
    refine Y wn rfl (yLbs (us := [h11.v]) ST_27 (et rfl rfl) hst (mtR mhR) rfl rfl) ?_
    refine Y wn rfl (ym (v := h14.v) (et rfl rfl)) ?_
    obtain ⟨r15, gr15, hM⟩ := bs hM
    replace hst := hst.pk 3 [2, 0, 0] rfl
    replace hst := hst.fz
    replace hst := hst.fz
    refine Yc wn rfl (yCall FN_20 (a2 (et rfl rfl) (et rfl rfl))) (graph_Relabel_ok (hM := gr15) (hst := hst) (q1 := (mtF mhF)) (q2 := mhF)) ?_
    clear hst
    rintro _ w ⟨h16, rfl, hst⟩
    refine ⟨_, rfl, ?_⟩
    refine Y wn rfl (ym (v := .tuple #[.agg #[h16.v], .int .i64 r15.2]) (et rfl rfl)) ?_
    refine Y wn rfl (yx (v := .agg #[h16.v]) (et rfl rfl) rfl) ?_
    refine Y wn rfl (yx (v := .int .i64 r15.2) (et rfl rfl) rfl) ?_
    refine YB wn rfl (rAl hst ZT_27) ?_
    clear hst
    intro b17 w hst
    refine YT wn rfl (r_stbn (vals' := [h16.v]) (us := [h16.v]) hst ST_27 (et rfl rfl) (et rfl rfl) rfl rfl (one_of rfl) rfl) ?_
    clear hst
    intro w hst
    refine Y wn rfl (ya (v := .int .i64 r15.2) (et rfl rfl)) ?_
    refine wpList_nil ?_
    refine k8 _ _ ?_
    refine seqQ fun Q9 k9 z9 => ?_
    refine wp_region_lit ?_
    refine Y wn rfl (yLbs (us := [h11.v]) ST_27 (et rfl rfl) hst (mtR (mtR mhR)) rfl rfl) ?_
    refine Y wn rfl (ym (v := h14.v) (et rfl rfl)) ?_
    obtain ⟨r18, gr18, hM⟩ := bs hM
    refine Yc wn rfl (yCall FN_21 (a2 (et rfl rfl) (et rfl rfl))) (sparseref12_Relabel_ok (hM := gr18) (hst := hst) (q1 := (mtF mhF)) (q2 := mhF)) ?_
    clear hst
    rintro _ w ⟨h19, rfl, hst⟩
    refine ⟨_, rfl, ?_⟩
    refine Y wn rfl (ym (v := .tuple #[.agg #[h19.v], .int .i64 r18.2]) (et rfl rfl)) ?_
    refine Y wn rfl (yx (v := .agg #[h19.v]) (et rfl rfl) rfl) ?_
    refine Y wn rfl (yx (v := .int .i64 r18.2) (et rfl rfl) rfl) ?_
    refine YB wn rfl (rAl hst ZT_27) ?_
    clear hst
    intro b20 w hst
    refine YT wn rfl (r_stbn (vals' := [h19.v]) (us := [h19.v]) hst ST_27 (et rfl rfl) (et rfl rfl) rfl rfl (one_of rfl) rfl) ?_
    clear hst
    intro w hst
    refine Y wn rfl (ya (v := .int .i64 r18.2) (et rfl rfl)) ?_
    refine wpList_nil ?_
    refine k9 _ _ ?_
    refine seqQ fun Q10 k10 z10 => ?_
    refine wp_region_lit ?_
    refine Y wn rfl (ym (v := .int .i64 x4) (et rfl rfl)) ?_
    refine Y wn rfl (ym (v := .int .i64 r9) (et rfl rfl)) ?_
    refine Y wn rfl (yadd (et rfl rfl) rfl) ?_
    obtain ⟨r21, gr21, hM⟩ := bs hM
    refine Yc wn rfl (yCall FN_10 (a2 (et rfl rfl) (et rfl rfl))) (sparsekit_Place_ok (hM := gr21) (hst := hst) ) ?_
    clear hst
    rintro _ w ⟨rfl, hst⟩
    refine ⟨_, rfl, ?_⟩
    refine Y wn rfl (ya (v := .int .i64 r21) (et rfl rfl)) ?_
    refine wpList_nil ?_
    refine k10 _ _ ?_
    refine seqQ fun Q11 k11 z11 => ?_
    obtain ⟨r22, gr22, hM⟩ := bs hM
    obtain ⟨r23, gr23, hM⟩ := bs hM
    obtain ⟨r24, gr24, hM⟩ := bs hM
    obtain ⟨r25, gr25, hM⟩ := bs hM
    obtain ⟨r26, gr26, hM⟩ := bs hM
    obtain ⟨r27, gr27, hM⟩ := bs hM
    obtain ⟨r28, gr28, hM⟩ := bs hM
    refine joinN (n := 83) (fun f w => f 8 = .bool r28 ∧ St w0 (ros) (rs) w) (fun j1 => ?_) ?_
    · rcases iteS gr23 with ⟨c30, gr23⟩ | ⟨c30, gr23⟩
      · have hr2 := someI gr23
        rcases iteS gr24 with ⟨c31, gr24⟩ | ⟨c31, gr24⟩
        · obtain ⟨r32, gr32, gr24⟩ := bs gr24
          have hr3 := someI gr24
          rcases iteS gr25 with ⟨c33, gr25⟩ | ⟨c33, gr25⟩
          · obtain ⟨r34, gr34, gr25⟩ := bs gr25
            obtain ⟨r36, gr36, gr25⟩ := bs gr25
            obtain ⟨r38, gr38, gr25⟩ := bs gr25
            have hr4 := someI gr25
            rcases iteS gr26 with ⟨c39, gr26⟩ | ⟨c39, gr26⟩
            · obtain ⟨r40, gr40, gr26⟩ := bs gr26
              obtain ⟨r41, gr41, gr26⟩ := bs gr26
              have hr5 := someI gr26
              rcases iteS gr27 with ⟨c42, gr27⟩ | ⟨c42, gr27⟩
              · obtain ⟨r43, gr43, gr27⟩ := bs gr27
                obtain ⟨r45, gr45, gr27⟩ := bs gr27
                obtain ⟨r47, gr47, gr27⟩ := bs gr27
                have hr6 := someI gr27
                rcases iteS gr28 with ⟨c48, gr28⟩ | ⟨c48, gr28⟩
                · obtain ⟨r49, gr49, gr28⟩ := bs gr28
                  have hr7 := someI gr28
                  refine wp_drawR [0, 1, 3, 7, 15, 31, 63, 127, 255, 255, 1023, 2047, 4095, 8191, 8191, 32767, 8191, 8191, 262143, 524287, 1048575, 2097151, 4194303, 4194303, 16777215, 4194303, 4194303, 134217727, 268435455, 536870911, 1073741823, 2147483647, 4294967295, 2147483647, 17179869183, 34359738367, 68719476735, 137438953471, 274877906943, 549755813887, 1099511627775] [1, 10, 15, 18, 19, 24, 27, 32, 34, 35, 38, 40] 12 folM (by kernel_rfl) (by kernel_rfl) (by kernel_rfl) ?_
                  replace hst := hst.drew
                  refine DRn (l1 := [0]) (l2 := []) (lc := [1]) (by kernel_rfl) (by kernel_rfl) (by kernel_rfl) ?_
                  refine Ry rfl rfl wn (yLbs (us := [h11.v]) ST_27 (et rfl rfl) hst (mtR (mtR (mtR (mtR mhR)))) rfl rfl) ?_
                  refine Rn QSn ?_
                  refine Lc rfl ?_ LAn
                  refine Lk wn (yCall FN_22 (a1 (et rfl rfl))) (graph_Check_ok (hM := gr22) (hst := hst) (q1 := (mtF mhF))) ?_
                  clear hst
                  rintro _ w ⟨rfl, hst⟩
                  refine ⟨_, rfl, ?_⟩
                  refine DRn (l1 := [2, 3, 4, 5, 6, 7, 8, 9]) (l2 := []) (lc := [10]) (by kernel_rfl) (by kernel_rfl) (by kernel_rfl) ?_
                  refine Ry rfl rfl wn (yeql (et rfl rfl) rfl) ?_
                  refine Ry rfl rfl wn (ym (v := .bool (decide (r22 = 0))) (et rfl rfl)) ?_
                  refine Ry rfl rfl (wg rfl rfl rfl (decide_eq_true c30)) (ym (v := .int .i64 r15.2) (et rfl rfl)) ?_
                  refine Ry rfl rfl (wg rfl rfl rfl (decide_eq_true c30)) (yeql (et rfl rfl) rfl) ?_
                  refine Ry rfl rfl wn (ypt (v := .bool r23) (et rfl rfl) (decide_eq_true c30) (eqv hr2 (et rfl rfl))) ?_
                  refine Ry rfl rfl wn (ym (v := .bool r23) (et rfl rfl)) ?_
                  refine Ry rfl rfl (wg rfl rfl rfl c31) (yLbs (us := [h16.v]) ST_27 (et rfl rfl) hst (mtR (mtR mhR)) rfl rfl) ?_
                  refine Ry rfl rfl (wg rfl rfl rfl c31) (yLbs (us := [h19.v]) ST_27 (et rfl rfl) hst mhR rfl rfl) ?_
                  refine Rn QSn ?_
                  refine Lc rfl ?_ LAn
                  replace hst := hst.pk 4 [3, 0, 0, 0] rfl
                  replace hst := hst.fz
                  replace hst := hst.pk 2 [1, 0] rfl
                  replace hst := hst.fz
                  refine Lk (wg rfl rfl rfl c31) (yCall FN_23 (a2 (et rfl rfl) (et rfl rfl))) (sparsekit_Graph_ok (hM := gr32) (hst := hst) (q1 := (mtF mhF)) (q2 := mhF)) ?_
                  clear hst
                  rintro _ w ⟨rfl, hst⟩
                  refine ⟨_, rfl, ?_⟩
                  refine DRn (l1 := [11, 12, 13, 14, 16, 17]) (l2 := []) (lc := [15]) (by kernel_rfl) (by kernel_rfl) (by kernel_rfl) ?_
                  refine Ry rfl rfl wn (ypt (v := .bool r24) (et rfl rfl) c31 (eqv hr3 (et rfl rfl))) ?_
                  refine Ry rfl rfl wn (ym (v := .bool r24) (et rfl rfl)) ?_
                  refine Ry rfl rfl (wg rfl rfl rfl c33) (yLbs (us := [h11.v]) ST_27 (et rfl rfl) hst (mtR (mtR mhR)) rfl rfl) ?_
                  refine Ry rfl rfl (wg rfl rfl rfl c33) (ym (v := .int .i64 r21) (et rfl rfl)) ?_
                  refine Ry rfl rfl (wg rfl rfl rfl c33) (yLbs (us := [h11.v]) ST_27 (et rfl rfl) hst (mtR (mtR mhR)) rfl rfl) ?_
                  refine Ry rfl rfl (wg rfl rfl rfl c33) (ym (v := .int .i64 r21) (et rfl rfl)) ?_
                  refine Rn QSn ?_
                  refine Lc rfl ?_ LAn
                  refine Lk (wg rfl rfl rfl c33) (yCall FN_12 (a2 (et rfl rfl) (et rfl rfl))) (graph_Levels_ok (hM := gr34) (hst := hst) (q1 := (mtF (mtF (mtF mhF))))) ?_
                  clear hst
                  rintro _ w ⟨h35, rfl, hst⟩
                  refine ⟨_, rfl, ?_⟩
                  refine DRn (l1 := []) (l2 := [16, 17]) (lc := [18]) (by kernel_rfl) (by kernel_rfl) (by kernel_rfl) ?_
                  refine Rn (Sy rfl rfl (wg rfl rfl rfl c33) (yLbs (us := [h11.v]) ST_27 (et rfl rfl) hst (mtR (mtR (mtR mhR))) rfl rfl) rfl (Sy rfl rfl (wg rfl rfl rfl c33) (ym (v := .int .i64 r21) (et rfl rfl)) rfl QSn)) ?_
                  refine Lc rfl ?_ LAn
                  refine Lk (wg rfl rfl rfl c33) (yCall FN_15 (a2 (et rfl rfl) (et rfl rfl))) (sparseref12_Levels_ok (hM := gr36) (hst := hst) (q1 := (mtF (mtF (mtF mhF))))) ?_
                  clear hst
                  rintro _ w ⟨h37, rfl, hst⟩
                  refine ⟨_, rfl, ?_⟩
                  refine DRn (l1 := []) (l2 := []) (lc := [19]) (by kernel_rfl) (by kernel_rfl) (by kernel_rfl) ?_
                  refine Rn QSn ?_
                  refine Lc rfl ?_ LAn
                  replace hst := hst.pk 2 [1, 0] rfl
                  replace hst := hst.fz
                  replace hst := hst.fz
                  refine Lk (wg rfl rfl rfl c33) (yCall FN_24 (a2 (et rfl rfl) (et rfl rfl))) (sparsekit_Lists_ok (hM := gr38) (hst := hst) (q1 := (mtF mhF)) (q2 := mhF)) ?_
                  clear hst
                  rintro _ w ⟨rfl, hst⟩
                  refine ⟨_, rfl, ?_⟩
                  refine DRn (l1 := [20, 21, 22, 23, 25, 26]) (l2 := []) (lc := [24]) (by kernel_rfl) (by kernel_rfl) (by kernel_rfl) ?_
                  refine Ry rfl rfl wn (ypt (v := .bool r25) (et rfl rfl) c33 (eqv hr4 (et rfl rfl))) ?_
                  refine Ry rfl rfl wn (ym (v := .bool r25) (et rfl rfl)) ?_
                  refine Ry rfl rfl (wg rfl rfl rfl c39) (yLbs (us := [h11.v]) ST_27 (et rfl rfl) hst (mtR (mtR mhR)) rfl rfl) ?_
                  refine Ry rfl rfl (wg rfl rfl rfl c39) (ym (v := .int .i64 r21) (et rfl rfl)) ?_
                  refine Ry rfl rfl (wg rfl rfl rfl c39) (yLbs (us := [h11.v]) ST_27 (et rfl rfl) hst (mtR (mtR mhR)) rfl rfl) ?_
                  refine Ry rfl rfl (wg rfl rfl rfl c39) (ym (v := .int .i64 r21) (et rfl rfl)) ?_
                  refine Rn QSn ?_
                  refine Lc rfl ?_ LAn
                  refine Lk (wg rfl rfl rfl c39) (yCall FN_17 (a2 (et rfl rfl) (et rfl rfl))) (graph_Peripheral_ok (hM := gr40) (hst := hst) (q1 := (mtF (mtF (mtF (mtF (mtF mhF))))))) ?_
                  clear hst
                  rintro _ w ⟨rfl, hst⟩
                  refine ⟨_, rfl, ?_⟩
                  refine DRn (l1 := []) (l2 := [25, 26]) (lc := [27]) (by kernel_rfl) (by kernel_rfl) (by kernel_rfl) ?_
                  refine Rn (Sy rfl rfl (wg rfl rfl rfl c39) (yLbs (us := [h11.v]) ST_27 (et rfl rfl) hst (mtR (mtR mhR)) rfl rfl) rfl (Sy rfl rfl (wg rfl rfl rfl c39) (ym (v := .int .i64 r21) (et rfl rfl)) rfl QSn)) ?_
                  refine Lc rfl ?_ LAn
                  refine Lk (wg rfl rfl rfl c39) (yCall FN_25 (a2 (et rfl rfl) (et rfl rfl))) (sparseref12_Peripheral_ok (hM := gr41) (hst := hst) (q1 := (mtF (mtF (mtF (mtF (mtF mhF))))))) ?_
                  clear hst
                  rintro _ w ⟨rfl, hst⟩
                  refine ⟨_, rfl, ?_⟩
                  refine DRn (l1 := [28, 29, 30, 31, 33]) (l2 := []) (lc := [32]) (by kernel_rfl) (by kernel_rfl) (by kernel_rfl) ?_
                  refine Ry rfl rfl (wg rfl rfl rfl c39) (yeql (et rfl rfl) (et rfl rfl)) ?_
                  refine Ry rfl rfl wn (ypt (v := .bool r26) (et rfl rfl) c39 (eqv hr5 (et rfl rfl))) ?_
                  refine Ry rfl rfl wn (ym (v := .bool r26) (et rfl rfl)) ?_
                  refine Ry rfl rfl (wg rfl rfl rfl c42) (yLbs (us := [h11.v]) ST_27 (et rfl rfl) hst (mtR (mtR mhR)) rfl rfl) ?_
                  refine Ry rfl rfl (wg rfl rfl rfl c42) (yLbs (us := [h11.v]) ST_27 (et rfl rfl) hst (mtR (mtR mhR)) rfl rfl) ?_
                  refine Rn QSn ?_
                  refine Lc rfl ?_ LAn
                  refine Lk (wg rfl rfl rfl c42) (yCall FN_14 (a1 (et rfl rfl))) (graph_Components_ok (hM := gr43) (hst := hst) (q1 := (mtF (mtF (mtF (mtF (mtF mhF))))))) ?_
                  clear hst
                  rintro _ w ⟨h44, rfl, hst⟩
                  refine ⟨_, rfl, ?_⟩
                  refine DRn (l1 := []) (l2 := [33]) (lc := [34]) (by kernel_rfl) (by kernel_rfl) (by kernel_rfl) ?_
                  refine Rn (Sy rfl rfl (wg rfl rfl rfl c42) (yLbs (us := [h11.v]) ST_27 (et rfl rfl) hst (mtR (mtR (mtR mhR))) rfl rfl) rfl QSn) ?_
                  refine Lc rfl ?_ LAn
                  refine Lk (wg rfl rfl rfl c42) (yCall FN_26 (a1 (et rfl rfl))) (sparseref12_Components_ok (hM := gr45) (hst := hst) (q1 := (mtF (mtF (mtF (mtF (mtF mhF))))))) ?_
                  clear hst
                  rintro _ w ⟨h46, rfl, hst⟩
                  refine ⟨_, rfl, ?_⟩
                  refine DRn (l1 := []) (l2 := []) (lc := [35]) (by kernel_rfl) (by kernel_rfl) (by kernel_rfl) ?_
                  refine Rn QSn ?_
                  refine Lc rfl ?_ LAn
                  replace hst := hst.pk 2 [1, 0] rfl
                  replace hst := hst.fz
                  replace hst := hst.fz
                  refine Lk (wg rfl rfl rfl c42) (yCall FN_24 (a2 (et rfl rfl) (et rfl rfl))) (sparsekit_Lists_ok (hM := gr47) (hst := hst) (q1 := (mtF mhF)) (q2 := mhF)) ?_
                  clear hst
                  rintro _ w ⟨rfl, hst⟩
                  refine ⟨_, rfl, ?_⟩
                  refine DRn (l1 := [36, 37]) (l2 := []) (lc := [38]) (by kernel_rfl) (by kernel_rfl) (by kernel_rfl) ?_
                  refine Ry rfl rfl wn (ypt (v := .bool r27) (et rfl rfl) c42 (eqv hr6 (et rfl rfl))) ?_
                  refine Ry rfl rfl wn (ym (v := .bool r27) (et rfl rfl)) ?_
                  refine Rn QSn ?_
                  refine Lc rfl ?_ LAn
                  refine Lk (wg rfl rfl rfl c48) (yCall FN_9 a0) (sparselaw12_awake_ok (hM := gr49) (hst := hst) ) ?_
                  clear hst
                  rintro _ w ⟨rfl, hst⟩
                  refine ⟨_, rfl, ?_⟩
                  refine DRn (l1 := [39]) (l2 := []) (lc := [40]) (by kernel_rfl) (by kernel_rfl) (by kernel_rfl) ?_
                  refine Ry rfl rfl wn (ypt (v := .bool r28) (et rfl rfl) c48 (eqv hr7 (et rfl rfl))) ?_
                  refine Rn QSn ?_
                  refine Lc rfl ?_ LAn
                  refine Ly wn (ya (v := .bool r28) (et rfl rfl)) ?_
                  refine DRz (l1 := []) (l2 := []) (by kernel_rfl) (by kernel_rfl) ?_
                  refine Rn QSn ?_
                  exact j1 _ _ ⟨rfl, ((hst.pk 3 [] rfl).facts (allT (allT (allT (allT (allT (allT (allT (allT allI)))))))))⟩
                · have hr8 := someI gr28
                  refine wp_drawR [0, 1, 3, 7, 15, 31, 63, 127, 255, 255, 1023, 2047, 4095, 8191, 8191, 32767, 8191, 8191, 262143, 524287, 1048575, 2097151, 4194303, 4194303, 16777215, 4194303, 4194303, 134217727, 268435455, 536870911, 1073741823, 2147483647, 4294967295, 2147483647, 17179869183, 34359738367, 68719476735, 137438953471, 274877906943, 549755813887, 1099511627775] [1, 10, 15, 18, 19, 24, 27, 32, 34, 35, 38, 40] 12 folM (by kernel_rfl) (by kernel_rfl) (by kernel_rfl) ?_
                  replace hst := hst.drew
                  refine DRn (l1 := [0]) (l2 := []) (lc := [1]) (by kernel_rfl) (by kernel_rfl) (by kernel_rfl) ?_
                  refine Ry rfl rfl wn (yLbs (us := [h11.v]) ST_27 (et rfl rfl) hst (mtR (mtR (mtR (mtR mhR)))) rfl rfl) ?_
                  refine Rn QSn ?_
                  refine Lc rfl ?_ LAn
                  refine Lk wn (yCall FN_22 (a1 (et rfl rfl))) (graph_Check_ok (hM := gr22) (hst := hst) (q1 := (mtF mhF))) ?_
                  clear hst
                  rintro _ w ⟨rfl, hst⟩
                  refine ⟨_, rfl, ?_⟩
                  refine DRn (l1 := [2, 3, 4, 5, 6, 7, 8, 9]) (l2 := []) (lc := [10]) (by kernel_rfl) (by kernel_rfl) (by kernel_rfl) ?_
                  refine Ry rfl rfl wn (yeql (et rfl rfl) rfl) ?_
                  refine Ry rfl rfl wn (ym (v := .bool (decide (r22 = 0))) (et rfl rfl)) ?_
                  refine Ry rfl rfl (wg rfl rfl rfl (decide_eq_true c30)) (ym (v := .int .i64 r15.2) (et rfl rfl)) ?_
                  refine Ry rfl rfl (wg rfl rfl rfl (decide_eq_true c30)) (yeql (et rfl rfl) rfl) ?_
                  refine Ry rfl rfl wn (ypt (v := .bool r23) (et rfl rfl) (decide_eq_true c30) (eqv hr2 (et rfl rfl))) ?_
                  refine Ry rfl rfl wn (ym (v := .bool r23) (et rfl rfl)) ?_
                  refine Ry rfl rfl (wg rfl rfl rfl c31) (yLbs (us := [h16.v]) ST_27 (et rfl rfl) hst (mtR (mtR mhR)) rfl rfl) ?_
                  refine Ry rfl rfl (wg rfl rfl rfl c31) (yLbs (us := [h19.v]) ST_27 (et rfl rfl) hst mhR rfl rfl) ?_
                  refine Rn QSn ?_
                  refine Lc rfl ?_ LAn
                  replace hst := hst.pk 4 [3, 0, 0, 0] rfl
                  replace hst := hst.fz
                  replace hst := hst.pk 2 [1, 0] rfl
                  replace hst := hst.fz
                  refine Lk (wg rfl rfl rfl c31) (yCall FN_23 (a2 (et rfl rfl) (et rfl rfl))) (sparsekit_Graph_ok (hM := gr32) (hst := hst) (q1 := (mtF mhF)) (q2 := mhF)) ?_
                  clear hst
                  rintro _ w ⟨rfl, hst⟩
                  refine ⟨_, rfl, ?_⟩
                  refine DRn (l1 := [11, 12, 13, 14, 16, 17]) (l2 := []) (lc := [15]) (by kernel_rfl) (by kernel_rfl) (by kernel_rfl) ?_
                  refine Ry rfl rfl wn (ypt (v := .bool r24) (et rfl rfl) c31 (eqv hr3 (et rfl rfl))) ?_
                  refine Ry rfl rfl wn (ym (v := .bool r24) (et rfl rfl)) ?_
                  refine Ry rfl rfl (wg rfl rfl rfl c33) (yLbs (us := [h11.v]) ST_27 (et rfl rfl) hst (mtR (mtR mhR)) rfl rfl) ?_
                  refine Ry rfl rfl (wg rfl rfl rfl c33) (ym (v := .int .i64 r21) (et rfl rfl)) ?_
                  refine Ry rfl rfl (wg rfl rfl rfl c33) (yLbs (us := [h11.v]) ST_27 (et rfl rfl) hst (mtR (mtR mhR)) rfl rfl) ?_
                  refine Ry rfl rfl (wg rfl rfl rfl c33) (ym (v := .int .i64 r21) (et rfl rfl)) ?_
                  refine Rn QSn ?_
                  refine Lc rfl ?_ LAn
                  refine Lk (wg rfl rfl rfl c33) (yCall FN_12 (a2 (et rfl rfl) (et rfl rfl))) (graph_Levels_ok (hM := gr34) (hst := hst) (q1 := (mtF (mtF (mtF mhF))))) ?_
                  clear hst
                  rintro _ w ⟨h35, rfl, hst⟩
                  refine ⟨_, rfl, ?_⟩
                  refine DRn (l1 := []) (l2 := [16, 17]) (lc := [18]) (by kernel_rfl) (by kernel_rfl) (by kernel_rfl) ?_
                  refine Rn (Sy rfl rfl (wg rfl rfl rfl c33) (yLbs (us := [h11.v]) ST_27 (et rfl rfl) hst (mtR (mtR (mtR mhR))) rfl rfl) rfl (Sy rfl rfl (wg rfl rfl rfl c33) (ym (v := .int .i64 r21) (et rfl rfl)) rfl QSn)) ?_
                  refine Lc rfl ?_ LAn
                  refine Lk (wg rfl rfl rfl c33) (yCall FN_15 (a2 (et rfl rfl) (et rfl rfl))) (sparseref12_Levels_ok (hM := gr36) (hst := hst) (q1 := (mtF (mtF (mtF mhF))))) ?_
                  clear hst
                  rintro _ w ⟨h37, rfl, hst⟩
                  refine ⟨_, rfl, ?_⟩
                  refine DRn (l1 := []) (l2 := []) (lc := [19]) (by kernel_rfl) (by kernel_rfl) (by kernel_rfl) ?_
                  refine Rn QSn ?_
                  refine Lc rfl ?_ LAn
                  replace hst := hst.pk 2 [1, 0] rfl
                  replace hst := hst.fz
                  replace hst := hst.fz
                  refine Lk (wg rfl rfl rfl c33) (yCall FN_24 (a2 (et rfl rfl) (et rfl rfl))) (sparsekit_Lists_ok (hM := gr38) (hst := hst) (q1 := (mtF mhF)) (q2 := mhF)) ?_
                  clear hst
                  rintro _ w ⟨rfl, hst⟩
                  refine ⟨_, rfl, ?_⟩
                  refine DRn (l1 := [20, 21, 22, 23, 25, 26]) (l2 := []) (lc := [24]) (by kernel_rfl) (by kernel_rfl) (by kernel_rfl) ?_
                  refine Ry rfl rfl wn (ypt (v := .bool r25) (et rfl rfl) c33 (eqv hr4 (et rfl rfl))) ?_
                  refine Ry rfl rfl wn (ym (v := .bool r25) (et rfl rfl)) ?_
                  refine Ry rfl rfl (wg rfl rfl rfl c39) (yLbs (us := [h11.v]) ST_27 (et rfl rfl) hst (mtR (mtR mhR)) rfl rfl) ?_
                  refine Ry rfl rfl (wg rfl rfl rfl c39) (ym (v := .int .i64 r21) (et rfl rfl)) ?_
                  refine Ry rfl rfl (wg rfl rfl rfl c39) (yLbs (us := [h11.v]) ST_27 (et rfl rfl) hst (mtR (mtR mhR)) rfl rfl) ?_
                  refine Ry rfl rfl (wg rfl rfl rfl c39) (ym (v := .int .i64 r21) (et rfl rfl)) ?_
                  refine Rn QSn ?_
                  refine Lc rfl ?_ LAn
                  refine Lk (wg rfl rfl rfl c39) (yCall FN_17 (a2 (et rfl rfl) (et rfl rfl))) (graph_Peripheral_ok (hM := gr40) (hst := hst) (q1 := (mtF (mtF (mtF (mtF (mtF mhF))))))) ?_
                  clear hst
                  rintro _ w ⟨rfl, hst⟩
                  refine ⟨_, rfl, ?_⟩
                  refine DRn (l1 := []) (l2 := [25, 26]) (lc := [27]) (by kernel_rfl) (by kernel_rfl) (by kernel_rfl) ?_
                  refine Rn (Sy rfl rfl (wg rfl rfl rfl c39) (yLbs (us := [h11.v]) ST_27 (et rfl rfl) hst (mtR (mtR mhR)) rfl rfl) rfl (Sy rfl rfl (wg rfl rfl rfl c39) (ym (v := .int .i64 r21) (et rfl rfl)) rfl QSn)) ?_
                  refine Lc rfl ?_ LAn
                  refine Lk (wg rfl rfl rfl c39) (yCall FN_25 (a2 (et rfl rfl) (et rfl rfl))) (sparseref12_Peripheral_ok (hM := gr41) (hst := hst) (q1 := (mtF (mtF (mtF (mtF (mtF mhF))))))) ?_
                  clear hst
                  rintro _ w ⟨rfl, hst⟩
                  refine ⟨_, rfl, ?_⟩
                  refine DRn (l1 := [28, 29, 30, 31, 33]) (l2 := []) (lc := [32]) (by kernel_rfl) (by kernel_rfl) (by kernel_rfl) ?_
                  refine Ry rfl rfl (wg rfl rfl rfl c39) (yeql (et rfl rfl) (et rfl rfl)) ?_
                  refine Ry rfl rfl wn (ypt (v := .bool r26) (et rfl rfl) c39 (eqv hr5 (et rfl rfl))) ?_
                  refine Ry rfl rfl wn (ym (v := .bool r26) (et rfl rfl)) ?_
                  refine Ry rfl rfl (wg rfl rfl rfl c42) (yLbs (us := [h11.v]) ST_27 (et rfl rfl) hst (mtR (mtR mhR)) rfl rfl) ?_
                  refine Ry rfl rfl (wg rfl rfl rfl c42) (yLbs (us := [h11.v]) ST_27 (et rfl rfl) hst (mtR (mtR mhR)) rfl rfl) ?_
                  refine Rn QSn ?_
                  refine Lc rfl ?_ LAn
                  refine Lk (wg rfl rfl rfl c42) (yCall FN_14 (a1 (et rfl rfl))) (graph_Components_ok (hM := gr43) (hst := hst) (q1 := (mtF (mtF (mtF (mtF (mtF mhF))))))) ?_
                  clear hst
                  rintro _ w ⟨h44, rfl, hst⟩
                  refine ⟨_, rfl, ?_⟩
                  refine DRn (l1 := []) (l2 := [33]) (lc := [34]) (by kernel_rfl) (by kernel_rfl) (by kernel_rfl) ?_
                  refine Rn (Sy rfl rfl (wg rfl rfl rfl c42) (yLbs (us := [h11.v]) ST_27 (et rfl rfl) hst (mtR (mtR (mtR mhR))) rfl rfl) rfl QSn) ?_
                  refine Lc rfl ?_ LAn
                  refine Lk (wg rfl rfl rfl c42) (yCall FN_26 (a1 (et rfl rfl))) (sparseref12_Components_ok (hM := gr45) (hst := hst) (q1 := (mtF (mtF (mtF (mtF (mtF mhF))))))) ?_
                  clear hst
                  rintro _ w ⟨h46, rfl, hst⟩
                  refine ⟨_, rfl, ?_⟩
                  refine DRn (l1 := []) (l2 := []) (lc := [35]) (by kernel_rfl) (by kernel_rfl) (by kernel_rfl) ?_
                  refine Rn QSn ?_
                  refine Lc rfl ?_ LAn
                  replace hst := hst.pk 2 [1, 0] rfl
                  replace hst := hst.fz
                  replace hst := hst.fz
                  refine Lk (wg rfl rfl rfl c42) (yCall FN_24 (a2 (et rfl rfl) (et rfl rfl))) (sparsekit_Lists_ok (hM := gr47) (hst := hst) (q1 := (mtF mhF)) (q2 := mhF)) ?_
                  clear hst
                  rintro _ w ⟨rfl, hst⟩
                  refine ⟨_, rfl, ?_⟩
                  refine DRn (l1 := [36, 37]) (l2 := []) (lc := [38]) (by kernel_rfl) (by kernel_rfl) (by kernel_rfl) ?_
                  refine Ry rfl rfl wn (ypt (v := .bool r27) (et rfl rfl) c42 (eqv hr6 (et rfl rfl))) ?_
                  refine Ry rfl rfl wn (ym (v := .bool r27) (et rfl rfl)) ?_
                  refine Rn QSn ?_
                  refine Lc rfl ?_ LAn
                  refine Lx (wx rfl rfl rfl (bfalse c48)) ?_
                  refine DRn (l1 := [39]) (l2 := []) (lc := [40]) (by kernel_rfl) (by kernel_rfl) (by kernel_rfl) ?_
                  refine Ry rfl rfl wn (ypf (v := .bool r28) (et rfl rfl) (bfalse c48) (eqv hr8 rfl)) ?_
                  refine Rn QSn ?_
                  refine Lc rfl ?_ LAn
                  refine Ly wn (ya (v := .bool r28) (et rfl rfl)) ?_
                  refine DRz (l1 := []) (l2 := []) (by kernel_rfl) (by kernel_rfl) ?_
                  refine Rn QSn ?_
                  exact j1 _ _ ⟨rfl, ((hst.pk 3 [] rfl).facts (allT (allT (allT (allT (allT (allT (allT (allT allI)))))))))⟩
              · have hr9 := someI gr27
                have c50 : ¬ r27 = true := fun h => Bool.false_ne_true (hr9.trans h)
                rw [if_neg c50] at gr28
                have hr10 := someI gr28
                refine wp_drawR [0, 1, 3, 7, 15, 31, 63, 127, 255, 255, 1023, 2047, 4095, 8191, 8191, 32767, 8191, 8191, 262143, 524287, 1048575, 2097151, 4194303, 4194303, 16777215, 4194303, 4194303, 134217727, 268435455, 536870911, 1073741823, 2147483647, 4294967295, 2147483647, 17179869183, 34359738367, 68719476735, 137438953471, 274877906943, 549755813887, 1099511627775] [1, 10, 15, 18, 19, 24, 27, 32, 34, 35, 38, 40] 12 folM (by kernel_rfl) (by kernel_rfl) (by kernel_rfl) ?_
                replace hst := hst.drew
                refine DRn (l1 := [0]) (l2 := []) (lc := [1]) (by kernel_rfl) (by kernel_rfl) (by kernel_rfl) ?_
                refine Ry rfl rfl wn (yLbs (us := [h11.v]) ST_27 (et rfl rfl) hst (mtR (mtR (mtR (mtR mhR)))) rfl rfl) ?_
                refine Rn QSn ?_
                refine Lc rfl ?_ LAn
                refine Lk wn (yCall FN_22 (a1 (et rfl rfl))) (graph_Check_ok (hM := gr22) (hst := hst) (q1 := (mtF mhF))) ?_
                clear hst
                rintro _ w ⟨rfl, hst⟩
                refine ⟨_, rfl, ?_⟩
                refine DRn (l1 := [2, 3, 4, 5, 6, 7, 8, 9]) (l2 := []) (lc := [10]) (by kernel_rfl) (by kernel_rfl) (by kernel_rfl) ?_
                refine Ry rfl rfl wn (yeql (et rfl rfl) rfl) ?_
                refine Ry rfl rfl wn (ym (v := .bool (decide (r22 = 0))) (et rfl rfl)) ?_
                refine Ry rfl rfl (wg rfl rfl rfl (decide_eq_true c30)) (ym (v := .int .i64 r15.2) (et rfl rfl)) ?_
                refine Ry rfl rfl (wg rfl rfl rfl (decide_eq_true c30)) (yeql (et rfl rfl) rfl) ?_
                refine Ry rfl rfl wn (ypt (v := .bool r23) (et rfl rfl) (decide_eq_true c30) (eqv hr2 (et rfl rfl))) ?_
                refine Ry rfl rfl wn (ym (v := .bool r23) (et rfl rfl)) ?_
                refine Ry rfl rfl (wg rfl rfl rfl c31) (yLbs (us := [h16.v]) ST_27 (et rfl rfl) hst (mtR (mtR mhR)) rfl rfl) ?_
                refine Ry rfl rfl (wg rfl rfl rfl c31) (yLbs (us := [h19.v]) ST_27 (et rfl rfl) hst mhR rfl rfl) ?_
                refine Rn QSn ?_
                refine Lc rfl ?_ LAn
                replace hst := hst.pk 4 [3, 0, 0, 0] rfl
                replace hst := hst.fz
                replace hst := hst.pk 2 [1, 0] rfl
                replace hst := hst.fz
                refine Lk (wg rfl rfl rfl c31) (yCall FN_23 (a2 (et rfl rfl) (et rfl rfl))) (sparsekit_Graph_ok (hM := gr32) (hst := hst) (q1 := (mtF mhF)) (q2 := mhF)) ?_
                clear hst
                rintro _ w ⟨rfl, hst⟩
                refine ⟨_, rfl, ?_⟩
                refine DRn (l1 := [11, 12, 13, 14, 16, 17]) (l2 := []) (lc := [15]) (by kernel_rfl) (by kernel_rfl) (by kernel_rfl) ?_
                refine Ry rfl rfl wn (ypt (v := .bool r24) (et rfl rfl) c31 (eqv hr3 (et rfl rfl))) ?_
                refine Ry rfl rfl wn (ym (v := .bool r24) (et rfl rfl)) ?_
                refine Ry rfl rfl (wg rfl rfl rfl c33) (yLbs (us := [h11.v]) ST_27 (et rfl rfl) hst (mtR (mtR mhR)) rfl rfl) ?_
                refine Ry rfl rfl (wg rfl rfl rfl c33) (ym (v := .int .i64 r21) (et rfl rfl)) ?_
                refine Ry rfl rfl (wg rfl rfl rfl c33) (yLbs (us := [h11.v]) ST_27 (et rfl rfl) hst (mtR (mtR mhR)) rfl rfl) ?_
                refine Ry rfl rfl (wg rfl rfl rfl c33) (ym (v := .int .i64 r21) (et rfl rfl)) ?_
                refine Rn QSn ?_
                refine Lc rfl ?_ LAn
                refine Lk (wg rfl rfl rfl c33) (yCall FN_12 (a2 (et rfl rfl) (et rfl rfl))) (graph_Levels_ok (hM := gr34) (hst := hst) (q1 := (mtF (mtF (mtF mhF))))) ?_
                clear hst
                rintro _ w ⟨h35, rfl, hst⟩
                refine ⟨_, rfl, ?_⟩
                refine DRn (l1 := []) (l2 := [16, 17]) (lc := [18]) (by kernel_rfl) (by kernel_rfl) (by kernel_rfl) ?_
                refine Rn (Sy rfl rfl (wg rfl rfl rfl c33) (yLbs (us := [h11.v]) ST_27 (et rfl rfl) hst (mtR (mtR (mtR mhR))) rfl rfl) rfl (Sy rfl rfl (wg rfl rfl rfl c33) (ym (v := .int .i64 r21) (et rfl rfl)) rfl QSn)) ?_
                refine Lc rfl ?_ LAn
                refine Lk (wg rfl rfl rfl c33) (yCall FN_15 (a2 (et rfl rfl) (et rfl rfl))) (sparseref12_Levels_ok (hM := gr36) (hst := hst) (q1 := (mtF (mtF (mtF mhF))))) ?_
                clear hst
                rintro _ w ⟨h37, rfl, hst⟩
                refine ⟨_, rfl, ?_⟩
                refine DRn (l1 := []) (l2 := []) (lc := [19]) (by kernel_rfl) (by kernel_rfl) (by kernel_rfl) ?_
                refine Rn QSn ?_
                refine Lc rfl ?_ LAn
                replace hst := hst.pk 2 [1, 0] rfl
                replace hst := hst.fz
                replace hst := hst.fz
                refine Lk (wg rfl rfl rfl c33) (yCall FN_24 (a2 (et rfl rfl) (et rfl rfl))) (sparsekit_Lists_ok (hM := gr38) (hst := hst) (q1 := (mtF mhF)) (q2 := mhF)) ?_
                clear hst
                rintro _ w ⟨rfl, hst⟩
                refine ⟨_, rfl, ?_⟩
                refine DRn (l1 := [20, 21, 22, 23, 25, 26]) (l2 := []) (lc := [24]) (by kernel_rfl) (by kernel_rfl) (by kernel_rfl) ?_
                refine Ry rfl rfl wn (ypt (v := .bool r25) (et rfl rfl) c33 (eqv hr4 (et rfl rfl))) ?_
                refine Ry rfl rfl wn (ym (v := .bool r25) (et rfl rfl)) ?_
                refine Ry rfl rfl (wg rfl rfl rfl c39) (yLbs (us := [h11.v]) ST_27 (et rfl rfl) hst (mtR (mtR mhR)) rfl rfl) ?_
                refine Ry rfl rfl (wg rfl rfl rfl c39) (ym (v := .int .i64 r21) (et rfl rfl)) ?_
                refine Ry rfl rfl (wg rfl rfl rfl c39) (yLbs (us := [h11.v]) ST_27 (et rfl rfl) hst (mtR (mtR mhR)) rfl rfl) ?_
                refine Ry rfl rfl (wg rfl rfl rfl c39) (ym (v := .int .i64 r21) (et rfl rfl)) ?_
                refine Rn QSn ?_
                refine Lc rfl ?_ LAn
                refine Lk (wg rfl rfl rfl c39) (yCall FN_17 (a2 (et rfl rfl) (et rfl rfl))) (graph_Peripheral_ok (hM := gr40) (hst := hst) (q1 := (mtF (mtF (mtF (mtF (mtF mhF))))))) ?_
                clear hst
                rintro _ w ⟨rfl, hst⟩
                refine ⟨_, rfl, ?_⟩
                refine DRn (l1 := []) (l2 := [25, 26]) (lc := [27]) (by kernel_rfl) (by kernel_rfl) (by kernel_rfl) ?_
                refine Rn (Sy rfl rfl (wg rfl rfl rfl c39) (yLbs (us := [h11.v]) ST_27 (et rfl rfl) hst (mtR (mtR mhR)) rfl rfl) rfl (Sy rfl rfl (wg rfl rfl rfl c39) (ym (v := .int .i64 r21) (et rfl rfl)) rfl QSn)) ?_
                refine Lc rfl ?_ LAn
                refine Lk (wg rfl rfl rfl c39) (yCall FN_25 (a2 (et rfl rfl) (et rfl rfl))) (sparseref12_Peripheral_ok (hM := gr41) (hst := hst) (q1 := (mtF (mtF (mtF (mtF (mtF mhF))))))) ?_
                clear hst
                rintro _ w ⟨rfl, hst⟩
                refine ⟨_, rfl, ?_⟩
                refine DRn (l1 := [28, 29, 30, 31, 33]) (l2 := []) (lc := [32]) (by kernel_rfl) (by kernel_rfl) (by kernel_rfl) ?_
                refine Ry rfl rfl (wg rfl rfl rfl c39) (yeql (et rfl rfl) (et rfl rfl)) ?_
                refine Ry rfl rfl wn (ypt (v := .bool r26) (et rfl rfl) c39 (eqv hr5 (et rfl rfl))) ?_
                refine Ry rfl rfl wn (ym (v := .bool r26) (et rfl rfl)) ?_
                refine Rx rfl rfl (wx rfl rfl rfl (bfalse c42)) ?_
                refine Rx rfl rfl (wx rfl rfl rfl (bfalse c42)) ?_
                refine Rn QSn ?_
                refine Lc rfl ?_ LAn
                refine Lx (wx rfl rfl rfl (bfalse c42)) ?_
                refine DRn (l1 := []) (l2 := [33]) (lc := [34]) (by kernel_rfl) (by kernel_rfl) (by kernel_rfl) ?_
                refine Rn (Sx_ rfl rfl (wx rfl rfl rfl (bfalse c42)) rfl QSn) ?_
                refine Lc rfl ?_ LAn
                refine Lx (wx rfl rfl rfl (bfalse c42)) ?_
                refine DRn (l1 := []) (l2 := []) (lc := [35]) (by kernel_rfl) (by kernel_rfl) (by kernel_rfl) ?_
                refine Rn QSn ?_
                refine Lc rfl ?_ LAn
                refine Lx (wx rfl rfl rfl (bfalse c42)) ?_
                refine DRn (l1 := [36, 37]) (l2 := []) (lc := [38]) (by kernel_rfl) (by kernel_rfl) (by kernel_rfl) ?_
                refine Ry rfl rfl wn (ypf (v := .bool r27) (et rfl rfl) (bfalse c42) (eqv hr9 rfl)) ?_
                refine Ry rfl rfl wn (ym (v := .bool r27) (et rfl rfl)) ?_
                refine Rn QSn ?_
                refine Lc rfl ?_ LAn
                refine Lx (wx rfl rfl rfl (bfalse c50)) ?_
                refine DRn (l1 := [39]) (l2 := []) (lc := [40]) (by kernel_rfl) (by kernel_rfl) (by kernel_rfl) ?_
                refine Ry rfl rfl wn (ypf (v := .bool r28) (et rfl rfl) (bfalse c50) (eqv hr10 rfl)) ?_
                refine Rn QSn ?_
                refine Lc rfl ?_ LAn
                refine Ly wn (ya (v := .bool r28) (et rfl rfl)) ?_
                refine DRz (l1 := []) (l2 := []) (by kernel_rfl) (by kernel_rfl) ?_
                refine Rn QSn ?_
                exact j1 _ _ ⟨rfl, ((hst.pk 3 [] rfl).facts (allT (allT (allT (allT (allT (allT allI)))))))⟩
            · have hr11 := someI gr26
              have c51 : ¬ r26 = true := fun h => Bool.false_ne_true (hr11.trans h)
              rw [if_neg c51] at gr27
              have hr12 := someI gr27
              have c52 : ¬ r27 = true := fun h => Bool.false_ne_true (hr12.trans h)
              rw [if_neg c52] at gr28
              have hr13 := someI gr28
              refine wp_drawR [0, 1, 3, 7, 15, 31, 63, 127, 255, 255, 1023, 2047, 4095, 8191, 8191, 32767, 8191, 8191, 262143, 524287, 1048575, 2097151, 4194303, 4194303, 16777215, 4194303, 4194303, 134217727, 268435455, 536870911, 1073741823, 2147483647, 4294967295, 2147483647, 17179869183, 34359738367, 68719476735, 137438953471, 274877906943, 549755813887, 1099511627775] [1, 10, 15, 18, 19, 24, 27, 32, 34, 35, 38, 40] 12 folM (by kernel_rfl) (by kernel_rfl) (by kernel_rfl) ?_
              replace hst := hst.drew
              refine DRn (l1 := [0]) (l2 := []) (lc := [1]) (by kernel_rfl) (by kernel_rfl) (by kernel_rfl) ?_
              refine Ry rfl rfl wn (yLbs (us := [h11.v]) ST_27 (et rfl rfl) hst (mtR (mtR (mtR (mtR mhR)))) rfl rfl) ?_
              refine Rn QSn ?_
              refine Lc rfl ?_ LAn
              refine Lk wn (yCall FN_22 (a1 (et rfl rfl))) (graph_Check_ok (hM := gr22) (hst := hst) (q1 := (mtF mhF))) ?_
              clear hst
              rintro _ w ⟨rfl, hst⟩
              refine ⟨_, rfl, ?_⟩
              refine DRn (l1 := [2, 3, 4, 5, 6, 7, 8, 9]) (l2 := []) (lc := [10]) (by kernel_rfl) (by kernel_rfl) (by kernel_rfl) ?_
              refine Ry rfl rfl wn (yeql (et rfl rfl) rfl) ?_
              refine Ry rfl rfl wn (ym (v := .bool (decide (r22 = 0))) (et rfl rfl)) ?_
              refine Ry rfl rfl (wg rfl rfl rfl (decide_eq_true c30)) (ym (v := .int .i64 r15.2) (et rfl rfl)) ?_
              refine Ry rfl rfl (wg rfl rfl rfl (decide_eq_true c30)) (yeql (et rfl rfl) rfl) ?_
              refine Ry rfl rfl wn (ypt (v := .bool r23) (et rfl rfl) (decide_eq_true c30) (eqv hr2 (et rfl rfl))) ?_
              refine Ry rfl rfl wn (ym (v := .bool r23) (et rfl rfl)) ?_
              refine Ry rfl rfl (wg rfl rfl rfl c31) (yLbs (us := [h16.v]) ST_27 (et rfl rfl) hst (mtR (mtR mhR)) rfl rfl) ?_
              refine Ry rfl rfl (wg rfl rfl rfl c31) (yLbs (us := [h19.v]) ST_27 (et rfl rfl) hst mhR rfl rfl) ?_
              refine Rn QSn ?_
              refine Lc rfl ?_ LAn
              replace hst := hst.pk 4 [3, 0, 0, 0] rfl
              replace hst := hst.fz
              replace hst := hst.pk 2 [1, 0] rfl
              replace hst := hst.fz
              refine Lk (wg rfl rfl rfl c31) (yCall FN_23 (a2 (et rfl rfl) (et rfl rfl))) (sparsekit_Graph_ok (hM := gr32) (hst := hst) (q1 := (mtF mhF)) (q2 := mhF)) ?_
              clear hst
              rintro _ w ⟨rfl, hst⟩
              refine ⟨_, rfl, ?_⟩
              refine DRn (l1 := [11, 12, 13, 14, 16, 17]) (l2 := []) (lc := [15]) (by kernel_rfl) (by kernel_rfl) (by kernel_rfl) ?_
              refine Ry rfl rfl wn (ypt (v := .bool r24) (et rfl rfl) c31 (eqv hr3 (et rfl rfl))) ?_
              refine Ry rfl rfl wn (ym (v := .bool r24) (et rfl rfl)) ?_
              refine Ry rfl rfl (wg rfl rfl rfl c33) (yLbs (us := [h11.v]) ST_27 (et rfl rfl) hst (mtR (mtR mhR)) rfl rfl) ?_
              refine Ry rfl rfl (wg rfl rfl rfl c33) (ym (v := .int .i64 r21) (et rfl rfl)) ?_
              refine Ry rfl rfl (wg rfl rfl rfl c33) (yLbs (us := [h11.v]) ST_27 (et rfl rfl) hst (mtR (mtR mhR)) rfl rfl) ?_
              refine Ry rfl rfl (wg rfl rfl rfl c33) (ym (v := .int .i64 r21) (et rfl rfl)) ?_
              refine Rn QSn ?_
              refine Lc rfl ?_ LAn
              refine Lk (wg rfl rfl rfl c33) (yCall FN_12 (a2 (et rfl rfl) (et rfl rfl))) (graph_Levels_ok (hM := gr34) (hst := hst) (q1 := (mtF (mtF (mtF mhF))))) ?_
              clear hst
              rintro _ w ⟨h35, rfl, hst⟩
              refine ⟨_, rfl, ?_⟩
              refine DRn (l1 := []) (l2 := [16, 17]) (lc := [18]) (by kernel_rfl) (by kernel_rfl) (by kernel_rfl) ?_
              refine Rn (Sy rfl rfl (wg rfl rfl rfl c33) (yLbs (us := [h11.v]) ST_27 (et rfl rfl) hst (mtR (mtR (mtR mhR))) rfl rfl) rfl (Sy rfl rfl (wg rfl rfl rfl c33) (ym (v := .int .i64 r21) (et rfl rfl)) rfl QSn)) ?_
              refine Lc rfl ?_ LAn
              refine Lk (wg rfl rfl rfl c33) (yCall FN_15 (a2 (et rfl rfl) (et rfl rfl))) (sparseref12_Levels_ok (hM := gr36) (hst := hst) (q1 := (mtF (mtF (mtF mhF))))) ?_
              clear hst
              rintro _ w ⟨h37, rfl, hst⟩
              refine ⟨_, rfl, ?_⟩
              refine DRn (l1 := []) (l2 := []) (lc := [19]) (by kernel_rfl) (by kernel_rfl) (by kernel_rfl) ?_
              refine Rn QSn ?_
              refine Lc rfl ?_ LAn
              replace hst := hst.pk 2 [1, 0] rfl
              replace hst := hst.fz
              replace hst := hst.fz
              refine Lk (wg rfl rfl rfl c33) (yCall FN_24 (a2 (et rfl rfl) (et rfl rfl))) (sparsekit_Lists_ok (hM := gr38) (hst := hst) (q1 := (mtF mhF)) (q2 := mhF)) ?_
              clear hst
              rintro _ w ⟨rfl, hst⟩
              refine ⟨_, rfl, ?_⟩
              refine DRn (l1 := [20, 21, 22, 23, 25, 26]) (l2 := []) (lc := [24]) (by kernel_rfl) (by kernel_rfl) (by kernel_rfl) ?_
              refine Ry rfl rfl wn (ypt (v := .bool r25) (et rfl rfl) c33 (eqv hr4 (et rfl rfl))) ?_
              refine Ry rfl rfl wn (ym (v := .bool r25) (et rfl rfl)) ?_
              refine Rx rfl rfl (wx rfl rfl rfl (bfalse c39)) ?_
              refine Rx rfl rfl (wx rfl rfl rfl (bfalse c39)) ?_
              refine Rx rfl rfl (wx rfl rfl rfl (bfalse c39)) ?_
              refine Rx rfl rfl (wx rfl rfl rfl (bfalse c39)) ?_
              refine Rn QSn ?_
              refine Lc rfl ?_ LAn
              refine Lx (wx rfl rfl rfl (bfalse c39)) ?_
              refine DRn (l1 := []) (l2 := [25, 26]) (lc := [27]) (by kernel_rfl) (by kernel_rfl) (by kernel_rfl) ?_
              refine Rn (Sx_ rfl rfl (wx rfl rfl rfl (bfalse c39)) rfl (Sx_ rfl rfl (wx rfl rfl rfl (bfalse c39)) rfl QSn)) ?_
              refine Lc rfl ?_ LAn
              refine Lx (wx rfl rfl rfl (bfalse c39)) ?_
              refine DRn (l1 := [28, 29, 30, 31, 33]) (l2 := []) (lc := [32]) (by kernel_rfl) (by kernel_rfl) (by kernel_rfl) ?_
              refine Rx rfl rfl (wx rfl rfl rfl (bfalse c39)) ?_
              refine Ry rfl rfl wn (ypf (v := .bool r26) (et rfl rfl) (bfalse c39) (eqv hr11 rfl)) ?_
              refine Ry rfl rfl wn (ym (v := .bool r26) (et rfl rfl)) ?_
              refine Rx rfl rfl (wx rfl rfl rfl (bfalse c51)) ?_
              refine Rx rfl rfl (wx rfl rfl rfl (bfalse c51)) ?_
              refine Rn QSn ?_
              refine Lc rfl ?_ LAn
              refine Lx (wx rfl rfl rfl (bfalse c51)) ?_
              refine DRn (l1 := []) (l2 := [33]) (lc := [34]) (by kernel_rfl) (by kernel_rfl) (by kernel_rfl) ?_
              refine Rn (Sx_ rfl rfl (wx rfl rfl rfl (bfalse c51)) rfl QSn) ?_
              refine Lc rfl ?_ LAn
              refine Lx (wx rfl rfl rfl (bfalse c51)) ?_
              refine DRn (l1 := []) (l2 := []) (lc := [35]) (by kernel_rfl) (by kernel_rfl) (by kernel_rfl) ?_
              refine Rn QSn ?_
              refine Lc rfl ?_ LAn
              refine Lx (wx rfl rfl rfl (bfalse c51)) ?_
              refine DRn (l1 := [36, 37]) (l2 := []) (lc := [38]) (by kernel_rfl) (by kernel_rfl) (by kernel_rfl) ?_
              refine Ry rfl rfl wn (ypf (v := .bool r27) (et rfl rfl) (bfalse c51) (eqv hr12 rfl)) ?_
              refine Ry rfl rfl wn (ym (v := .bool r27) (et rfl rfl)) ?_
              refine Rn QSn ?_
              refine Lc rfl ?_ LAn
              refine Lx (wx rfl rfl rfl (bfalse c52)) ?_
              refine DRn (l1 := [39]) (l2 := []) (lc := [40]) (by kernel_rfl) (by kernel_rfl) (by kernel_rfl) ?_
              refine Ry rfl rfl wn (ypf (v := .bool r28) (et rfl rfl) (bfalse c52) (eqv hr13 rfl)) ?_
              refine Rn QSn ?_
              refine Lc rfl ?_ LAn
              refine Ly wn (ya (v := .bool r28) (et rfl rfl)) ?_
              refine DRz (l1 := []) (l2 := []) (by kernel_rfl) (by kernel_rfl) ?_
              refine Rn QSn ?_
              exact j1 _ _ ⟨rfl, ((hst.pk 3 [] rfl).facts (allT (allT (allT (allT (allT (allT allI)))))))⟩
          · have hr14 := someI gr25
            have c53 : ¬ r25 = true := fun h => Bool.false_ne_true (hr14.trans h)
            rw [if_neg c53] at gr26
            have hr15 := someI gr26
            have c54 : ¬ r26 = true := fun h => Bool.false_ne_true (hr15.trans h)
            rw [if_neg c54] at gr27
            have hr16 := someI gr27
            have c55 : ¬ r27 = true := fun h => Bool.false_ne_true (hr16.trans h)
            rw [if_neg c55] at gr28
            have hr17 := someI gr28
            refine wp_drawR [0, 1, 3, 7, 15, 31, 63, 127, 255, 255, 1023, 2047, 4095, 8191, 8191, 32767, 8191, 8191, 262143, 524287, 1048575, 2097151, 4194303, 4194303, 16777215, 4194303, 4194303, 134217727, 268435455, 536870911, 1073741823, 2147483647, 4294967295, 2147483647, 17179869183, 34359738367, 68719476735, 137438953471, 274877906943, 549755813887, 1099511627775] [1, 10, 15, 18, 19, 24, 27, 32, 34, 35, 38, 40] 12 folM (by kernel_rfl) (by kernel_rfl) (by kernel_rfl) ?_
            replace hst := hst.drew
            refine DRn (l1 := [0]) (l2 := []) (lc := [1]) (by kernel_rfl) (by kernel_rfl) (by kernel_rfl) ?_
            refine Ry rfl rfl wn (yLbs (us := [h11.v]) ST_27 (et rfl rfl) hst (mtR (mtR (mtR (mtR mhR)))) rfl rfl) ?_
            refine Rn QSn ?_
            refine Lc rfl ?_ LAn
            refine Lk wn (yCall FN_22 (a1 (et rfl rfl))) (graph_Check_ok (hM := gr22) (hst := hst) (q1 := (mtF mhF))) ?_
            clear hst
            rintro _ w ⟨rfl, hst⟩
            refine ⟨_, rfl, ?_⟩
            refine DRn (l1 := [2, 3, 4, 5, 6, 7, 8, 9]) (l2 := []) (lc := [10]) (by kernel_rfl) (by kernel_rfl) (by kernel_rfl) ?_
            refine Ry rfl rfl wn (yeql (et rfl rfl) rfl) ?_
            refine Ry rfl rfl wn (ym (v := .bool (decide (r22 = 0))) (et rfl rfl)) ?_
            refine Ry rfl rfl (wg rfl rfl rfl (decide_eq_true c30)) (ym (v := .int .i64 r15.2) (et rfl rfl)) ?_
            refine Ry rfl rfl (wg rfl rfl rfl (decide_eq_true c30)) (yeql (et rfl rfl) rfl) ?_
            refine Ry rfl rfl wn (ypt (v := .bool r23) (et rfl rfl) (decide_eq_true c30) (eqv hr2 (et rfl rfl))) ?_
            refine Ry rfl rfl wn (ym (v := .bool r23) (et rfl rfl)) ?_
            refine Ry rfl rfl (wg rfl rfl rfl c31) (yLbs (us := [h16.v]) ST_27 (et rfl rfl) hst (mtR (mtR mhR)) rfl rfl) ?_
            refine Ry rfl rfl (wg rfl rfl rfl c31) (yLbs (us := [h19.v]) ST_27 (et rfl rfl) hst mhR rfl rfl) ?_
            refine Rn QSn ?_
            refine Lc rfl ?_ LAn
            replace hst := hst.pk 4 [3, 0, 0, 0] rfl
            replace hst := hst.fz
            replace hst := hst.pk 2 [1, 0] rfl
            replace hst := hst.fz
            refine Lk (wg rfl rfl rfl c31) (yCall FN_23 (a2 (et rfl rfl) (et rfl rfl))) (sparsekit_Graph_ok (hM := gr32) (hst := hst) (q1 := (mtF mhF)) (q2 := mhF)) ?_
            clear hst
            rintro _ w ⟨rfl, hst⟩
            refine ⟨_, rfl, ?_⟩
            refine DRn (l1 := [11, 12, 13, 14, 16, 17]) (l2 := []) (lc := [15]) (by kernel_rfl) (by kernel_rfl) (by kernel_rfl) ?_
            refine Ry rfl rfl wn (ypt (v := .bool r24) (et rfl rfl) c31 (eqv hr3 (et rfl rfl))) ?_
            refine Ry rfl rfl wn (ym (v := .bool r24) (et rfl rfl)) ?_
            refine Rx rfl rfl (wx rfl rfl rfl (bfalse c33)) ?_
            refine Rx rfl rfl (wx rfl rfl rfl (bfalse c33)) ?_
            refine Rx rfl rfl (wx rfl rfl rfl (bfalse c33)) ?_
            refine Rx rfl rfl (wx rfl rfl rfl (bfalse c33)) ?_
            refine Rn QSn ?_
            refine Lc rfl ?_ LAn
            refine Lx (wx rfl rfl rfl (bfalse c33)) ?_
            refine DRn (l1 := []) (l2 := [16, 17]) (lc := [18]) (by kernel_rfl) (by kernel_rfl) (by kernel_rfl) ?_
            refine Rn (Sx_ rfl rfl (wx rfl rfl rfl (bfalse c33)) rfl (Sx_ rfl rfl (wx rfl rfl rfl (bfalse c33)) rfl QSn)) ?_
            refine Lc rfl ?_ LAn
            refine Lx (wx rfl rfl rfl (bfalse c33)) ?_
            refine DRn (l1 := []) (l2 := []) (lc := [19]) (by kernel_rfl) (by kernel_rfl) (by kernel_rfl) ?_
            refine Rn QSn ?_
            refine Lc rfl ?_ LAn
            refine Lx (wx rfl rfl rfl (bfalse c33)) ?_
            refine DRn (l1 := [20, 21, 22, 23, 25, 26]) (l2 := []) (lc := [24]) (by kernel_rfl) (by kernel_rfl) (by kernel_rfl) ?_
            refine Ry rfl rfl wn (ypf (v := .bool r25) (et rfl rfl) (bfalse c33) (eqv hr14 rfl)) ?_
            refine Ry rfl rfl wn (ym (v := .bool r25) (et rfl rfl)) ?_
            refine Rx rfl rfl (wx rfl rfl rfl (bfalse c53)) ?_
            refine Rx rfl rfl (wx rfl rfl rfl (bfalse c53)) ?_
            refine Rx rfl rfl (wx rfl rfl rfl (bfalse c53)) ?_
            refine Rx rfl rfl (wx rfl rfl rfl (bfalse c53)) ?_
            refine Rn QSn ?_
            refine Lc rfl ?_ LAn
            refine Lx (wx rfl rfl rfl (bfalse c53)) ?_
            refine DRn (l1 := []) (l2 := [25, 26]) (lc := [27]) (by kernel_rfl) (by kernel_rfl) (by kernel_rfl) ?_
            refine Rn (Sx_ rfl rfl (wx rfl rfl rfl (bfalse c53)) rfl (Sx_ rfl rfl (wx rfl rfl rfl (bfalse c53)) rfl QSn)) ?_
            refine Lc rfl ?_ LAn
            refine Lx (wx rfl rfl rfl (bfalse c53)) ?_
            refine DRn (l1 := [28, 29, 30, 31, 33]) (l2 := []) (lc := [32]) (by kernel_rfl) (by kernel_rfl) (by kernel_rfl) ?_
            refine Rx rfl rfl (wx rfl rfl rfl (bfalse c53)) ?_
            refine Ry rfl rfl wn (ypf (v := .bool r26) (et rfl rfl) (bfalse c53) (eqv hr15 rfl)) ?_
            refine Ry rfl rfl wn (ym (v := .bool r26) (et rfl rfl)) ?_
            refine Rx rfl rfl (wx rfl rfl rfl (bfalse c54)) ?_
            refine Rx rfl rfl (wx rfl rfl rfl (bfalse c54)) ?_
            refine Rn QSn ?_
            refine Lc rfl ?_ LAn
            refine Lx (wx rfl rfl rfl (bfalse c54)) ?_
            refine DRn (l1 := []) (l2 := [33]) (lc := [34]) (by kernel_rfl) (by kernel_rfl) (by kernel_rfl) ?_
            refine Rn (Sx_ rfl rfl (wx rfl rfl rfl (bfalse c54)) rfl QSn) ?_
            refine Lc rfl ?_ LAn
            refine Lx (wx rfl rfl rfl (bfalse c54)) ?_
            refine DRn (l1 := []) (l2 := []) (lc := [35]) (by kernel_rfl) (by kernel_rfl) (by kernel_rfl) ?_
            refine Rn QSn ?_
            refine Lc rfl ?_ LAn
            refine Lx (wx rfl rfl rfl (bfalse c54)) ?_
            refine DRn (l1 := [36, 37]) (l2 := []) (lc := [38]) (by kernel_rfl) (by kernel_rfl) (by kernel_rfl) ?_
            refine Ry rfl rfl wn (ypf (v := .bool r27) (et rfl rfl) (bfalse c54) (eqv hr16 rfl)) ?_
            refine Ry rfl rfl wn (ym (v := .bool r27) (et rfl rfl)) ?_
            refine Rn QSn ?_
            refine Lc rfl ?_ LAn
            refine Lx (wx rfl rfl rfl (bfalse c55)) ?_
            refine DRn (l1 := [39]) (l2 := []) (lc := [40]) (by kernel_rfl) (by kernel_rfl) (by kernel_rfl) ?_
            refine Ry rfl rfl wn (ypf (v := .bool r28) (et rfl rfl) (bfalse c55) (eqv hr17 rfl)) ?_
            refine Rn QSn ?_
            refine Lc rfl ?_ LAn
            refine Ly wn (ya (v := .bool r28) (et rfl rfl)) ?_
            refine DRz (l1 := []) (l2 := []) (by kernel_rfl) (by kernel_rfl) ?_
            refine Rn QSn ?_
            exact j1 _ _ ⟨rfl, ((hst.pk 3 [] rfl).facts (allT (allT (allT (allT allI)))))⟩
        · have hr18 := someI gr24
          have c56 : ¬ r24 = true := fun h => Bool.false_ne_true (hr18.trans h)
          rw [if_neg c56] at gr25
          have hr19 := someI gr25
          have c57 : ¬ r25 = true := fun h => Bool.false_ne_true (hr19.trans h)
          rw [if_neg c57] at gr26
          have hr20 := someI gr26
          have c58 : ¬ r26 = true := fun h => Bool.false_ne_true (hr20.trans h)
          rw [if_neg c58] at gr27
          have hr21 := someI gr27
          have c59 : ¬ r27 = true := fun h => Bool.false_ne_true (hr21.trans h)
          rw [if_neg c59] at gr28
          have hr22 := someI gr28
          refine wp_drawR [0, 1, 3, 7, 15, 31, 63, 127, 255, 255, 1023, 2047, 4095, 8191, 8191, 32767, 8191, 8191, 262143, 524287, 1048575, 2097151, 4194303, 4194303, 16777215, 4194303, 4194303, 134217727, 268435455, 536870911, 1073741823, 2147483647, 4294967295, 2147483647, 17179869183, 34359738367, 68719476735, 137438953471, 274877906943, 549755813887, 1099511627775] [1, 10, 15, 18, 19, 24, 27, 32, 34, 35, 38, 40] 12 folM (by kernel_rfl) (by kernel_rfl) (by kernel_rfl) ?_
          replace hst := hst.drew
          refine DRn (l1 := [0]) (l2 := []) (lc := [1]) (by kernel_rfl) (by kernel_rfl) (by kernel_rfl) ?_
          refine Ry rfl rfl wn (yLbs (us := [h11.v]) ST_27 (et rfl rfl) hst (mtR (mtR (mtR (mtR mhR)))) rfl rfl) ?_
          refine Rn QSn ?_
          refine Lc rfl ?_ LAn
          refine Lk wn (yCall FN_22 (a1 (et rfl rfl))) (graph_Check_ok (hM := gr22) (hst := hst) (q1 := (mtF mhF))) ?_
          clear hst
          rintro _ w ⟨rfl, hst⟩
          refine ⟨_, rfl, ?_⟩
          refine DRn (l1 := [2, 3, 4, 5, 6, 7, 8, 9]) (l2 := []) (lc := [10]) (by kernel_rfl) (by kernel_rfl) (by kernel_rfl) ?_
          refine Ry rfl rfl wn (yeql (et rfl rfl) rfl) ?_
          refine Ry rfl rfl wn (ym (v := .bool (decide (r22 = 0))) (et rfl rfl)) ?_
          refine Ry rfl rfl (wg rfl rfl rfl (decide_eq_true c30)) (ym (v := .int .i64 r15.2) (et rfl rfl)) ?_
          refine Ry rfl rfl (wg rfl rfl rfl (decide_eq_true c30)) (yeql (et rfl rfl) rfl) ?_
          refine Ry rfl rfl wn (ypt (v := .bool r23) (et rfl rfl) (decide_eq_true c30) (eqv hr2 (et rfl rfl))) ?_
          refine Ry rfl rfl wn (ym (v := .bool r23) (et rfl rfl)) ?_
          refine Rx rfl rfl (wx rfl rfl rfl (bfalse c31)) ?_
          refine Rx rfl rfl (wx rfl rfl rfl (bfalse c31)) ?_
          refine Rn QSn ?_
          refine Lc rfl ?_ LAn
          refine Lx (wx rfl rfl rfl (bfalse c31)) ?_
          refine DRn (l1 := [11, 12, 13, 14, 16, 17]) (l2 := []) (lc := [15]) (by kernel_rfl) (by kernel_rfl) (by kernel_rfl) ?_
          refine Ry rfl rfl wn (ypf (v := .bool r24) (et rfl rfl) (bfalse c31) (eqv hr18 rfl)) ?_
          refine Ry rfl rfl wn (ym (v := .bool r24) (et rfl rfl)) ?_
          refine Rx rfl rfl (wx rfl rfl rfl (bfalse c56)) ?_
          refine Rx rfl rfl (wx rfl rfl rfl (bfalse c56)) ?_
          refine Rx rfl rfl (wx rfl rfl rfl (bfalse c56)) ?_
          refine Rx rfl rfl (wx rfl rfl rfl (bfalse c56)) ?_
          refine Rn QSn ?_
          refine Lc rfl ?_ LAn
          refine Lx (wx rfl rfl rfl (bfalse c56)) ?_
          refine DRn (l1 := []) (l2 := [16, 17]) (lc := [18]) (by kernel_rfl) (by kernel_rfl) (by kernel_rfl) ?_
          refine Rn (Sx_ rfl rfl (wx rfl rfl rfl (bfalse c56)) rfl (Sx_ rfl rfl (wx rfl rfl rfl (bfalse c56)) rfl QSn)) ?_
          refine Lc rfl ?_ LAn
          refine Lx (wx rfl rfl rfl (bfalse c56)) ?_
          refine DRn (l1 := []) (l2 := []) (lc := [19]) (by kernel_rfl) (by kernel_rfl) (by kernel_rfl) ?_
          refine Rn QSn ?_
          refine Lc rfl ?_ LAn
          refine Lx (wx rfl rfl rfl (bfalse c56)) ?_
          refine DRn (l1 := [20, 21, 22, 23, 25, 26]) (l2 := []) (lc := [24]) (by kernel_rfl) (by kernel_rfl) (by kernel_rfl) ?_
          refine Ry rfl rfl wn (ypf (v := .bool r25) (et rfl rfl) (bfalse c56) (eqv hr19 rfl)) ?_
          refine Ry rfl rfl wn (ym (v := .bool r25) (et rfl rfl)) ?_
          refine Rx rfl rfl (wx rfl rfl rfl (bfalse c57)) ?_
          refine Rx rfl rfl (wx rfl rfl rfl (bfalse c57)) ?_
          refine Rx rfl rfl (wx rfl rfl rfl (bfalse c57)) ?_
          refine Rx rfl rfl (wx rfl rfl rfl (bfalse c57)) ?_
          refine Rn QSn ?_
          refine Lc rfl ?_ LAn
          refine Lx (wx rfl rfl rfl (bfalse c57)) ?_
          refine DRn (l1 := []) (l2 := [25, 26]) (lc := [27]) (by kernel_rfl) (by kernel_rfl) (by kernel_rfl) ?_
          refine Rn (Sx_ rfl rfl (wx rfl rfl rfl (bfalse c57)) rfl (Sx_ rfl rfl (wx rfl rfl rfl (bfalse c57)) rfl QSn)) ?_
          refine Lc rfl ?_ LAn
          refine Lx (wx rfl rfl rfl (bfalse c57)) ?_
          refine DRn (l1 := [28, 29, 30, 31, 33]) (l2 := []) (lc := [32]) (by kernel_rfl) (by kernel_rfl) (by kernel_rfl) ?_
          refine Rx rfl rfl (wx rfl rfl rfl (bfalse c57)) ?_
          refine Ry rfl rfl wn (ypf (v := .bool r26) (et rfl rfl) (bfalse c57) (eqv hr20 rfl)) ?_
          refine Ry rfl rfl wn (ym (v := .bool r26) (et rfl rfl)) ?_
          refine Rx rfl rfl (wx rfl rfl rfl (bfalse c58)) ?_
          refine Rx rfl rfl (wx rfl rfl rfl (bfalse c58)) ?_
          refine Rn QSn ?_
          refine Lc rfl ?_ LAn
          refine Lx (wx rfl rfl rfl (bfalse c58)) ?_
          refine DRn (l1 := []) (l2 := [33]) (lc := [34]) (by kernel_rfl) (by kernel_rfl) (by kernel_rfl) ?_
          refine Rn (Sx_ rfl rfl (wx rfl rfl rfl (bfalse c58)) rfl QSn) ?_
          refine Lc rfl ?_ LAn
          refine Lx (wx rfl rfl rfl (bfalse c58)) ?_
          refine DRn (l1 := []) (l2 := []) (lc := [35]) (by kernel_rfl) (by kernel_rfl) (by kernel_rfl) ?_
          refine Rn QSn ?_
          refine Lc rfl ?_ LAn
          refine Lx (wx rfl rfl rfl (bfalse c58)) ?_
          refine DRn (l1 := [36, 37]) (l2 := []) (lc := [38]) (by kernel_rfl) (by kernel_rfl) (by kernel_rfl) ?_
          refine Ry rfl rfl wn (ypf (v := .bool r27) (et rfl rfl) (bfalse c58) (eqv hr21 rfl)) ?_
          refine Ry rfl rfl wn (ym (v := .bool r27) (et rfl rfl)) ?_
          refine Rn QSn ?_
          refine Lc rfl ?_ LAn
          refine Lx (wx rfl rfl rfl (bfalse c59)) ?_
          refine DRn (l1 := [39]) (l2 := []) (lc := [40]) (by kernel_rfl) (by kernel_rfl) (by kernel_rfl) ?_
          refine Ry rfl rfl wn (ypf (v := .bool r28) (et rfl rfl) (bfalse c59) (eqv hr22 rfl)) ?_
          refine Rn QSn ?_
          refine Lc rfl ?_ LAn
          refine Ly wn (ya (v := .bool r28) (et rfl rfl)) ?_
          refine DRz (l1 := []) (l2 := []) (by kernel_rfl) (by kernel_rfl) ?_
          refine Rn QSn ?_
          exact j1 _ _ ⟨rfl, ((hst.pk 5 [] rfl).facts (allT (allT allI)))⟩
      · have hr23 := someI gr23
        have c60 : ¬ r23 = true := fun h => Bool.false_ne_true (hr23.trans h)
        rw [if_neg c60] at gr24
        have hr24 := someI gr24
        have c61 : ¬ r24 = true := fun h => Bool.false_ne_true (hr24.trans h)
        rw [if_neg c61] at gr25
        have hr25 := someI gr25
        have c62 : ¬ r25 = true := fun h => Bool.false_ne_true (hr25.trans h)
        rw [if_neg c62] at gr26
        have hr26 := someI gr26
        have c63 : ¬ r26 = true := fun h => Bool.false_ne_true (hr26.trans h)
        rw [if_neg c63] at gr27
        have hr27 := someI gr27
        have c64 : ¬ r27 = true := fun h => Bool.false_ne_true (hr27.trans h)
        rw [if_neg c64] at gr28
        have hr28 := someI gr28
        refine wp_drawR [0, 1, 3, 7, 15, 31, 63, 127, 255, 255, 1023, 2047, 4095, 8191, 8191, 32767, 8191, 8191, 262143, 524287, 1048575, 2097151, 4194303, 4194303, 16777215, 4194303, 4194303, 134217727, 268435455, 536870911, 1073741823, 2147483647, 4294967295, 2147483647, 17179869183, 34359738367, 68719476735, 137438953471, 274877906943, 549755813887, 1099511627775] [1, 10, 15, 18, 19, 24, 27, 32, 34, 35, 38, 40] 12 folM (by kernel_rfl) (by kernel_rfl) (by kernel_rfl) ?_
        replace hst := hst.drew
        refine DRn (l1 := [0]) (l2 := []) (lc := [1]) (by kernel_rfl) (by kernel_rfl) (by kernel_rfl) ?_
        refine Ry rfl rfl wn (yLbs (us := [h11.v]) ST_27 (et rfl rfl) hst (mtR (mtR (mtR (mtR mhR)))) rfl rfl) ?_
        refine Rn QSn ?_
        refine Lc rfl ?_ LAn
        refine Lk wn (yCall FN_22 (a1 (et rfl rfl))) (graph_Check_ok (hM := gr22) (hst := hst) (q1 := (mtF mhF))) ?_
        clear hst
        rintro _ w ⟨rfl, hst⟩
        refine ⟨_, rfl, ?_⟩
        refine DRn (l1 := [2, 3, 4, 5, 6, 7, 8, 9]) (l2 := []) (lc := [10]) (by kernel_rfl) (by kernel_rfl) (by kernel_rfl) ?_
        refine Ry rfl rfl wn (yeql (et rfl rfl) rfl) ?_
        refine Ry rfl rfl wn (ym (v := .bool (decide (r22 = 0))) (et rfl rfl)) ?_
        refine Rx rfl rfl (wx rfl rfl rfl (decide_eq_false c30)) ?_
        refine Rx rfl rfl (wx rfl rfl rfl (decide_eq_false c30)) ?_
        refine Ry rfl rfl wn (ypf (v := .bool r23) (et rfl rfl) (decide_eq_false c30) (eqv hr23 rfl)) ?_
        refine Ry rfl rfl wn (ym (v := .bool r23) (et rfl rfl)) ?_
        refine Rx rfl rfl (wx rfl rfl rfl (bfalse c60)) ?_
        refine Rx rfl rfl (wx rfl rfl rfl (bfalse c60)) ?_
        refine Rn QSn ?_
        refine Lc rfl ?_ LAn
        refine Lx (wx rfl rfl rfl (bfalse c60)) ?_
        refine DRn (l1 := [11, 12, 13, 14, 16, 17]) (l2 := []) (lc := [15]) (by kernel_rfl) (by kernel_rfl) (by kernel_rfl) ?_
        refine Ry rfl rfl wn (ypf (v := .bool r24) (et rfl rfl) (bfalse c60) (eqv hr24 rfl)) ?_
        refine Ry rfl rfl wn (ym (v := .bool r24) (et rfl rfl)) ?_
        refine Rx rfl rfl (wx rfl rfl rfl (bfalse c61)) ?_
        refine Rx rfl rfl (wx rfl rfl rfl (bfalse c61)) ?_
        refine Rx rfl rfl (wx rfl rfl rfl (bfalse c61)) ?_
        refine Rx rfl rfl (wx rfl rfl rfl (bfalse c61)) ?_
        refine Rn QSn ?_
        refine Lc rfl ?_ LAn
        refine Lx (wx rfl rfl rfl (bfalse c61)) ?_
        refine DRn (l1 := []) (l2 := [16, 17]) (lc := [18]) (by kernel_rfl) (by kernel_rfl) (by kernel_rfl) ?_
        refine Rn (Sx_ rfl rfl (wx rfl rfl rfl (bfalse c61)) rfl (Sx_ rfl rfl (wx rfl rfl rfl (bfalse c61)) rfl QSn)) ?_
        refine Lc rfl ?_ LAn
        refine Lx (wx rfl rfl rfl (bfalse c61)) ?_
        refine DRn (l1 := []) (l2 := []) (lc := [19]) (by kernel_rfl) (by kernel_rfl) (by kernel_rfl) ?_
        refine Rn QSn ?_
        refine Lc rfl ?_ LAn
        refine Lx (wx rfl rfl rfl (bfalse c61)) ?_
        refine DRn (l1 := [20, 21, 22, 23, 25, 26]) (l2 := []) (lc := [24]) (by kernel_rfl) (by kernel_rfl) (by kernel_rfl) ?_
        refine Ry rfl rfl wn (ypf (v := .bool r25) (et rfl rfl) (bfalse c61) (eqv hr25 rfl)) ?_
        refine Ry rfl rfl wn (ym (v := .bool r25) (et rfl rfl)) ?_
        refine Rx rfl rfl (wx rfl rfl rfl (bfalse c62)) ?_
        refine Rx rfl rfl (wx rfl rfl rfl (bfalse c62)) ?_
        refine Rx rfl rfl (wx rfl rfl rfl (bfalse c62)) ?_
        refine Rx rfl rfl (wx rfl rfl rfl (bfalse c62)) ?_
        refine Rn QSn ?_
        refine Lc rfl ?_ LAn
        refine Lx (wx rfl rfl rfl (bfalse c62)) ?_
        refine DRn (l1 := []) (l2 := [25, 26]) (lc := [27]) (by kernel_rfl) (by kernel_rfl) (by kernel_rfl) ?_
        refine Rn (Sx_ rfl rfl (wx rfl rfl rfl (bfalse c62)) rfl (Sx_ rfl rfl (wx rfl rfl rfl (bfalse c62)) rfl QSn)) ?_
        refine Lc rfl ?_ LAn
        refine Lx (wx rfl rfl rfl (bfalse c62)) ?_
        refine DRn (l1 := [28, 29, 30, 31, 33]) (l2 := []) (lc := [32]) (by kernel_rfl) (by kernel_rfl) (by kernel_rfl) ?_
        refine Rx rfl rfl (wx rfl rfl rfl (bfalse c62)) ?_
        refine Ry rfl rfl wn (ypf (v := .bool r26) (et rfl rfl) (bfalse c62) (eqv hr26 rfl)) ?_
        refine Ry rfl rfl wn (ym (v := .bool r26) (et rfl rfl)) ?_
        refine Rx rfl rfl (wx rfl rfl rfl (bfalse c63)) ?_
        refine Rx rfl rfl (wx rfl rfl rfl (bfalse c63)) ?_
        refine Rn QSn ?_
        refine Lc rfl ?_ LAn
        refine Lx (wx rfl rfl rfl (bfalse c63)) ?_
        refine DRn (l1 := []) (l2 := [33]) (lc := [34]) (by kernel_rfl) (by kernel_rfl) (by kernel_rfl) ?_
        refine Rn (Sx_ rfl rfl (wx rfl rfl rfl (bfalse c63)) rfl QSn) ?_
        refine Lc rfl ?_ LAn
        refine Lx (wx rfl rfl rfl (bfalse c63)) ?_
        refine DRn (l1 := []) (l2 := []) (lc := [35]) (by kernel_rfl) (by kernel_rfl) (by kernel_rfl) ?_
        refine Rn QSn ?_
        refine Lc rfl ?_ LAn
        refine Lx (wx rfl rfl rfl (bfalse c63)) ?_
        refine DRn (l1 := [36, 37]) (l2 := []) (lc := [38]) (by kernel_rfl) (by kernel_rfl) (by kernel_rfl) ?_
        refine Ry rfl rfl wn (ypf (v := .bool r27) (et rfl rfl) (bfalse c63) (eqv hr27 rfl)) ?_
        refine Ry rfl rfl wn (ym (v := .bool r27) (et rfl rfl)) ?_
        refine Rn QSn ?_
        refine Lc rfl ?_ LAn
        refine Lx (wx rfl rfl rfl (bfalse c64)) ?_
        refine DRn (l1 := [39]) (l2 := []) (lc := [40]) (by kernel_rfl) (by kernel_rfl) (by kernel_rfl) ?_
        refine Ry rfl rfl wn (ypf (v := .bool r28) (et rfl rfl) (bfalse c64) (eqv hr28 rfl)) ?_
        refine Rn QSn ?_
        refine Lc rfl ?_ LAn
        refine Ly wn (ya (v := .bool r28) (et rfl rfl)) ?_
        refine DRz (l1 := []) (l2 := []) (by kernel_rfl) (by kernel_rfl) ?_
        refine Rn QSn ?_
        exact j1 _ _ ⟨rfl, ((hst.pk 5 [] rfl).facts (allT (allT allI)))⟩
    clear hst
    rintro f w ⟨e29_8, hst⟩
    refine k11 _ _ ?_
    refine wp_ret ?_
    obtain rfl := someI hM
    exact hQ _ _ _ (fin1r Try.results6 ⟨rfl, e29_8⟩ ⟨rfl, hst⟩)

theorem matrix_within_ok {w0 : World} {ros : List Fact} {rs : List Res} {w : World} {x1 : Int} {x2 : Int} {x3 : Int} {out : Bool} (hM : matrix_within x1 x2 x3 = some out) (hst : St w0 ros (rs) w) :
    Calls Try.prog 71 #[.int .i64 x1, .int .i64 x2, .int .i64 x3] w (fun e w => e = .returned (.bool out) ∧ St w0 (ros) (rs) w) := by
  refine enterQ Try.func71 rfl Try.ntmps71 rfl fun Q hQ => ?_
  refine seqQ fun Q1 k1 z1 => ?_
  refine wp_region_lit ?_
  refine Y wn rfl (ya (v := .bool false) rfl) ?_
  refine wpList_nil ?_
  refine k1 _ _ ?_
  refine seqQ fun Q2 k2 z2 => ?_
  refine wp_region_lit ?_
  refine Y wn rfl (ym (v := .int .i64 x1) (et rfl rfl)) ?_
  refine Y wn rfl (ym (v := .int .i64 x2) (et rfl rfl)) ?_
  refine Y wn rfl (ygeq (et rfl rfl) (et rfl rfl)) ?_
  refine Y wn rfl (ym (v := .bool (decide (x2 ≤ x1))) (et rfl rfl)) ?_
  refine joinW 4 (fun f w => f 14 = .bool ((decide (x2 ≤ x1)) && (decide (x1 ≤ x3))) ∧ St w0 (ros) (rs) w) (fun j1 => ?_) ?_
  · rcases Bool.eq_false_or_eq_true (decide (x2 ≤ x1)) with c5 | c5
    · refine Y (wg rfl rfl rfl c5) rfl (ym (v := .int .i64 x1) (et rfl rfl)) ?_
      refine Y (wg rfl rfl rfl c5) rfl (ym (v := .int .i64 x3) (et rfl rfl)) ?_
      refine Y (wg rfl rfl rfl c5) rfl (yleq (et rfl rfl) (et rfl rfl)) ?_
      refine Y wn rfl (ypt (v := .bool (decide (x1 ≤ x3))) (et rfl rfl) c5 (et rfl rfl)) ?_
      exact j1 _ _ ⟨(congrArg Value.bool (andT c5)), hst⟩
    · refine Gn (wx rfl rfl rfl c5) rfl ?_
      refine Gn (wx rfl rfl rfl c5) rfl ?_
      refine Gn (wx rfl rfl rfl c5) rfl ?_
      refine Y wn rfl (ypf (v := .bool false) (et rfl rfl) c5 rfl) ?_
      exact j1 _ _ ⟨(congrArg Value.bool (andF c5)), hst⟩
  clear hst
  rintro f w ⟨e4_14, hst⟩
  refine Y wn rfl (ya (v := .bool ((decide (x2 ≤ x1)) && (decide (x1 ≤ x3)))) (et rfl e4_14)) ?_
  refine wpList_nil ?_
  refine k2 _ _ ?_
  refine wp_ret ?_
  obtain rfl := someI hM
  exact hQ _ _ _ (fin1r Try.results71 ⟨rfl, rfl⟩ ⟨rfl, hst⟩)

theorem slices_IsSorted_int_ok {w0 : World} {ros : List Fact} {rs : List Res} {w : World} {x1 : List Int} {h2 : Hdr} {out : Bool} (hM : slices_IsSorted_int x1 = some out) (q1 : imm (rI .i64) h2.v x1 ∈ ros) (hst : St w0 ros (rs) w) :
    Calls Try.prog 93 #[h2.v] w (fun e w => e = .returned (.bool out) ∧ St w0 (ros) (rs) w) := by
  refine enterQ Try.func93 rfl Try.ntmps93 rfl fun Q hQ => ?_
  refine seqQ fun Q1 k1 z1 => ?_
  refine wp_region_lit ?_
  refine Y wn rfl (ya (v := .bool false) rfl) ?_
  refine wpList_nil ?_
  refine k1 _ _ ?_
  refine seqQ fun Q2 k2 z2 => ?_
  refine seqQ fun Q3 k3 z3 => ?_
  refine wp_region_lit ?_
  refine Y wn rfl (ym (v := h2.v) (et rfl rfl)) ?_
  refine Y wn rfl (yLen SL_22 (et rfl rfl) hst (rdI q1)) ?_
  refine Y wn rfl (ysub (et rfl rfl) rfl) ?_
  refine Y wn rfl (ya (v := .int .i64 (ws .i64 (x1.length : Int) 1)) (et rfl rfl)) ?_
  refine wpList_nil ?_
  refine k3 _ _ ?_
  refine blockQ fun Q4 qb4 => ?_
  obtain ⟨o1, go1, hM⟩ := bs hM
  have je1_0 : ∀ (f : Nat → Value) (w : World), St w0 (ros) (rs) w → .inl () = o1 → Q4 (.exit 0) (fr 21 f) w := by
    intro f w hst ho
    subst ho
    refine qb4 _ _ _ ?_
    refine k2 _ _ ?_
    refine seqQ fun Q17 k17 z17 => ?_
    refine wp_region_lit ?_
    refine Y wn rfl (ya (v := .bool true) rfl) ?_
    refine wpList_nil ?_
    refine k17 _ _ ?_
    refine wp_ret ?_
    obtain rfl := someI hM
    exact hQ _ _ _ (fin1r Try.results93 ⟨rfl, rfl⟩ ⟨rfl, hst⟩)
  have je1_1 : ∀ (f : Nat → Value) (w : World), f 2 = .bool false → St w0 (ros) (rs) w → .inr () = o1 → Q4 .ret (fr 21 f) w := by
    intro f w eje1_1_2 hst ho
    subst ho
    refine qb4 _ _ _ ?_
    refine z2 _ _ _ rfl ?_
    obtain rfl := someI hM
    exact hQ _ _ _ (fin1r Try.results93 ⟨rfl, eje1_1_2⟩ ⟨rfl, hst⟩)
  refine loopQ (fun s a w => ∃ (x8 : Int) (f : Nat → Value), x8 = s ∧ a = fr 21 f ∧ f 0 = h2.v ∧ f 3 = .int .i64 x8 ∧ St w0 (ros) (rs) w) go1 ⟨_, _, rfl, rfl, rfl, rfl, hst⟩ ?_
  clear hst
  rintro _ _ w r1_ ⟨x8, f, rfl, rfl, e1_0, e1_3, hst⟩ hM1 ho1 Q100001 n1 zz1
  refine seqQ fun Q18 k18 z18 => ?_
  refine seqQ fun Q19 k19 z19 => ?_
  refine wp_region_lit ?_
  refine Y wn rfl (ym (v := .int .i64 x8) (et rfl e1_3)) ?_
  refine Y wn rfl (ygtr (et rfl rfl) rfl) ?_
  refine wpList_nil ?_
  refine k19 _ _ ?_
  rcases iteS hM1 with ⟨c15, hM1⟩ | ⟨c15, hM1⟩
  · refine condT (et rfl rfl) (decide_eq_true c15) ?_
    refine wp_skip ?_
    refine k18 _ _ ?_
    refine seqQ fun Q20 k20 z20 => ?_
    refine blockQ fun Q21 qb21 => ?_
    refine seqQ fun Q22 k22 z22 => ?_
    obtain ⟨x16, gx16, hM1⟩ := bs hM1
    obtain ⟨x17, gx17, hM1⟩ := bs hM1
    obtain ⟨r18, gr18, hM1⟩ := bs hM1
    refine wp_drawR [0, 0, 3, 7, 0, 0, 32, 112, 240, 511] [9] 1 folM (by kernel_rfl) (by kernel_rfl) (by kernel_rfl) ?_
    replace hst := hst.drew
    refine DRn (l1 := [0, 1, 2, 3, 4, 5, 6, 7, 8]) (l2 := []) (lc := [9]) (by kernel_rfl) (by kernel_rfl) (by kernel_rfl) ?_
    refine Ry rfl rfl wn (ym (v := h2.v) (et rfl e1_0)) ?_
    refine Ry rfl rfl wn (ym (v := .int .i64 x8) (et rfl e1_3)) ?_
    refine Ry rfl rfl wn (yIa SL_22 (et rfl rfl) (et rfl rfl) hst (rdI q1) gx16) ?_
    refine Ry rfl rfl wn (yI O_3 (et rfl rfl) hst (rdI q1) gx16) ?_
    refine Ry rfl rfl wn (ym (v := h2.v) (et rfl e1_0)) ?_
    refine Ry rfl rfl wn (ym (v := .int .i64 x8) (et rfl e1_3)) ?_
    refine Ry rfl rfl wn (ysub (et rfl rfl) rfl) ?_
    refine Ry rfl rfl wn (yIa SL_22 (et rfl rfl) (et rfl rfl) hst (rdI q1) gx17) ?_
    refine Ry rfl rfl wn (yI O_3 (et rfl rfl) hst (rdI q1) gx17) ?_
    refine Rn QSn ?_
    refine Lc rfl ?_ LAn
    refine Lk wn (yCall FN_85 (a2 (et rfl rfl) (et rfl rfl))) (cmp_Less_int_ok (hM := gr18) (hst := hst) ) ?_
    clear hst
    rintro _ w ⟨rfl, hst⟩
    refine ⟨_, rfl, ?_⟩
    refine DRz (l1 := []) (l2 := []) (by kernel_rfl) (by kernel_rfl) ?_
    refine Rn QSn ?_
    refine k22 _ _ ?_
    rcases iteS hM1 with ⟨c19, hM1⟩ | ⟨c19, hM1⟩
    · refine condT (et rfl rfl) c19 ?_
      refine seqQ fun Q23 k23 z23 => ?_
      refine wp_region_lit ?_
      refine Y wn rfl (ya (v := .bool false) rfl) ?_
      refine wpList_nil ?_
      refine k23 _ _ ?_
      refine wp_ret ?_
      refine qb21 _ _ _ ?_
      refine z20 _ _ _ rfl ?_
      obtain rfl := someI hM1
      refine zz1 _ _ _ _ rfl rfl ?_
      exact je1_1 _ _ rfl hst (ho1 _ rfl)
    · refine condF (et rfl rfl) (bfalse c19) ?_
      refine wp_skip ?_
      refine qb21 _ _ _ ?_
      refine k20 _ _ ?_
      refine wp_region_lit ?_
      refine Y wn rfl (ym (v := .int .i64 x8) (et rfl e1_3)) ?_
      refine Y wn rfl (ysub (et rfl rfl) rfl) ?_
      refine Y wn rfl (ya (v := .int .i64 (ws .i64 x8 1)) (et rfl rfl)) ?_
      refine wpList_nil ?_
      obtain rfl := someI hM1
      exact n1 _ _ _ rfl ⟨_, _, rfl, rfl, e1_0, rfl, hst⟩
  · refine condF (et rfl rfl) (decide_eq_false c15) ?_
    refine wp_exit ?_
    refine z18 _ _ _ rfl ?_
    obtain rfl := someI hM1
    refine zz1 _ _ _ _ rfl rfl ?_
    exact je1_0 _ _ hst (ho1 _ rfl)

theorem matrix_columns_ok {w0 : World} {ros : List Fact} {rs : List Res} {w : World} {x1 : Int} {x2 : Int} {x3 : List Int} {x5 : List Int} {x7 : List Int} {h4 : Hdr} {h6 : Hdr} {h8 : Hdr} {out : Bool} (hM : matrix_columns x1 x2 x3 x5 x7 = some out) (q1 : imm (rI .i64) h4.v x3 ∈ ros) (q2 : imm (rI .i64) h6.v x5 ∈ ros) (q3 : imm (rI .u64) h8.v x7 ∈ ros) (hst : St w0 ros (rs) w) :
    Calls Try.prog 72 #[.agg #[.int .i64 x1, .int .i64 x2, h4.v, h6.v, h8.v]] w (fun e w => e = .returned (.bool out) ∧ St w0 (ros) (rs) w) := by
  refine enterQ Try.func72 rfl Try.ntmps72 rfl fun Q hQ => ?_
  refine seqQ fun Q1 k1 z1 => ?_
  refine wp_region_lit ?_
  refine YB wn rfl (r_box (vals := [.int .i64 x1, .int .i64 x2, h4.v, h6.v, h8.v]) hst (et rfl rfl) rfl) ?_
  clear hst
  intro b9 w hst
  refine Y wn rfl (ya (v := .bool false) rfl) ?_
  refine wpList_nil ?_
  refine k1 _ _ ?_
  refine seqQ fun Q2 k2 z2 => ?_
  refine seqQ fun Q3 k3 z3 => ?_
  obtain ⟨r10, gr10, hM⟩ := bs hM
  obtain ⟨r11, gr11, hM⟩ := bs hM
  obtain ⟨r12, gr12, hM⟩ := bs hM
  obtain ⟨r13, gr13, hM⟩ := bs hM
  refine joinN (n := 84) (fun f w => f 1 = .pointer (some ⟨b9, 0, none⟩) ∧ f 47 = .bool r13 ∧ St w0 (ros) (box b9 49 [.int .i64 x1, .int .i64 x2, h4.v, h6.v, h8.v] :: rs) w) (fun j1 => ?_) ?_
  · rcases iteS gr10 with ⟨c15, gr10⟩ | ⟨c15, gr10⟩
    · obtain ⟨x16, gx16, gr10⟩ := bs gr10
      have hr2 := someI gr10
      rcases iteS gr11 with ⟨c17, gr11⟩ | ⟨c17, gr11⟩
      · have hr3 := someI gr11
        have c18 : r11 = true := hr3.symm
        rw [if_pos c18] at gr12
        have hr4 := someI gr12
        have c19 : r12 = true := hr4.symm
        rw [if_pos c19] at gr13
        have hr5 := someI gr13
        refine wp_drawR [0, 1, 3, 0, 8, 24, 63, 127, 255, 511, 1023, 2047, 4095, 8191, 16383, 32767, 65535, 131071, 262143, 524287, 1048575, 2097151, 4194303, 2097151, 10485759, 33554431, 67108863, 2097151, 136314879, 404750335, 1073741823, 2147483647, 4294967295, 8589934591, 17179869183, 34359738367, 8589934591, 77309411327, 214748364799, 549755813887, 1099511627775] [17] 1 folM (by kernel_rfl) (by kernel_rfl) (by kernel_rfl) ?_
        replace hst := hst.drew
        refine DRn (l1 := [0, 1, 2, 3, 4, 5, 6, 7, 8, 9, 10, 11, 12, 13, 14, 15, 16]) (l2 := []) (lc := [17]) (by kernel_rfl) (by kernel_rfl) (by kernel_rfl) ?_
        refine Ry rfl rfl wn (yFb FL_49_2 (et rfl rfl)) ?_
        refine Ry rfl rfl wn (yLb (u := h4.v) O_22 (et rfl rfl) hst mhR rfl) ?_
        refine Ry rfl rfl wn (yLen SL_22 (et rfl rfl) hst (rdI q1)) ?_
        refine Ry rfl rfl wn (yFb FL_49_1 (et rfl rfl)) ?_
        refine Ry rfl rfl wn (yLb (u := .int .i64 x2) O_3 (et rfl rfl) hst mhR rfl) ?_
        refine Ry rfl rfl wn (yadd (et rfl rfl) rfl) ?_
        refine Ry rfl rfl wn (yneq (et rfl rfl) (et rfl rfl)) ?_
        refine Ry rfl rfl wn (ym (v := .bool (!(decide ((x3.length : Int) = (wa .i64 x2 1))))) (et rfl rfl)) ?_
        refine Ry rfl rfl (wg rfl rfl rfl (nF (decide_eq_true c15))) (yFb FL_49_2 (et rfl rfl)) ?_
        refine Ry rfl rfl (wg rfl rfl rfl (nF (decide_eq_true c15))) (yLb (u := h4.v) O_22 (et rfl rfl) hst mhR rfl) ?_
        refine Ry rfl rfl (wg rfl rfl rfl (nF (decide_eq_true c15))) (yIa SL_22 (et rfl rfl) rfl hst (rdI q1) gx16) ?_
        refine Ry rfl rfl (wg rfl rfl rfl (nF (decide_eq_true c15))) (yI O_3 (et rfl rfl) hst (rdI q1) gx16) ?_
        refine Ry rfl rfl (wg rfl rfl rfl (nF (decide_eq_true c15))) (yneq (et rfl rfl) rfl) ?_
        refine Ry rfl rfl wn (ypf (v := .bool r10) (et rfl rfl) (nF (decide_eq_true c15)) (eqv hr2 (et rfl rfl))) ?_
        refine Ry rfl rfl wn (ym (v := .bool r10) (et rfl rfl)) ?_
        refine Rx rfl rfl (wx rfl rfl rfl c17) ?_
        refine Rx rfl rfl (wx rfl rfl rfl c17) ?_
        refine Rn QSn ?_
        refine Lc rfl ?_ LAn
        refine Lx (wx rfl rfl rfl c17) ?_
        refine DRz (l1 := [18, 19, 20, 21, 22, 23, 24, 25, 26, 27, 28, 29, 30, 31, 32, 33, 34, 35, 36, 37, 38, 39, 40]) (l2 := []) (by kernel_rfl) (by kernel_rfl) ?_
        refine Rx rfl rfl (wx rfl rfl rfl c17) ?_
        refine Ry rfl rfl wn (ypt (v := .bool r11) (et rfl rfl) c17 (eqv hr3 rfl)) ?_
        refine Ry rfl rfl wn (ym (v := .bool r11) (et rfl rfl)) ?_
        refine Rx rfl rfl (wx rfl rfl rfl c18) ?_
        refine Rx rfl rfl (wx rfl rfl rfl c18) ?_
        refine Rx rfl rfl (wx rfl rfl rfl c18) ?_
        refine Rx rfl rfl (wx rfl rfl rfl c18) ?_
        refine Rx rfl rfl (wx rfl rfl rfl c18) ?_
        refine Rx rfl rfl (wx rfl rfl rfl c18) ?_
        refine Rx rfl rfl (wx rfl rfl rfl c18) ?_
        refine Rx rfl rfl (wx rfl rfl rfl c18) ?_
        refine Rx rfl rfl (wx rfl rfl rfl c18) ?_
        refine Rx rfl rfl (wx rfl rfl rfl c18) ?_
        refine Ry rfl rfl wn (ypt (v := .bool r12) (et rfl rfl) c18 (eqv hr4 rfl)) ?_
        refine Ry rfl rfl wn (ym (v := .bool r12) (et rfl rfl)) ?_
        refine Rx rfl rfl (wx rfl rfl rfl c19) ?_
        refine Rx rfl rfl (wx rfl rfl rfl c19) ?_
        refine Rx rfl rfl (wx rfl rfl rfl c19) ?_
        refine Rx rfl rfl (wx rfl rfl rfl c19) ?_
        refine Rx rfl rfl (wx rfl rfl rfl c19) ?_
        refine Rx rfl rfl (wx rfl rfl rfl c19) ?_
        refine Rx rfl rfl (wx rfl rfl rfl c19) ?_
        refine Ry rfl rfl wn (ypt (v := .bool r13) (et rfl rfl) c19 (eqv hr5 rfl)) ?_
        refine Rn QSn ?_
        exact j1 _ _ ⟨rfl, rfl, hst⟩
      · obtain ⟨r20, gr20, gr11⟩ := bs gr11
        have hr6 := someI gr11
        rcases iteS gr12 with ⟨c21, gr12⟩ | ⟨c21, gr12⟩
        · have hr7 := someI gr12
          have c22 : r12 = true := hr7.symm
          rw [if_pos c22] at gr13
          have hr8 := someI gr13
          refine wp_drawR [0, 1, 3, 0, 8, 24, 63, 127, 255, 511, 1023, 2047, 4095, 8191, 16383, 32767, 65535, 131071, 262143, 524287, 1048575, 2097151, 4194303, 2097151, 10485759, 33554431, 67108863, 2097151, 136314879, 404750335, 1073741823, 2147483647, 4294967295, 8589934591, 17179869183, 34359738367, 8589934591, 77309411327, 214748364799, 549755813887, 1099511627775] [17] 1 folM (by kernel_rfl) (by kernel_rfl) (by kernel_rfl) ?_
          replace hst := hst.drew
          refine DRn (l1 := [0, 1, 2, 3, 4, 5, 6, 7, 8, 9, 10, 11, 12, 13, 14, 15, 16]) (l2 := []) (lc := [17]) (by kernel_rfl) (by kernel_rfl) (by kernel_rfl) ?_
          refine Ry rfl rfl wn (yFb FL_49_2 (et rfl rfl)) ?_
          refine Ry rfl rfl wn (yLb (u := h4.v) O_22 (et rfl rfl) hst mhR rfl) ?_
          refine Ry rfl rfl wn (yLen SL_22 (et rfl rfl) hst (rdI q1)) ?_
          refine Ry rfl rfl wn (yFb FL_49_1 (et rfl rfl)) ?_
          refine Ry rfl rfl wn (yLb (u := .int .i64 x2) O_3 (et rfl rfl) hst mhR rfl) ?_
          refine Ry rfl rfl wn (yadd (et rfl rfl) rfl) ?_
          refine Ry rfl rfl wn (yneq (et rfl rfl) (et rfl rfl)) ?_
          refine Ry rfl rfl wn (ym (v := .bool (!(decide ((x3.length : Int) = (wa .i64 x2 1))))) (et rfl rfl)) ?_
          refine Ry rfl rfl (wg rfl rfl rfl (nF (decide_eq_true c15))) (yFb FL_49_2 (et rfl rfl)) ?_
          refine Ry rfl rfl (wg rfl rfl rfl (nF (decide_eq_true c15))) (yLb (u := h4.v) O_22 (et rfl rfl) hst mhR rfl) ?_
          refine Ry rfl rfl (wg rfl rfl rfl (nF (decide_eq_true c15))) (yIa SL_22 (et rfl rfl) rfl hst (rdI q1) gx16) ?_
          refine Ry rfl rfl (wg rfl rfl rfl (nF (decide_eq_true c15))) (yI O_3 (et rfl rfl) hst (rdI q1) gx16) ?_
          refine Ry rfl rfl (wg rfl rfl rfl (nF (decide_eq_true c15))) (yneq (et rfl rfl) rfl) ?_
          refine Ry rfl rfl wn (ypf (v := .bool r10) (et rfl rfl) (nF (decide_eq_true c15)) (eqv hr2 (et rfl rfl))) ?_
          refine Ry rfl rfl wn (ym (v := .bool r10) (et rfl rfl)) ?_
          refine Ry rfl rfl (wg rfl rfl rfl (bfalse c17)) (yFb FL_49_2 (et rfl rfl)) ?_
          refine Ry rfl rfl (wg rfl rfl rfl (bfalse c17)) (yLb (u := h4.v) O_22 (et rfl rfl) hst mhR rfl) ?_
          refine Rn QSn ?_
          refine Lc rfl ?_ LAn
          refine Lk (wg rfl rfl rfl (bfalse c17)) (yCall FN_93 (a1 (et rfl rfl))) (slices_IsSorted_int_ok (hM := gr20) (hst := hst) (q1 := q1)) ?_
          clear hst
          rintro _ w ⟨rfl, hst⟩
          refine ⟨_, rfl, ?_⟩
          refine DRz (l1 := [18, 19, 20, 21, 22, 23, 24, 25, 26, 27, 28, 29, 30, 31, 32, 33, 34, 35, 36, 37, 38, 39, 40]) (l2 := []) (by kernel_rfl) (by kernel_rfl) ?_
          refine Ry rfl rfl (wg rfl rfl rfl (bfalse c17)) (ynot (et rfl rfl)) ?_
          refine Ry rfl rfl wn (ypf (v := .bool r11) (et rfl rfl) (bfalse c17) (eqv hr6 (et rfl rfl))) ?_
          refine Ry rfl rfl wn (ym (v := .bool r11) (et rfl rfl)) ?_
          refine Rx rfl rfl (wx rfl rfl rfl c21) ?_
          refine Rx rfl rfl (wx rfl rfl rfl c21) ?_
          refine Rx rfl rfl (wx rfl rfl rfl c21) ?_
          refine Rx rfl rfl (wx rfl rfl rfl c21) ?_
          refine Rx rfl rfl (wx rfl rfl rfl c21) ?_
          refine Rx rfl rfl (wx rfl rfl rfl c21) ?_
          refine Rx rfl rfl (wx rfl rfl rfl c21) ?_
          refine Rx rfl rfl (wx rfl rfl rfl c21) ?_
          refine Rx rfl rfl (wx rfl rfl rfl c21) ?_
          refine Rx rfl rfl (wx rfl rfl rfl c21) ?_
          refine Ry rfl rfl wn (ypt (v := .bool r12) (et rfl rfl) c21 (eqv hr7 rfl)) ?_
          refine Ry rfl rfl wn (ym (v := .bool r12) (et rfl rfl)) ?_
          refine Rx rfl rfl (wx rfl rfl rfl c22) ?_
          refine Rx rfl rfl (wx rfl rfl rfl c22) ?_
          refine Rx rfl rfl (wx rfl rfl rfl c22) ?_
          refine Rx rfl rfl (wx rfl rfl rfl c22) ?_
          refine Rx rfl rfl (wx rfl rfl rfl c22) ?_
          refine Rx rfl rfl (wx rfl rfl rfl c22) ?_
          refine Rx rfl rfl (wx rfl rfl rfl c22) ?_
          refine Ry rfl rfl wn (ypt (v := .bool r13) (et rfl rfl) c22 (eqv hr8 rfl)) ?_
          refine Rn QSn ?_
          exact j1 _ _ ⟨rfl, rfl, hst⟩
        · obtain ⟨x23, gx23, gr12⟩ := bs gr12
          have hr9 := someI gr12
          rcases iteS gr13 with ⟨c24, gr13⟩ | ⟨c24, gr13⟩
          · have hr10 := someI gr13
            refine wp_drawR [0, 1, 3, 0, 8, 24, 63, 127, 255, 511, 1023, 2047, 4095, 8191, 16383, 32767, 65535, 131071, 262143, 524287, 1048575, 2097151, 4194303, 2097151, 10485759, 33554431, 67108863, 2097151, 136314879, 404750335, 1073741823, 2147483647, 4294967295, 8589934591, 17179869183, 34359738367, 8589934591, 77309411327, 214748364799, 549755813887, 1099511627775] [17] 1 folM (by kernel_rfl) (by kernel_rfl) (by kernel_rfl) ?_
            replace hst := hst.drew
            refine DRn (l1 := [0, 1, 2, 3, 4, 5, 6, 7, 8, 9, 10, 11, 12, 13, 14, 15, 16]) (l2 := []) (lc := [17]) (by kernel_rfl) (by kernel_rfl) (by kernel_rfl) ?_
            refine Ry rfl rfl wn (yFb FL_49_2 (et rfl rfl)) ?_
            refine Ry rfl rfl wn (yLb (u := h4.v) O_22 (et rfl rfl) hst mhR rfl) ?_
            refine Ry rfl rfl wn (yLen SL_22 (et rfl rfl) hst (rdI q1)) ?_
            refine Ry rfl rfl wn (yFb FL_49_1 (et rfl rfl)) ?_
            refine Ry rfl rfl wn (yLb (u := .int .i64 x2) O_3 (et rfl rfl) hst mhR rfl) ?_
            refine Ry rfl rfl wn (yadd (et rfl rfl) rfl) ?_
            refine Ry rfl rfl wn (yneq (et rfl rfl) (et rfl rfl)) ?_
            refine Ry rfl rfl wn (ym (v := .bool (!(decide ((x3.length : Int) = (wa .i64 x2 1))))) (et rfl rfl)) ?_
            refine Ry rfl rfl (wg rfl rfl rfl (nF (decide_eq_true c15))) (yFb FL_49_2 (et rfl rfl)) ?_
            refine Ry rfl rfl (wg rfl rfl rfl (nF (decide_eq_true c15))) (yLb (u := h4.v) O_22 (et rfl rfl) hst mhR rfl) ?_
            refine Ry rfl rfl (wg rfl rfl rfl (nF (decide_eq_true c15))) (yIa SL_22 (et rfl rfl) rfl hst (rdI q1) gx16) ?_
            refine Ry rfl rfl (wg rfl rfl rfl (nF (decide_eq_true c15))) (yI O_3 (et rfl rfl) hst (rdI q1) gx16) ?_
            refine Ry rfl rfl (wg rfl rfl rfl (nF (decide_eq_true c15))) (yneq (et rfl rfl) rfl) ?_
            refine Ry rfl rfl wn (ypf (v := .bool r10) (et rfl rfl) (nF (decide_eq_true c15)) (eqv hr2 (et rfl rfl))) ?_
            refine Ry rfl rfl wn (ym (v := .bool r10) (et rfl rfl)) ?_
            refine Ry rfl rfl (wg rfl rfl rfl (bfalse c17)) (yFb FL_49_2 (et rfl rfl)) ?_
            refine Ry rfl rfl (wg rfl rfl rfl (bfalse c17)) (yLb (u := h4.v) O_22 (et rfl rfl) hst mhR rfl) ?_
            refine Rn QSn ?_
            refine Lc rfl ?_ LAn
            refine Lk (wg rfl rfl rfl (bfalse c17)) (yCall FN_93 (a1 (et rfl rfl))) (slices_IsSorted_int_ok (hM := gr20) (hst := hst) (q1 := q1)) ?_
            clear hst
            rintro _ w ⟨rfl, hst⟩
            refine ⟨_, rfl, ?_⟩
            refine DRz (l1 := [18, 19, 20, 21, 22, 23, 24, 25, 26, 27, 28, 29, 30, 31, 32, 33, 34, 35, 36, 37, 38, 39, 40]) (l2 := []) (by kernel_rfl) (by kernel_rfl) ?_
            refine Ry rfl rfl (wg rfl rfl rfl (bfalse c17)) (ynot (et rfl rfl)) ?_
            refine Ry rfl rfl wn (ypf (v := .bool r11) (et rfl rfl) (bfalse c17) (eqv hr6 (et rfl rfl))) ?_
            refine Ry rfl rfl wn (ym (v := .bool r11) (et rfl rfl)) ?_
            refine Ry rfl rfl (wg rfl rfl rfl (bfalse c21)) (yFb FL_49_2 (et rfl rfl)) ?_
            refine Ry rfl rfl (wg rfl rfl rfl (bfalse c21)) (yLb (u := h4.v) O_22 (et rfl rfl) hst mhR rfl) ?_
            refine Ry rfl rfl (wg rfl rfl rfl (bfalse c21)) (yFb FL_49_1 (et rfl rfl)) ?_
            refine Ry rfl rfl (wg rfl rfl rfl (bfalse c21)) (yLb (u := .int .i64 x2) O_3 (et rfl rfl) hst mhR rfl) ?_
            refine Ry rfl rfl (wg rfl rfl rfl (bfalse c21)) (yIa SL_22 (et rfl rfl) (et rfl rfl) hst (rdI q1) gx23) ?_
            refine Ry rfl rfl (wg rfl rfl rfl (bfalse c21)) (yI O_3 (et rfl rfl) hst (rdI q1) gx23) ?_
            refine Ry rfl rfl (wg rfl rfl rfl (bfalse c21)) (yFb FL_49_3 (et rfl rfl)) ?_
            refine Ry rfl rfl (wg rfl rfl rfl (bfalse c21)) (yLb (u := h6.v) O_22 (et rfl rfl) hst mhR rfl) ?_
            refine Ry rfl rfl (wg rfl rfl rfl (bfalse c21)) (yLen SL_22 (et rfl rfl) hst (rdI q2)) ?_
            refine Ry rfl rfl (wg rfl rfl rfl (bfalse c21)) (yneq (et rfl rfl) (et rfl rfl)) ?_
            refine Ry rfl rfl wn (ypf (v := .bool r12) (et rfl rfl) (bfalse c21) (eqv hr9 (et rfl rfl))) ?_
            refine Ry rfl rfl wn (ym (v := .bool r12) (et rfl rfl)) ?_
            refine Rx rfl rfl (wx rfl rfl rfl c24) ?_
            refine Rx rfl rfl (wx rfl rfl rfl c24) ?_
            refine Rx rfl rfl (wx rfl rfl rfl c24) ?_
            refine Rx rfl rfl (wx rfl rfl rfl c24) ?_
            refine Rx rfl rfl (wx rfl rfl rfl c24) ?_
            refine Rx rfl rfl (wx rfl rfl rfl c24) ?_
            refine Rx rfl rfl (wx rfl rfl rfl c24) ?_
            refine Ry rfl rfl wn (ypt (v := .bool r13) (et rfl rfl) c24 (eqv hr10 rfl)) ?_
            refine Rn QSn ?_
            exact j1 _ _ ⟨rfl, rfl, hst⟩
          · have hr11 := someI gr13
            refine wp_drawR [0, 1, 3, 0, 8, 24, 63, 127, 255, 511, 1023, 2047, 4095, 8191, 16383, 32767, 65535, 131071, 262143, 524287, 1048575, 2097151, 4194303, 2097151, 10485759, 33554431, 67108863, 2097151, 136314879, 404750335, 1073741823, 2147483647, 4294967295, 8589934591, 17179869183, 34359738367, 8589934591, 77309411327, 214748364799, 549755813887, 1099511627775] [17] 1 folM (by kernel_rfl) (by kernel_rfl) (by kernel_rfl) ?_
            replace hst := hst.drew
            refine DRn (l1 := [0, 1, 2, 3, 4, 5, 6, 7, 8, 9, 10, 11, 12, 13, 14, 15, 16]) (l2 := []) (lc := [17]) (by kernel_rfl) (by kernel_rfl) (by kernel_rfl) ?_
            refine Ry rfl rfl wn (yFb FL_49_2 (et rfl rfl)) ?_
            refine Ry rfl rfl wn (yLb (u := h4.v) O_22 (et rfl rfl) hst mhR rfl) ?_
            refine Ry rfl rfl wn (yLen SL_22 (et rfl rfl) hst (rdI q1)) ?_
            refine Ry rfl rfl wn (yFb FL_49_1 (et rfl rfl)) ?_
            refine Ry rfl rfl wn (yLb (u := .int .i64 x2) O_3 (et rfl rfl) hst mhR rfl) ?_
            refine Ry rfl rfl wn (yadd (et rfl rfl) rfl) ?_
            refine Ry rfl rfl wn (yneq (et rfl rfl) (et rfl rfl)) ?_
            refine Ry rfl rfl wn (ym (v := .bool (!(decide ((x3.length : Int) = (wa .i64 x2 1))))) (et rfl rfl)) ?_
            refine Ry rfl rfl (wg rfl rfl rfl (nF (decide_eq_true c15))) (yFb FL_49_2 (et rfl rfl)) ?_
            refine Ry rfl rfl (wg rfl rfl rfl (nF (decide_eq_true c15))) (yLb (u := h4.v) O_22 (et rfl rfl) hst mhR rfl) ?_
            refine Ry rfl rfl (wg rfl rfl rfl (nF (decide_eq_true c15))) (yIa SL_22 (et rfl rfl) rfl hst (rdI q1) gx16) ?_
            refine Ry rfl rfl (wg rfl rfl rfl (nF (decide_eq_true c15))) (yI O_3 (et rfl rfl) hst (rdI q1) gx16) ?_
            refine Ry rfl rfl (wg rfl rfl rfl (nF (decide_eq_true c15))) (yneq (et rfl rfl) rfl) ?_
            refine Ry rfl rfl wn (ypf (v := .bool r10) (et rfl rfl) (nF (decide_eq_true c15)) (eqv hr2 (et rfl rfl))) ?_
            refine Ry rfl rfl wn (ym (v := .bool r10) (et rfl rfl)) ?_
            refine Ry rfl rfl (wg rfl rfl rfl (bfalse c17)) (yFb FL_49_2 (et rfl rfl)) ?_
            refine Ry rfl rfl (wg rfl rfl rfl (bfalse c17)) (yLb (u := h4.v) O_22 (et rfl rfl) hst mhR rfl) ?_
            refine Rn QSn ?_
            refine Lc rfl ?_ LAn
            refine Lk (wg rfl rfl rfl (bfalse c17)) (yCall FN_93 (a1 (et rfl rfl))) (slices_IsSorted_int_ok (hM := gr20) (hst := hst) (q1 := q1)) ?_
            clear hst
            rintro _ w ⟨rfl, hst⟩
            refine ⟨_, rfl, ?_⟩
            refine DRz (l1 := [18, 19, 20, 21, 22, 23, 24, 25, 26, 27, 28, 29, 30, 31, 32, 33, 34, 35, 36, 37, 38, 39, 40]) (l2 := []) (by kernel_rfl) (by kernel_rfl) ?_
            refine Ry rfl rfl (wg rfl rfl rfl (bfalse c17)) (ynot (et rfl rfl)) ?_
            refine Ry rfl rfl wn (ypf (v := .bool r11) (et rfl rfl) (bfalse c17) (eqv hr6 (et rfl rfl))) ?_
            refine Ry rfl rfl wn (ym (v := .bool r11) (et rfl rfl)) ?_
            refine Ry rfl rfl (wg rfl rfl rfl (bfalse c21)) (yFb FL_49_2 (et rfl rfl)) ?_
            refine Ry rfl rfl (wg rfl rfl rfl (bfalse c21)) (yLb (u := h4.v) O_22 (et rfl rfl) hst mhR rfl) ?_
            refine Ry rfl rfl (wg rfl rfl rfl (bfalse c21)) (yFb FL_49_1 (et rfl rfl)) ?_
            refine Ry rfl rfl (wg rfl rfl rfl (bfalse c21)) (yLb (u := .int .i64 x2) O_3 (et rfl rfl) hst mhR rfl) ?_
            refine Ry rfl rfl (wg rfl rfl rfl (bfalse c21)) (yIa SL_22 (et rfl rfl) (et rfl rfl) hst (rdI q1) gx23) ?_
            refine Ry rfl rfl (wg rfl rfl rfl (bfalse c21)) (yI O_3 (et rfl rfl) hst (rdI q1) gx23) ?_
            refine Ry rfl rfl (wg rfl rfl rfl (bfalse c21)) (yFb FL_49_3 (et rfl rfl)) ?_
            refine Ry rfl rfl (wg rfl rfl rfl (bfalse c21)) (yLb (u := h6.v) O_22 (et rfl rfl) hst mhR rfl) ?_
            refine Ry rfl rfl (wg rfl rfl rfl (bfalse c21)) (yLen SL_22 (et rfl rfl) hst (rdI q2)) ?_
            refine Ry rfl rfl (wg rfl rfl rfl (bfalse c21)) (yneq (et rfl rfl) (et rfl rfl)) ?_
            refine Ry rfl rfl wn (ypf (v := .bool r12) (et rfl rfl) (bfalse c21) (eqv hr9 (et rfl rfl))) ?_
            refine Ry rfl rfl wn (ym (v := .bool r12) (et rfl rfl)) ?_
            refine Ry rfl rfl (wg rfl rfl rfl (bfalse c24)) (yFb FL_49_3 (et rfl rfl)) ?_
            refine Ry rfl rfl (wg rfl rfl rfl (bfalse c24)) (yLb (u := h6.v) O_22 (et rfl rfl) hst mhR rfl) ?_
            refine Ry rfl rfl (wg rfl rfl rfl (bfalse c24)) (yLen SL_22 (et rfl rfl) hst (rdI q2)) ?_
            refine Ry rfl rfl (wg rfl rfl rfl (bfalse c24)) (yFb FL_49_4 (et rfl rfl)) ?_
            refine Ry rfl rfl (wg rfl rfl rfl (bfalse c24)) (yLb (u := h8.v) O_47 (et rfl rfl) hst mhR rfl) ?_
            refine Ry rfl rfl (wg rfl rfl rfl (bfalse c24)) (yLen SL_47 (et rfl rfl) hst (rdI q3)) ?_
            refine Ry rfl rfl (wg rfl rfl rfl (bfalse c24)) (yneq (et rfl rfl) (et rfl rfl)) ?_
            refine Ry rfl rfl wn (ypf (v := .bool r13) (et rfl rfl) (bfalse c24) (eqv hr11 (et rfl rfl))) ?_
            refine Rn QSn ?_
            exact j1 _ _ ⟨rfl, rfl, hst⟩
    · have hr12 := someI gr10
      have c25 : r10 = true := hr12.symm
      rw [if_pos c25] at gr11
      have hr13 := someI gr11
      have c26 : r11 = true := hr13.symm
      rw [if_pos c26] at gr12
      have hr14 := someI gr12
      have c27 : r12 = true := hr14.symm
      rw [if_pos c27] at gr13
      have hr15 := someI gr13
      refine wp_drawR [0, 1, 3, 0, 8, 24, 63, 127, 255, 511, 1023, 2047, 4095, 8191, 16383, 32767, 65535, 131071, 262143, 524287, 1048575, 2097151, 4194303, 2097151, 10485759, 33554431, 67108863, 2097151, 136314879, 404750335, 1073741823, 2147483647, 4294967295, 8589934591, 17179869183, 34359738367, 8589934591, 77309411327, 214748364799, 549755813887, 1099511627775] [17] 1 folM (by kernel_rfl) (by kernel_rfl) (by kernel_rfl) ?_
      replace hst := hst.drew
      refine DRn (l1 := [0, 1, 2, 3, 4, 5, 6, 7, 8, 9, 10, 11, 12, 13, 14, 15, 16]) (l2 := []) (lc := [17]) (by kernel_rfl) (by kernel_rfl) (by kernel_rfl) ?_
      refine Ry rfl rfl wn (yFb FL_49_2 (et rfl rfl)) ?_
      refine Ry rfl rfl wn (yLb (u := h4.v) O_22 (et rfl rfl) hst mhR rfl) ?_
      refine Ry rfl rfl wn (yLen SL_22 (et rfl rfl) hst (rdI q1)) ?_
      refine Ry rfl rfl wn (yFb FL_49_1 (et rfl rfl)) ?_
      refine Ry rfl rfl wn (yLb (u := .int .i64 x2) O_3 (et rfl rfl) hst mhR rfl) ?_
      refine Ry rfl rfl wn (yadd (et rfl rfl) rfl) ?_
      refine Ry rfl rfl wn (yneq (et rfl rfl) (et rfl rfl)) ?_
      refine Ry rfl rfl wn (ym (v := .bool (!(decide ((x3.length : Int) = (wa .i64 x2 1))))) (et rfl rfl)) ?_
      refine Rx rfl rfl (wx rfl rfl rfl (nT (decide_eq_false c15))) ?_
      refine Rx rfl rfl (wx rfl rfl rfl (nT (decide_eq_false c15))) ?_
      refine Rx rfl rfl (wx rfl rfl rfl (nT (decide_eq_false c15))) ?_
      refine Rx rfl rfl (wx rfl rfl rfl (nT (decide_eq_false c15))) ?_
      refine Rx rfl rfl (wx rfl rfl rfl (nT (decide_eq_false c15))) ?_
      refine Ry rfl rfl wn (ypt (v := .bool r10) (et rfl rfl) (nT (decide_eq_false c15)) (eqv hr12 rfl)) ?_
      refine Ry rfl rfl wn (ym (v := .bool r10) (et rfl rfl)) ?_
      refine Rx rfl rfl (wx rfl rfl rfl c25) ?_
      refine Rx rfl rfl (wx rfl rfl rfl c25) ?_
      refine Rn QSn ?_
      refine Lc rfl ?_ LAn
      refine Lx (wx rfl rfl rfl c25) ?_
      refine DRz (l1 := [18, 19, 20, 21, 22, 23, 24, 25, 26, 27, 28, 29, 30, 31, 32, 33, 34, 35, 36, 37, 38, 39, 40]) (l2 := []) (by kernel_rfl) (by kernel_rfl) ?_
      refine Rx rfl rfl (wx rfl rfl rfl c25) ?_
      refine Ry rfl rfl wn (ypt (v := .bool r11) (et rfl rfl) c25 (eqv hr13 rfl)) ?_
      refine Ry rfl rfl wn (ym (v := .bool r11) (et rfl rfl)) ?_
      refine Rx rfl rfl (wx rfl rfl rfl c26) ?_
      refine Rx rfl rfl (wx rfl rfl rfl c26) ?_
      refine Rx rfl rfl (wx rfl rfl rfl c26) ?_
      refine Rx rfl rfl (wx rfl rfl rfl c26) ?_
      refine Rx rfl rfl (wx rfl rfl rfl c26) ?_
      refine Rx rfl rfl (wx rfl rfl rfl c26) ?_
      refine Rx rfl rfl (wx rfl rfl rfl c26) ?_
      refine Rx rfl rfl (wx rfl rfl rfl c26) ?_
      refine Rx rfl rfl (wx rfl rfl rfl c26) ?_
      refine Rx rfl rfl (wx rfl rfl rfl c26) ?_
      refine Ry rfl rfl wn (ypt (v := .bool r12) (et rfl rfl) c26 (eqv hr14 rfl)) ?_
      refine Ry rfl rfl wn (ym (v := .bool r12) (et rfl rfl)) ?_
      refine Rx rfl rfl (wx rfl rfl rfl c27) ?_
      refine Rx rfl rfl (wx rfl rfl rfl c27) ?_
      refine Rx rfl rfl (wx rfl rfl rfl c27) ?_
      refine Rx rfl rfl (wx rfl rfl rfl c27) ?_
      refine Rx rfl rfl (wx rfl rfl rfl c27) ?_
      refine Rx rfl rfl (wx rfl rfl rfl c27) ?_
      refine Rx rfl rfl (wx rfl rfl rfl c27) ?_
      refine Ry rfl rfl wn (ypt (v := .bool r13) (et rfl rfl) c27 (eqv hr15 rfl)) ?_
      refine Rn QSn ?_
      exact j1 _ _ ⟨rfl, rfl, hst⟩
  clear hst
  rintro f w ⟨e14_1, e14_47, hst⟩
  refine k3 _ _ ?_
  rcases iteS hM with ⟨c28, hM⟩ | ⟨c28, hM⟩
  · refine condT (et rfl e14_47) c28 ?_
    refine seqQ fun Q4 k4 z4 => ?_
    refine wp_region_lit ?_
    refine Y wn rfl (ya (v := .bool false) rfl) ?_
    refine wpList_nil ?_
    refine k4 _ _ ?_
    refine wp_ret ?_
    refine z2 _ _ _ rfl ?_
    obtain rfl := someI hM
    exact hQ _ _ _ (fin1r Try.results72 ⟨rfl, rfl⟩ ⟨rfl, (hst.pk 1 [] rfl)⟩)
  · refine condF (et rfl e14_47) (bfalse c28) ?_
    refine wp_skip ?_
    refine k2 _ _ ?_
    refine seqQ fun Q5 k5 z5 => ?_
    refine seqQ fun Q6 k6 z6 => ?_
    refine wp_region_lit ?_
    refine Y wn rfl (yFb FL_49_1 (et rfl e14_1)) ?_
    refine Y wn rfl (yLb (u := .int .i64 x2) O_3 (et rfl rfl) hst mhR rfl) ?_
    refine Y wn rfl (ym (v := .int .i64 0) rfl) ?_
    refine wpList_nil ?_
    refine k6 _ _ ?_
    refine blockQ fun Q7 qb7 => ?_
    obtain ⟨o24, go24, hM⟩ := bs hM
    have je24_0 : ∀ (f : Nat → Value) (w : World), St w0 (ros) (rs) w → .inl () = o24 → Q7 (.exit 0) (fr 84 f) w := by
      intro f w hst ho
      subst ho
      refine qb7 _ _ _ ?_
      refine k5 _ _ ?_
      refine seqQ fun Q72 k72 z72 => ?_
      refine wp_region_lit ?_
      refine Y wn rfl (ya (v := .bool true) rfl) ?_
      refine wpList_nil ?_
      refine k72 _ _ ?_
      refine wp_ret ?_
      obtain rfl := someI hM
      exact hQ _ _ _ (fin1r Try.results72 ⟨rfl, rfl⟩ ⟨rfl, hst⟩)
    have je24_1 : ∀ (f : Nat → Value) (w : World), f 2 = .bool false → St w0 (ros) (rs) w → .inr () = o24 → Q7 .ret (fr 84 f) w := by
      intro f w eje24_1_2 hst ho
      subst ho
      refine qb7 _ _ _ ?_
      refine z5 _ _ _ rfl ?_
      obtain rfl := someI hM
      exact hQ _ _ _ (fin1r Try.results72 ⟨rfl, eje24_1_2⟩ ⟨rfl, hst⟩)
    refine loopQ (fun s a w => ∃ (x52 : Int) (f : Nat → Value), x52 = s ∧ a = fr 84 f ∧ f 1 = .pointer (some ⟨b9, 0, none⟩) ∧ f 49 = .int .i64 x2 ∧ f 50 = .int .i64 x52 ∧ St w0 (ros) (box b9 49 [.int .i64 x1, .int .i64 x2, h4.v, h6.v, h8.v] :: rs) w) go24 ⟨_, _, rfl, rfl, e14_1, rfl, rfl, hst⟩ ?_
    clear hst
    rintro _ _ w r24_ ⟨x52, f, rfl, rfl, e24_1, e24_49, e24_50, hst⟩ hM24 ho24 Q100024 n24 zz24
    refine seqQ fun Q73 k73 z73 => ?_
    refine wp_region_lit ?_
    refine Y wn rfl (ylss (et rfl e24_50) (et rfl e24_49)) ?_
    refine wpList_nil ?_
    refine k73 _ _ ?_
    refine seqQ fun Q74 k74 z74 => ?_
    rcases iteS hM24 with ⟨c77, hM24⟩ | ⟨c77, hM24⟩
    · refine condT (et rfl rfl) (decide_eq_true c77) ?_
      refine wp_skip ?_
      refine k74 _ _ ?_
      refine seqQ fun Q75 k75 z75 => ?_
      refine blockQ fun Q76 qb76 => ?_
      refine seqQ fun Q77 k77 z77 => ?_
      refine wp_region_lit ?_
      refine Y wn rfl (ym (v := .int .i64 x52) (et rfl e24_50)) ?_
      refine Y wn rfl (ya (v := .int .i64 x52) (et rfl rfl)) ?_
      refine wpList_nil ?_
      refine k77 _ _ ?_
      refine seqQ fun Q78 k78 z78 => ?_
      refine wp_region_lit ?_
      refine Y wn rfl (ya (v := .int .i64 (-1)) rfl) ?_
      refine wpList_nil ?_
      refine k78 _ _ ?_
      refine seqQ fun Q79 k79 z79 => ?_
      obtain ⟨x78, gx78, hM24⟩ := bs hM24
      obtain ⟨x79, gx79, hM24⟩ := bs hM24
      obtain ⟨x80, gx80, hM24⟩ := bs hM24
      refine wp_drawR [0, 1, 0, 4, 0, 28, 60, 0, 128, 0, 512, 1920, 3968, 8191, 16383, 0] [] 0 folM (by kernel_rfl) (by kernel_rfl) (by kernel_rfl) ?_
      replace hst := hst.drew
      refine DRz (l1 := [0, 1, 2, 3, 4, 5, 6, 7, 8, 9, 10, 11, 12, 13, 14, 15]) (l2 := []) (by kernel_rfl) (by kernel_rfl) ?_
      refine Ry rfl rfl wn (yFb FL_49_3 (et rfl e24_1)) ?_
      refine Ry rfl rfl wn (yLb (u := h6.v) O_22 (et rfl rfl) hst mhR rfl) ?_
      refine Ry rfl rfl wn (yFb FL_49_2 (et rfl e24_1)) ?_
      refine Ry rfl rfl wn (yLb (u := h4.v) O_22 (et rfl rfl) hst mhR rfl) ?_
      refine Ry rfl rfl wn (ym (v := .int .i64 x52) (et rfl rfl)) ?_
      refine Ry rfl rfl wn (yIa SL_22 (et rfl rfl) (et rfl rfl) hst (rdI q1) gx78) ?_
      refine Ry rfl rfl wn (yI O_3 (et rfl rfl) hst (rdI q1) gx78) ?_
      refine Ry rfl rfl wn (yFb FL_49_2 (et rfl e24_1)) ?_
      refine Ry rfl rfl wn (yLb (u := h4.v) O_22 (et rfl rfl) hst mhR rfl) ?_
      refine Ry rfl rfl wn (ym (v := .int .i64 x52) (et rfl rfl)) ?_
      refine Ry rfl rfl wn (yadd (et rfl rfl) rfl) ?_
      refine Ry rfl rfl wn (yIa SL_22 (et rfl rfl) (et rfl rfl) hst (rdI q1) gx79) ?_
      refine Ry rfl rfl wn (yI O_3 (et rfl rfl) hst (rdI q1) gx79) ?_
      refine Ry rfl rfl wn (ySl SL_22 (et rfl rfl) hst (rdI q2) (.inl (congrArg some (et rfl rfl))) (.inl (congrArg some (et rfl rfl))) gx80) ?_
      replace hst := hst.sub q2 gx80
      refine Ry rfl rfl wn (yLen SL_22 (et rfl rfl) hst (rdI mhF)) ?_
      refine Ry rfl rfl wn (ym (v := .int .i64 0) rfl) ?_
      refine Rn QSn ?_
      refine k79 _ _ ?_
      refine blockQ fun Q80 qb80 => ?_
      obtain ⟨o27, go27, hM24⟩ := bs hM24
      have je27_0 : ∀ (f : Nat → Value) (w : World), f 1 = .pointer (some ⟨b9, 0, none⟩) → f 49 = .int .i64 x2 → f 50 = .int .i64 x52 → St w0 (ros) (box b9 49 [.int .i64 x1, .int .i64 x2, h4.v, h6.v, h8.v] :: rs) w → .inl () = o27 → Q80 (.exit 2) (fr 84 f) w := by
        intro f w eje27_0_1 eje27_0_49 eje27_0_50 hst ho
        subst ho
        refine qb80 _ _ _ ?_
        refine qb76 _ _ _ ?_
        refine k75 _ _ ?_
        refine wp_region_lit ?_
        refine Y wn rfl (yadd (et rfl eje27_0_50) rfl) ?_
        refine Y wn rfl (ym (v := .int .i64 (wa .i64 x52 1)) (et rfl rfl)) ?_
        refine wpList_nil ?_
        obtain rfl := someI hM24
        exact n24 _ _ _ rfl ⟨_, _, rfl, rfl, eje27_0_1, eje27_0_49, rfl, hst⟩
      have je27_1 : ∀ (f : Nat → Value) (w : World), f 2 = .bool false → St w0 (ros) (rs) w → .inr () = o27 → Q80 .ret (fr 84 f) w := by
        intro f w eje27_1_2 hst ho
        subst ho
        refine qb80 _ _ _ ?_
        refine qb76 _ _ _ ?_
        refine z75 _ _ _ rfl ?_
        obtain rfl := someI hM24
        refine zz24 _ _ _ _ rfl rfl ?_
        exact je24_1 _ _ eje27_1_2 hst (ho24 _ rfl)
      refine loopQ (fun s a w => ∃ (x86 : Int) (x87 : Int) (f : Nat → Value), (x86, x87) = s ∧ a = fr 84 f ∧ f 1 = .pointer (some ⟨b9, 0, none⟩) ∧ f 4 = .int .i64 x86 ∧ f 49 = .int .i64 x2 ∧ f 50 = .int .i64 x52 ∧ f 66 = (subH h6 1 x78 x79).v ∧ f 67 = .int .i64 (x80.length : Int) ∧ f 68 = .int .i64 x87 ∧ St w0 (imm (rI .i64) (subH h6 1 x78 x79).v x80 :: ros) (box b9 49 [.int .i64 x1, .int .i64 x2, h4.v, h6.v, h8.v] :: rs) w) go27 ⟨_, _, _, rfl, rfl, e24_1, rfl, e24_49, e24_50, rfl, rfl, rfl, hst⟩ ?_
      clear hst
      rintro _ _ w r27_ ⟨x86, x87, f, rfl, rfl, e27_1, e27_4, e27_49, e27_50, e27_66, e27_67, e27_68, hst⟩ hM27 ho27 Q100027 n27 zz27
      refine seqQ fun Q97 k97 z97 => ?_
      refine wp_region_lit ?_
      refine Y wn rfl (ylss (et rfl e27_68) (et rfl e27_67)) ?_
      refine wpList_nil ?_
      refine k97 _ _ ?_
      refine seqQ fun Q98 k98 z98 => ?_
      rcases iteS hM27 with ⟨c95, hM27⟩ | ⟨c95, hM27⟩
      · refine condT (et rfl rfl) (decide_eq_true c95) ?_
        refine wp_skip ?_
        refine k98 _ _ ?_
        refine seqQ fun Q99 k99 z99 => ?_
        refine blockQ fun Q100 qb100 => ?_
        refine seqQ fun Q101 k101 z101 => ?_
        refine wp_region_lit ?_
        obtain ⟨x96, gx96, hM27⟩ := bs hM27
        refine Y wn rfl (yIa SL_22 (et rfl e27_66) (et rfl e27_68) hst (rdI mhF) gx96) ?_
        refine Y wn rfl (yI O_3 (et rfl rfl) hst (rdI mhF) gx96) ?_
        refine Y wn rfl (ya (v := .int .i64 x96) (et rfl rfl)) ?_
        refine wpList_nil ?_
        refine k101 _ _ ?_
        refine seqQ fun Q102 k102 z102 => ?_
        refine seqQ fun Q103 k103 z103 => ?_
        refine wp_region_lit ?_
        refine Y wn rfl (ym (v := .int .i64 x96) (et rfl rfl)) ?_
        refine Y wn rfl (ym (v := .int .i64 x86) (et rfl e27_4)) ?_
        refine Y wn rfl (yleq (et rfl rfl) (et rfl rfl)) ?_
        refine Y wn rfl (ym (v := .bool (decide (x96 ≤ x86))) (et rfl rfl)) ?_
        refine joinW 5 (fun f w => f 1 = .pointer (some ⟨b9, 0, none⟩) ∧ f 6 = .int .i64 x96 ∧ f 49 = .int .i64 x2 ∧ f 50 = .int .i64 x52 ∧ f 66 = (subH h6 1 x78 x79).v ∧ f 67 = .int .i64 (x80.length : Int) ∧ f 68 = .int .i64 x87 ∧ f 80 = .bool ((decide (x96 ≤ x86)) || (decide (x1 ≤ x96))) ∧ St w0 (imm (rI .i64) (subH h6 1 x78 x79).v x80 :: ros) (box b9 49 [.int .i64 x1, .int .i64 x2, h4.v, h6.v, h8.v] :: rs) w) (fun j28 => ?_) ?_
        · rcases Bool.eq_false_or_eq_true (decide (x96 ≤ x86)) with c98 | c98
          · refine Gn (wx rfl rfl rfl c98) rfl ?_
            refine Gn (wx rfl rfl rfl c98) rfl ?_
            refine Gn (wx rfl rfl rfl c98) rfl ?_
            refine Gn (wx rfl rfl rfl c98) rfl ?_
            refine Y wn rfl (ypt (v := .bool true) (et rfl rfl) c98 rfl) ?_
            exact j28 _ _ ⟨e27_1, rfl, e27_49, e27_50, e27_66, e27_67, e27_68, (congrArg Value.bool (orT c98)), hst⟩
          · refine Y (wg rfl rfl rfl c98) rfl (ym (v := .int .i64 x96) (et rfl rfl)) ?_
            refine Y (wg rfl rfl rfl c98) rfl (yFb FL_49_0 (et rfl e27_1)) ?_
            refine Y (wg rfl rfl rfl c98) rfl (yLb (u := .int .i64 x1) O_3 (et rfl rfl) hst mhR rfl) ?_
            refine Y (wg rfl rfl rfl c98) rfl (ygeq (et rfl rfl) (et rfl rfl)) ?_
            refine Y wn rfl (ypf (v := .bool (decide (x1 ≤ x96))) (et rfl rfl) c98 (et rfl rfl)) ?_
            exact j28 _ _ ⟨e27_1, rfl, e27_49, e27_50, e27_66, e27_67, e27_68, (congrArg Value.bool (orF c98)), hst⟩
        clear hst
        rintro f w ⟨e97_1, e97_6, e97_49, e97_50, e97_66, e97_67, e97_68, e97_80, hst⟩
        refine wpList_nil ?_
        refine k103 _ _ ?_
        rcases iteS hM27 with ⟨c99, hM27⟩ | ⟨c99, hM27⟩
        · refine condT (et rfl e97_80) c99 ?_
          refine seqQ fun Q104 k104 z104 => ?_
          refine wp_region_lit ?_
          refine Y wn rfl (ya (v := .bool false) rfl) ?_
          refine wpList_nil ?_
          refine k104 _ _ ?_
          refine wp_ret ?_
          refine z102 _ _ _ rfl ?_
          refine qb100 _ _ _ ?_
          refine z99 _ _ _ rfl ?_
          obtain rfl := someI hM27
          refine zz27 _ _ _ _ rfl rfl ?_
          exact je27_1 _ _ rfl ((hst.pk 1 [] rfl).facts (allT allI)) (ho27 _ rfl)
        · refine condF (et rfl e97_80) (bfalse c99) ?_
          refine wp_skip ?_
          refine k102 _ _ ?_
          refine wp_region_lit ?_
          refine Y wn rfl (ym (v := .int .i64 x96) (et rfl e97_6)) ?_
          refine Y wn rfl (ya (v := .int .i64 x96) (et rfl rfl)) ?_
          refine wpList_nil ?_
          refine qb100 _ _ _ ?_
          refine k99 _ _ ?_
          refine wp_region_lit ?_
          refine Y wn rfl (yadd (et rfl e97_68) rfl) ?_
          refine Y wn rfl (ym (v := .int .i64 (wa .i64 x87 1)) (et rfl rfl)) ?_
          refine wpList_nil ?_
          obtain rfl := someI hM27
          exact n27 _ _ _ rfl ⟨_, _, _, rfl, rfl, e97_1, rfl, e97_49, e97_50, e97_66, e97_67, rfl, hst⟩
      · refine condF (et rfl rfl) (decide_eq_false c95) ?_
        refine wp_exit ?_
        refine z98 _ _ _ rfl ?_
        obtain rfl := someI hM27
        refine zz27 _ _ _ _ rfl rfl ?_
        exact je27_0 _ _ e27_1 e27_49 e27_50 (hst.facts (allT allI)) (ho27 _ rfl)
    · refine condF (et rfl rfl) (decide_eq_false c77) ?_
      refine wp_exit ?_
      refine z74 _ _ _ rfl ?_
      obtain rfl := someI hM24
      refine zz24 _ _ _ _ rfl rfl ?_
      exact je24_0 _ _ (hst.pk 1 [] rfl) (ho24 _ rfl)

theorem float_parts_ok {w0 : World} {ros : List Fact} {rs : List Res} {w : World} {x1 : Int} {out : Int × Int} (hM : float_parts x1 = some out) (hst : St w0 ros (rs) w) :
    Calls Try.prog 95 #[.int .u64 x1] w (fun e w => e = .returned (.tuple #[.int .i64 out.1, .int .u64 out.2]) ∧ St w0 (ros) (rs) w) := by
  refine enterQ Try.func95 rfl Try.ntmps95 rfl fun Q hQ => ?_
  refine seqQ fun Q1 k1 z1 => ?_
  refine wp_region_lit ?_
  refine Y wn rfl (ya (v := .int .i64 0) rfl) ?_
  refine Y wn rfl (ya (v := .int .u64 0) rfl) ?_
  refine wpList_nil ?_
  refine k1 _ _ ?_
  refine seqQ fun Q2 k2 z2 => ?_
  refine wp_region_lit ?_
  refine Y wn rfl (ym (v := .int .u64 x1) (et rfl rfl)) ?_
  refine Y wn rfl (yshrc (et rfl rfl) rfl) ?_
  refine Y wn rfl (yand (et rfl rfl) rfl) ?_
  refine Y wn rfl (ycv (k' := .i64) (by kernel_rfl) (by kernel_rfl) (et rfl rfl)) ?_
  refine Y wn rfl (ym (v := .int .u64 x1) (et rfl rfl)) ?_
  refine Y wn rfl (yand (et rfl rfl) rfl) ?_
  refine Y wn rfl (ya (v := .int .i64 (wc .i64 (wand .u64 (wsrc .u64 x1 52) 2047))) (et rfl rfl)) ?_
  refine Y wn rfl (ya (v := .int .u64 (wand .u64 x1 4503599627370495)) (et rfl rfl)) ?_
  refine wpList_nil ?_
  refine k2 _ _ ?_
  refine wp_ret ?_
  obtain rfl := someI hM
  exact hQ _ _ _ (fin2r Try.results95 ⟨rfl, rfl⟩ ⟨rfl, rfl⟩ ⟨rfl, hst⟩)

theorem float_IsFinite_ok {w0 : World} {ros : List Fact} {rs : List Res} {w : World} {x1 : Int} {out : Bool} (hM : float_IsFinite x1 = some out) (hst : St w0 ros (rs) w) :
    Calls Try.prog 75 #[.int .u64 x1] w (fun e w => e = .returned (.bool out) ∧ St w0 (ros) (rs) w) := by
  refine enterQ Try.func75 rfl Try.ntmps75 rfl fun Q hQ => ?_
  refine seqQ fun Q1 k1 z1 => ?_
  refine wp_region_lit ?_
  refine Y wn rfl (ya (v := .bool false) rfl) ?_
  refine wpList_nil ?_
  refine k1 _ _ ?_
  refine seqQ fun Q2 k2 z2 => ?_
  refine wp_region_lit ?_
  refine Y wn rfl (ym (v := .int .u64 x1) (et rfl rfl)) ?_
  obtain ⟨r2, gr2, hM⟩ := bs hM
  refine Yc wn rfl (yCall FN_95 (a1 (et rfl rfl))) (float_parts_ok (hM := gr2) (hst := hst) ) ?_
  clear hst
  rintro _ w ⟨rfl, hst⟩
  refine ⟨_, rfl, ?_⟩
  refine Y wn rfl (ym (v := .tuple #[.int .i64 r2.1, .int .u64 r2.2]) (et rfl rfl)) ?_
  refine Y wn rfl (yx (v := .int .i64 r2.1) (et rfl rfl) rfl) ?_
  refine Y wn rfl (yx (v := .int .u64 r2.2) (et rfl rfl) rfl) ?_
  refine Y wn rfl (ya (v := .int .i64 r2.1) (et rfl rfl)) ?_
  refine Y wn rfl (ya (v := .int .u64 r2.2) (et rfl rfl)) ?_
  refine wpList_nil ?_
  refine k2 _ _ ?_
  refine seqQ fun Q3 k3 z3 => ?_
  refine wp_region_lit ?_
  refine Y wn rfl (ym (v := .int .i64 r2.1) (et rfl rfl)) ?_
  refine Y wn rfl (yneq (et rfl rfl) rfl) ?_
  refine Y wn rfl (ya (v := .bool (!(decide (r2.1 = 2047)))) (et rfl rfl)) ?_
  refine wpList_nil ?_
  refine k3 _ _ ?_
  refine wp_ret ?_
  obtain rfl := someI hM
  exact hQ _ _ _ (fin1r Try.results75 ⟨rfl, rfl⟩ ⟨rfl, hst⟩)

theorem matrix_Check_1_ok {w0 : World} {ros : List Fact} {rs : List Res} {w : World} {x1 : Int} {out : Bool} (hM : matrix_Check_1 x1 = some out) (hst : St w0 ros (rs) w) :
    Calls Try.prog 74 #[.int .u64 x1] w (fun e w => e = .returned (.bool out) ∧ St w0 (ros) (rs) w) := by
  refine enterQ Try.func74 rfl Try.ntmps74 rfl fun Q hQ => ?_
  refine seqQ fun Q1 k1 z1 => ?_
  refine wp_region_lit ?_
  refine Y wn rfl (ya (v := .bool false) rfl) ?_
  refine wpList_nil ?_
  refine k1 _ _ ?_
  refine seqQ fun Q2 k2 z2 => ?_
  refine wp_region_lit ?_
  refine Y wn rfl (ym (v := .int .u64 x1) (et rfl rfl)) ?_
  obtain ⟨r2, gr2, hM⟩ := bs hM
  refine Yc wn rfl (yCall FN_75 (a1 (et rfl rfl))) (float_IsFinite_ok (hM := gr2) (hst := hst) ) ?_
  clear hst
  rintro _ w ⟨rfl, hst⟩
  refine ⟨_, rfl, ?_⟩
  refine Y wn rfl (ynot (et rfl rfl)) ?_
  refine Y wn rfl (ya (v := .bool (!(r2))) (et rfl rfl)) ?_
  refine wpList_nil ?_
  refine k2 _ _ ?_
  refine wp_ret ?_
  obtain rfl := someI hM
  exact hQ _ _ _ (fin1r Try.results74 ⟨rfl, rfl⟩ ⟨rfl, hst⟩)

theorem slices_IndexFunc_apiFloat_ok {w0 : World} {ros : List Fact} {rs : List Res} {w : World} {x1 : List Int} {h2 : Hdr} {out : Int} (hM : slices_IndexFunc_apiFloat x1 = some out) (q1 : imm (rI .u64) h2.v x1 ∈ ros) (hst : St w0 ros (rs) w) :
    Calls Try.prog 94 #[h2.v, .func (.func 74) #[] #[]] w (fun e w => e = .returned (.int .i64 out) ∧ St w0 (ros) (rs) w) := by
  refine enterQ Try.func94 rfl Try.ntmps94 rfl fun Q hQ => ?_
  refine seqQ fun Q1 k1 z1 => ?_
  refine wp_region_lit ?_
  refine Y wn rfl (ya (v := .int .i64 0) rfl) ?_
  refine wpList_nil ?_
  refine k1 _ _ ?_
  refine seqQ fun Q2 k2 z2 => ?_
  refine seqQ fun Q3 k3 z3 => ?_
  refine wp_region_lit ?_
  refine Y wn rfl (ym (v := h2.v) (et rfl rfl)) ?_
  refine Y wn rfl (yLen SL_47 (et rfl rfl) hst (rdI q1)) ?_
  refine Y wn rfl (ym (v := .int .i64 0) rfl) ?_
  refine wpList_nil ?_
  refine k3 _ _ ?_
  refine blockQ fun Q4 qb4 => ?_
  obtain ⟨o1, go1, hM⟩ := bs hM
  have je1_0 : ∀ (f : Nat → Value) (w : World), St w0 (ros) (rs) w → .inl () = o1 → Q4 (.exit 0) (fr 19 f) w := by
    intro f w hst ho
    subst ho
    refine qb4 _ _ _ ?_
    refine k2 _ _ ?_
    refine seqQ fun Q19 k19 z19 => ?_
    refine wp_region_lit ?_
    refine Y wn rfl (ya (v := .int .i64 (-1)) rfl) ?_
    refine wpList_nil ?_
    refine k19 _ _ ?_
    refine wp_ret ?_
    obtain rfl := someI hM
    exact hQ _ _ _ (fin1r Try.results94 ⟨rfl, rfl⟩ ⟨rfl, hst⟩)
  have je1_1 : ∀ (x13 : Int) (f : Nat → Value) (w : World), f 4 = .int .i64 x13 → St w0 (ros) (rs) w → .inr x13 = o1 → Q4 .ret (fr 19 f) w := by
    intro x13 f w eje1_1_4 hst ho
    subst ho
    refine qb4 _ _ _ ?_
    refine z2 _ _ _ rfl ?_
    obtain rfl := someI hM
    exact hQ _ _ _ (fin1r Try.results94 ⟨rfl, eje1_1_4⟩ ⟨rfl, hst⟩)
  refine loopQ (fun s a w => ∃ (x7 : Int) (f : Nat → Value), x7 = s ∧ a = fr 19 f ∧ f 0 = h2.v ∧ f 1 = .func (.func 74) #[] #[] ∧ f 7 = .int .i64 (x1.length : Int) ∧ f 8 = .int .i64 x7 ∧ St w0 (ros) (rs) w) go1 ⟨_, _, rfl, rfl, rfl, rfl, rfl, rfl, hst⟩ ?_
  clear hst
  rintro _ _ w r1_ ⟨x7, f, rfl, rfl, e1_0, e1_1, e1_7, e1_8, hst⟩ hM1 ho1 Q100001 n1 zz1
  refine seqQ fun Q20 k20 z20 => ?_
  refine wp_region_lit ?_
  refine Y wn rfl (ylss (et rfl e1_8) (et rfl e1_7)) ?_
  refine wpList_nil ?_
  refine k20 _ _ ?_
  refine seqQ fun Q21 k21 z21 => ?_
  rcases iteS hM1 with ⟨c14, hM1⟩ | ⟨c14, hM1⟩
  · refine condT (et rfl rfl) (decide_eq_true c14) ?_
    refine wp_skip ?_
    refine k21 _ _ ?_
    refine seqQ fun Q22 k22 z22 => ?_
    refine blockQ fun Q23 qb23 => ?_
    refine seqQ fun Q24 k24 z24 => ?_
    refine wp_region_lit ?_
    refine Y wn rfl (ym (v := .int .i64 x7) (et rfl e1_8)) ?_
    refine Y wn rfl (ya (v := .int .i64 x7) (et rfl rfl)) ?_
    refine wpList_nil ?_
    refine k24 _ _ ?_
    refine seqQ fun Q25 k25 z25 => ?_
    refine wp_region_lit ?_
    refine Y wn rfl (ym (v := .func (.func 74) #[] #[]) (et rfl e1_1)) ?_
    refine Y wn rfl (ym (v := h2.v) (et rfl e1_0)) ?_
    refine Y wn rfl (ym (v := .int .i64 x7) (et rfl rfl)) ?_
    obtain ⟨x15, gx15, hM1⟩ := bs hM1
    refine Y wn rfl (yIa SL_47 (et rfl rfl) (et rfl rfl) hst (rdI q1) gx15) ?_
    refine Y wn rfl (yI O_74 (et rfl rfl) hst (rdI q1) gx15) ?_
    obtain ⟨r16, gr16, hM1⟩ := bs hM1
    refine Yc wn rfl (yCallw FN_74 (et rfl rfl) (a1 (et rfl rfl))) (matrix_Check_1_ok (hM := gr16) (hst := hst) ) ?_
    clear hst
    rintro _ w ⟨rfl, hst⟩
    refine ⟨_, rfl, ?_⟩
    refine wpList_nil ?_
    refine k25 _ _ ?_
    rcases iteS hM1 with ⟨c17, hM1⟩ | ⟨c17, hM1⟩
    · refine condT (et rfl rfl) c17 ?_
      refine seqQ fun Q26 k26 z26 => ?_
      refine wp_region_lit ?_
      refine Y wn rfl (ym (v := .int .i64 x7) (et rfl rfl)) ?_
      refine Y wn rfl (ya (v := .int .i64 x7) (et rfl rfl)) ?_
      refine wpList_nil ?_
      refine k26 _ _ ?_
      refine wp_ret ?_
      refine qb23 _ _ _ ?_
      refine z22 _ _ _ rfl ?_
      obtain rfl := someI hM1
      refine zz1 _ _ _ _ rfl rfl ?_
      exact je1_1 _ _ _ rfl hst (ho1 _ rfl)
    · refine condF (et rfl rfl) (bfalse c17) ?_
      refine wp_skip ?_
      refine qb23 _ _ _ ?_
      refine k22 _ _ ?_
      refine wp_region_lit ?_
      refine Y wn rfl (yadd (et rfl e1_8) rfl) ?_
      refine Y wn rfl (ym (v := .int .i64 (wa .i64 x7 1)) (et rfl rfl)) ?_
      refine wpList_nil ?_
      obtain rfl := someI hM1
      exact n1 _ _ _ rfl ⟨_, _, rfl, rfl, e1_0, e1_1, e1_7, rfl, hst⟩
  · refine condF (et rfl rfl) (decide_eq_false c14) ?_
    refine wp_exit ?_
    refine z21 _ _ _ rfl ?_
    obtain rfl := someI hM1
    refine zz1 _ _ _ _ rfl rfl ?_
    exact je1_0 _ _ hst (ho1 _ rfl)

theorem slices_ContainsFunc_apiFloat_ok {w0 : World} {ros : List Fact} {rs : List Res} {w : World} {x1 : List Int} {h2 : Hdr} {out : Bool} (hM : slices_ContainsFunc_apiFloat x1 = some out) (q1 : imm (rI .u64) h2.v x1 ∈ ros) (hst : St w0 ros (rs) w) :
    Calls Try.prog 73 #[h2.v, .func (.func 74) #[] #[]] w (fun e w => e = .returned (.bool out) ∧ St w0 (ros) (rs) w) := by
  refine enterQ Try.func73 rfl Try.ntmps73 rfl fun Q hQ => ?_
  refine seqQ fun Q1 k1 z1 => ?_
  refine wp_region_lit ?_
  refine Y wn rfl (ya (v := .bool false) rfl) ?_
  refine wpList_nil ?_
  refine k1 _ _ ?_
  refine seqQ fun Q2 k2 z2 => ?_
  refine wp_region_lit ?_
  refine Y wn rfl (ym (v := h2.v) (et rfl rfl)) ?_
  refine Y wn rfl (ym (v := .func (.func 74) #[] #[]) (et rfl rfl)) ?_
  obtain ⟨r3, gr3, hM⟩ := bs hM
  refine Yc wn rfl (yCall FN_94 (a2 (et rfl rfl) (et rfl rfl))) (slices_IndexFunc_apiFloat_ok (hM := gr3) (hst := hst) (q1 := q1)) ?_
  clear hst
  rintro _ w ⟨rfl, hst⟩
  refine ⟨_, rfl, ?_⟩
  refine Y wn rfl (ygeq (et rfl rfl) rfl) ?_
  refine Y wn rfl (ya (v := .bool (decide ((0 : Int) ≤ r3))) (et rfl rfl)) ?_
  refine wpList_nil ?_
  refine k2 _ _ ?_
  refine wp_ret ?_
  obtain rfl := someI hM
  exact hQ _ _ _ (fin1r Try.results73 ⟨rfl, rfl⟩ ⟨rfl, hst⟩)

theorem matrix_Check_ok {w0 : World} {ros : List Fact} {rs : List Res} {w : World} {x1 : Int} {x2 : Int} {x3 : List Int} {x5 : List Int} {x7 : List Int} {h4 : Hdr} {h6 : Hdr} {h8 : Hdr} {out : Int} (hM : matrix_Check x1 x2 x3 x5 x7 = some out) (q1 : imm (rI .i64) h4.v x3 ∈ ros) (q2 : imm (rI .i64) h6.v x5 ∈ ros) (q3 : imm (rI .u64) h8.v x7 ∈ ros) (hst : St w0 ros (rs) w) :
    Calls Try.prog 54 #[.agg #[.int .i64 x1, .int .i64 x2, h4.v, h6.v, h8.v]] w (fun e w => e = .returned (.int .i64 out) ∧ St w0 (ros) (rs) w) := by
  refine enterQ Try.func54 rfl Try.ntmps54 rfl fun Q hQ => ?_
  refine seqQ fun Q1 k1 z1 => ?_
  refine wp_region_lit ?_
  refine YB wn rfl (r_box (vals := [.int .i64 x1, .int .i64 x2, h4.v, h6.v, h8.v]) hst (et rfl rfl) rfl) ?_
  clear hst
  intro b9 w hst
  refine Y wn rfl (ya (v := .int .i64 0) rfl) ?_
  refine wpList_nil ?_
  refine k1 _ _ ?_
  refine seqQ fun Q2 k2 z2 => ?_
  refine blockQ fun Q3 qb3 => ?_
  refine seqQ fun Q4 k4 z4 => ?_
  refine wp_region_lit ?_
  refine Y wn rfl (yFb FL_49_0 (et rfl rfl)) ?_
  refine Y wn rfl (yLb (u := .int .i64 x1) O_3 (et rfl rfl) hst mhR rfl) ?_
  obtain ⟨r10, gr10, hM⟩ := bs hM
  refine Yc wn rfl (yCall FN_71 (a3 (et rfl rfl) rfl rfl)) (matrix_within_ok (hM := gr10) (hst := hst) ) ?_
  clear hst
  rintro _ w ⟨rfl, hst⟩
  refine ⟨_, rfl, ?_⟩
  refine Y wn rfl (ynot (et rfl rfl)) ?_
  refine Y wn rfl (ym (v := .bool (!(r10))) (et rfl rfl)) ?_
  obtain ⟨r12, gr12, hM⟩ := bs hM
  refine joinW 5 (fun f w => f 1 = .pointer (some ⟨b9, 0, none⟩) ∧ f 13 = .bool r12 ∧ St w0 (ros) (box b9 49 [.int .i64 x1, .int .i64 x2, h4.v, h6.v, h8.v] :: rs) w) (fun j1 => ?_) ?_
  · rcases iteS gr12 with ⟨c14, gr12⟩ | ⟨c14, gr12⟩
    · refine Y (wg rfl rfl rfl (nF c14)) rfl (yFb FL_49_1 (et rfl rfl)) ?_
      refine Y (wg rfl rfl rfl (nF c14)) rfl (yLb (u := .int .i64 x2) O_3 (et rfl rfl) hst mhR rfl) ?_
      obtain ⟨r15, gr15, gr12⟩ := bs gr12
      refine Yc (wg rfl rfl rfl (nF c14)) rfl (yCall FN_71 (a3 (et rfl rfl) rfl rfl)) (matrix_within_ok (hM := gr15) (hst := hst) ) ?_
      clear hst
      rintro _ w ⟨rfl, hst⟩
      refine ⟨_, rfl, ?_⟩
      refine Y (wg rfl rfl rfl (nF c14)) rfl (ynot (et rfl rfl)) ?_
      refine Y wn rfl (ypf (v := .bool (!(r15))) (et rfl rfl) (nF c14) (et rfl rfl)) ?_
      obtain rfl := someI gr12
      exact j1 _ _ ⟨rfl, rfl, hst⟩
    · refine Gn (wx rfl rfl rfl (nT (bfalse c14))) rfl ?_
      refine Gn (wx rfl rfl rfl (nT (bfalse c14))) rfl ?_
      refine Gn (wx rfl rfl rfl (nT (bfalse c14))) rfl ?_
      refine Gn (wx rfl rfl rfl (nT (bfalse c14))) rfl ?_
      refine Y wn rfl (ypt (v := .bool true) (et rfl rfl) (nT (bfalse c14)) rfl) ?_
      obtain rfl := someI gr12
      exact j1 _ _ ⟨rfl, rfl, hst⟩
  clear hst
  rintro f w ⟨e13_1, e13_13, hst⟩
  refine Y wn rfl (ym (v := .bool r12) (et rfl e13_13)) ?_
  refine joinW 5 (fun f w => f 1 = .pointer (some ⟨b9, 0, none⟩) ∧ f 19 = .bool (r12 || (decide ((10000 : Int) < (x5.length : Int)))) ∧ St w0 (ros) (box b9 49 [.int .i64 x1, .int .i64 x2, h4.v, h6.v, h8.v] :: rs) w) (fun j2 => ?_) ?_
  · rcases Bool.eq_false_or_eq_true (r12) with c17 | c17
    · refine Gn (wx rfl rfl rfl c17) rfl ?_
      refine Gn (wx rfl rfl rfl c17) rfl ?_
      refine Gn (wx rfl rfl rfl c17) rfl ?_
      refine Gn (wx rfl rfl rfl c17) rfl ?_
      refine Y wn rfl (ypt (v := .bool true) (et rfl rfl) c17 rfl) ?_
      exact j2 _ _ ⟨e13_1, (congrArg Value.bool (orT c17)), hst⟩
    · refine Y (wg rfl rfl rfl c17) rfl (yFb FL_49_3 (et rfl e13_1)) ?_
      refine Y (wg rfl rfl rfl c17) rfl (yLb (u := h6.v) O_22 (et rfl rfl) hst mhR rfl) ?_
      refine Y (wg rfl rfl rfl c17) rfl (yLen SL_22 (et rfl rfl) hst (rdI q2)) ?_
      refine Y (wg rfl rfl rfl c17) rfl (ygtr (et rfl rfl) rfl) ?_
      refine Y wn rfl (ypf (v := .bool (decide ((10000 : Int) < (x5.length : Int)))) (et rfl rfl) c17 (et rfl rfl)) ?_
      exact j2 _ _ ⟨e13_1, (congrArg Value.bool (orF c17)), hst⟩
  clear hst
  rintro f w ⟨e16_1, e16_19, hst⟩
  refine Y wn rfl (ya (v := .bool (r12 || (decide ((10000 : Int) < (x5.length : Int))))) (et rfl e16_19)) ?_
  refine wpList_nil ?_
  refine k4 _ _ ?_
  rcases iteS hM with ⟨c18, hM⟩ | ⟨c18, hM⟩
  · refine condT (et rfl rfl) c18 ?_
    refine seqQ fun Q5 k5 z5 => ?_
    refine wp_region_lit ?_
    refine Y wn rfl (ya (v := .int .i64 6) rfl) ?_
    refine wpList_nil ?_
    refine k5 _ _ ?_
    refine wp_ret ?_
    refine qb3 _ _ _ ?_
    refine z2 _ _ _ rfl ?_
    obtain rfl := someI hM
    exact hQ _ _ _ (fin1r Try.results54 ⟨rfl, rfl⟩ ⟨rfl, (hst.pk 1 [] rfl)⟩)
  · refine condF (et rfl rfl) (bfalse c18) ?_
    refine seqQ fun Q6 k6 z6 => ?_
    refine wp_region_lit ?_
    refine Y wn rfl (yLbs (us := [.int .i64 x1, .int .i64 x2, h4.v, h6.v, h8.v]) ST_49 (et rfl e16_1) hst mhR rfl rfl) ?_
    obtain ⟨r19, gr19, hM⟩ := bs hM
    refine Yc wn rfl (yCall FN_72 (a1 (et rfl rfl))) (matrix_columns_ok (hM := gr19) (hst := hst) (q1 := q1) (q2 := q2) (q3 := q3)) ?_
    clear hst
    rintro _ w ⟨rfl, hst⟩
    refine ⟨_, rfl, ?_⟩
    refine Y wn rfl (ynot (et rfl rfl)) ?_
    refine Y wn rfl (ya (v := .bool (!(r19))) (et rfl rfl)) ?_
    refine wpList_nil ?_
    refine k6 _ _ ?_
    rcases iteS hM with ⟨c20, hM⟩ | ⟨c20, hM⟩
    · refine condF (et rfl rfl) (nF c20) ?_
      refine seqQ fun Q7 k7 z7 => ?_
      refine wp_region_lit ?_
      refine Y wn rfl (yFb FL_49_4 (et rfl e16_1)) ?_
      refine Y wn rfl (yLb (u := h8.v) O_47 (et rfl rfl) hst mhR rfl) ?_
      obtain ⟨r21, gr21, hM⟩ := bs hM
      refine Yc wn rfl (yCall FN_73 (a2 (et rfl rfl) rfl)) (slices_ContainsFunc_apiFloat_ok (hM := gr21) (hst := hst) (q1 := q3)) ?_
      clear hst
      rintro _ w ⟨rfl, hst⟩
      refine ⟨_, rfl, ?_⟩
      refine Y wn rfl (ya (v := .bool r21) (et rfl rfl)) ?_
      refine wpList_nil ?_
      refine k7 _ _ ?_
      rcases iteS hM with ⟨c22, hM⟩ | ⟨c22, hM⟩
      · refine condT (et rfl rfl) c22 ?_
        refine seqQ fun Q8 k8 z8 => ?_
        refine wp_region_lit ?_
        refine Y wn rfl (ya (v := .int .i64 4) rfl) ?_
        refine wpList_nil ?_
        refine k8 _ _ ?_
        refine wp_ret ?_
        refine qb3 _ _ _ ?_
        refine z2 _ _ _ rfl ?_
        obtain rfl := someI hM
        exact hQ _ _ _ (fin1r Try.results54 ⟨rfl, rfl⟩ ⟨rfl, (hst.pk 1 [] rfl)⟩)
      · refine condF (et rfl rfl) (bfalse c22) ?_
        refine wp_skip ?_
        refine qb3 _ _ _ ?_
        refine k2 _ _ ?_
        refine seqQ fun Q9 k9 z9 => ?_
        refine wp_region_lit ?_
        refine Y wn rfl (ya (v := .int .i64 0) rfl) ?_
        refine wpList_nil ?_
        refine k9 _ _ ?_
        refine wp_ret ?_
        obtain rfl := someI hM
        exact hQ _ _ _ (fin1r Try.results54 ⟨rfl, rfl⟩ ⟨rfl, (hst.pk 1 [] rfl)⟩)
    · refine condT (et rfl rfl) (nT (bfalse c20)) ?_
      refine seqQ fun Q10 k10 z10 => ?_
      refine wp_region_lit ?_
      refine Y wn rfl (ya (v := .int .i64 1) rfl) ?_
      refine wpList_nil ?_
      refine k10 _ _ ?_
      refine wp_ret ?_
      refine qb3 _ _ _ ?_
      refine z2 _ _ _ rfl ?_
      obtain rfl := someI hM
      exact hQ _ _ _ (fin1r Try.results54 ⟨rfl, rfl⟩ ⟨rfl, (hst.pk 1 [] rfl)⟩)

theorem matrix_entries_ok {w0 : World} {ros : List Fact} {rs : List Res} {w : World} {x1 : Int} {x2 : Int} {x3 : List Int} {x5 : List Int} {x7 : List Int} {h4 : Hdr} {h6 : Hdr} {h8 : Hdr} {out : (List (Int × Int × Int))} (hM : matrix_entries x1 x2 x3 x5 x7 = some out) (q1 : imm (rI .i64) h4.v x3 ∈ ros) (q2 : imm (rI .i64) h6.v x5 ∈ ros) (q3 : imm (rI .u64) h8.v x7 ∈ ros) (hst : St w0 ros (rs) w) :
    Calls Try.prog 76 #[.agg #[.int .i64 x1, .int .i64 x2, h4.v, h6.v, h8.v]] w (fun e w => ∃ (h100001 : Hdr), e = .returned (h100001.v) ∧ St w0 (ros) (row 76 rTi64i64u64 h100001.v out :: rs) w) := by
  refine enterQ Try.func76 rfl Try.ntmps76 rfl fun Q hQ => ?_
  refine seqQ fun Q1 k1 z1 => ?_
  refine wp_region_lit ?_
  refine YB wn rfl (r_box (vals := [.int .i64 x1, .int .i64 x2, h4.v, h6.v, h8.v]) hst (et rfl rfl) rfl) ?_
  clear hst
  intro b9 w hst
  refine Y wn rfl (ya (v := hnil.v) rfl) ?_
  refine wpList_nil ?_
  refine k1 _ _ ?_
  refine seqQ fun Q2 k2 z2 => ?_
  refine wp_region_lit ?_
  refine Y wn rfl (ya (v := hnil.v) rfl) ?_
  refine wpList_nil ?_
  refine k2 _ _ ?_
  refine seqQ fun Q3 k3 z3 => ?_
  refine seqQ fun Q4 k4 z4 => ?_
  refine wp_region_lit ?_
  refine Y wn rfl (yFb FL_49_1 (et rfl rfl)) ?_
  refine Y wn rfl (yLb (u := .int .i64 x2) O_3 (et rfl rfl) hst mhR rfl) ?_
  refine Y wn rfl (ym (v := .int .i64 0) rfl) ?_
  refine wpList_nil ?_
  refine k4 _ _ ?_
  refine blockQ fun Q5 qb5 => ?_
  obtain ⟨o3, go3, hM⟩ := bs hM
  have je3_0 : ∀ (x79 : List (Int × Int × Int)) (h78 : Hdr) (f : Nat → Value) (w : World), f 3 = h78.v → St w0 (ros) (row 76 rTi64i64u64 h78.v x79 :: rs) w → x79 = o3 → Q5 (.exit 0) (fr 43 f) w := by
    intro x79 h78 f w eje3_0_3 hst ho
    subst ho
    refine qb5 _ _ _ ?_
    refine k3 _ _ ?_
    refine seqQ fun Q44 k44 z44 => ?_
    refine wp_region_lit ?_
    refine Y wn rfl (ym (v := h78.v) (et rfl eje3_0_3)) ?_
    refine Y wn rfl (ya (v := h78.v) (et rfl rfl)) ?_
    refine wpList_nil ?_
    refine k44 _ _ ?_
    refine wp_ret ?_
    obtain rfl := someI hM
    exact hQ _ _ _ (fin1r Try.results76 ⟨rfl, rfl⟩ ⟨_, rfl, hst⟩)
  replace hst := hst.rowNh 76 rTi64i64u64
  refine loopQ (fun s a w => ∃ (x42 : List (Int × Int × Int)) (x43 : Int) (f : Nat → Value) (h41 : Hdr), (x42, x43) = s ∧ a = fr 43 f ∧ f 1 = .pointer (some ⟨b9, 0, none⟩) ∧ f 3 = h41.v ∧ f 7 = .int .i64 x2 ∧ f 8 = .int .i64 x43 ∧ St w0 (ros) (box b9 49 [.int .i64 x1, .int .i64 x2, h4.v, h6.v, h8.v] :: row 76 rTi64i64u64 h41.v x42 :: rs) w) go3 ⟨_, _, _, _, rfl, rfl, rfl, rfl, rfl, rfl, (hst.pk 2 [1, 0] rfl)⟩ ?_
  clear hst
  rintro _ _ w r3_ ⟨x42, x43, f, h41, rfl, rfl, e3_1, e3_3, e3_7, e3_8, hst⟩ hM3 ho3 Q100003 n3 zz3
  refine seqQ fun Q45 k45 z45 => ?_
  refine wp_region_lit ?_
  refine Y wn rfl (ylss (et rfl e3_8) (et rfl e3_7)) ?_
  refine wpList_nil ?_
  refine k45 _ _ ?_
  refine seqQ fun Q46 k46 z46 => ?_
  rcases iteS hM3 with ⟨c80, hM3⟩ | ⟨c80, hM3⟩
  · refine condT (et rfl rfl) (decide_eq_true c80) ?_
    refine wp_skip ?_
    refine k46 _ _ ?_
    refine seqQ fun Q47 k47 z47 => ?_
    refine blockQ fun Q48 qb48 => ?_
    refine seqQ fun Q49 k49 z49 => ?_
    refine wp_region_lit ?_
    refine Y wn rfl (ym (v := .int .i64 x43) (et rfl e3_8)) ?_
    refine Y wn rfl (ya (v := .int .i64 x43) (et rfl rfl)) ?_
    refine wpList_nil ?_
    refine k49 _ _ ?_
    refine seqQ fun Q50 k50 z50 => ?_
    refine wp_region_lit ?_
    refine Y wn rfl (yFb FL_49_2 (et rfl e3_1)) ?_
    refine Y wn rfl (yLb (u := h4.v) O_22 (et rfl rfl) hst mhR rfl) ?_
    refine Y wn rfl (ym (v := .int .i64 x43) (et rfl rfl)) ?_
    obtain ⟨x81, gx81, hM3⟩ := bs hM3
    refine Y wn rfl (yIa SL_22 (et rfl rfl) (et rfl rfl) hst (rdI q1) gx81) ?_
    refine Y wn rfl (yI O_3 (et rfl rfl) hst (rdI q1) gx81) ?_
    refine Y wn rfl (ya (v := .int .i64 x81) (et rfl rfl)) ?_
    refine wpList_nil ?_
    refine k50 _ _ ?_
    refine blockQ fun Q51 qb51 => ?_
    obtain ⟨o4, go4, hM3⟩ := bs hM3
    have je4_0 : ∀ (x103 : List (Int × Int × Int)) (h102 : Hdr) (f : Nat → Value) (w : World), f 1 = .pointer (some ⟨b9, 0, none⟩) → f 3 = h102.v → f 7 = .int .i64 x2 → f 8 = .int .i64 x43 → St w0 (ros) (box b9 49 [.int .i64 x1, .int .i64 x2, h4.v, h6.v, h8.v] :: row 76 rTi64i64u64 h102.v x103 :: rs) w → x103 = o4 → Q51 (.exit 2) (fr 43 f) w := by
      intro x103 h102 f w eje4_0_1 eje4_0_3 eje4_0_7 eje4_0_8 hst ho
      subst ho
      refine qb51 _ _ _ ?_
      refine qb48 _ _ _ ?_
      refine k47 _ _ ?_
      refine wp_region_lit ?_
      refine Y wn rfl (yadd (et rfl eje4_0_8) rfl) ?_
      refine Y wn rfl (ym (v := .int .i64 (wa .i64 x43 1)) (et rfl rfl)) ?_
      refine wpList_nil ?_
      obtain rfl := someI hM3
      exact n3 _ _ _ rfl ⟨_, _, _, _, rfl, rfl, eje4_0_1, eje4_0_3, eje4_0_7, rfl, hst⟩
    refine loopQ (fun s a w => ∃ (x90 : List (Int × Int × Int)) (x91 : Int) (f : Nat → Value) (h89 : Hdr), (x90, x91) = s ∧ a = fr 43 f ∧ f 1 = .pointer (some ⟨b9, 0, none⟩) ∧ f 3 = h89.v ∧ f 4 = .int .i64 x43 ∧ f 5 = .int .i64 x91 ∧ f 7 = .int .i64 x2 ∧ f 8 = .int .i64 x43 ∧ St w0 (ros) (box b9 49 [.int .i64 x1, .int .i64 x2, h4.v, h6.v, h8.v] :: row 76 rTi64i64u64 h89.v x90 :: rs) w) go4 ⟨_, _, _, _, rfl, rfl, e3_1, e3_3, rfl, rfl, e3_7, e3_8, hst⟩ ?_
    clear hst
    rintro _ _ w r4_ ⟨x90, x91, f, h89, rfl, rfl, e4_1, e4_3, e4_4, e4_5, e4_7, e4_8, hst⟩ hM4 ho4 Q100004 n4 zz4
    refine seqQ fun Q60 k60 z60 => ?_
    refine seqQ fun Q61 k61 z61 => ?_
    refine wp_region_lit ?_
    refine Y wn rfl (ym (v := .int .i64 x91) (et rfl e4_5)) ?_
    refine Y wn rfl (yFb FL_49_2 (et rfl e4_1)) ?_
    refine Y wn rfl (yLb (u := h4.v) O_22 (et rfl rfl) hst mhR rfl) ?_
    refine Y wn rfl (ym (v := .int .i64 x43) (et rfl e4_4)) ?_
    refine Y wn rfl (yadd (et rfl rfl) rfl) ?_
    obtain ⟨x104, gx104, hM4⟩ := bs hM4
    refine Y wn rfl (yIa SL_22 (et rfl rfl) (et rfl rfl) hst (rdI q1) gx104) ?_
    refine Y wn rfl (yI O_3 (et rfl rfl) hst (rdI q1) gx104) ?_
    refine Y wn rfl (ylss (et rfl rfl) (et rfl rfl)) ?_
    refine wpList_nil ?_
    refine k61 _ _ ?_
    rcases iteS hM4 with ⟨c105, hM4⟩ | ⟨c105, hM4⟩
    · refine condT (et rfl rfl) (decide_eq_true c105) ?_
      refine wp_skip ?_
      refine k60 _ _ ?_
      refine seqQ fun Q62 k62 z62 => ?_
      refine blockQ fun Q63 qb63 => ?_
      obtain ⟨x106, gx106, hM4⟩ := bs hM4
      obtain ⟨x107, gx107, hM4⟩ := bs hM4
      obtain ⟨x110, gx110, hM4⟩ := bs hM4
      refine wp_drawR [0, 0, 2, 0, 14, 30, 0, 0, 128, 0, 896, 1920, 4094, 8190, 16383, 32767] [13, 14, 15] 3 folM (by kernel_rfl) (by kernel_rfl) (by kernel_rfl) ?_
      replace hst := hst.drew
      refine DRn (l1 := [0, 1, 2, 3, 4, 5, 6, 7, 8, 9, 10, 11, 12]) (l2 := []) (lc := [13]) (by kernel_rfl) (by kernel_rfl) (by kernel_rfl) ?_
      refine Ry rfl rfl wn (ym (v := h89.v) (et rfl e4_3)) ?_
      refine Ry rfl rfl wn (yFb FL_49_3 (et rfl e4_1)) ?_
      refine Ry rfl rfl wn (yLb (u := h6.v) O_22 (et rfl rfl) hst mhR rfl) ?_
      refine Ry rfl rfl wn (ym (v := .int .i64 x91) (et rfl e4_5)) ?_
      refine Ry rfl rfl wn (yIa SL_22 (et rfl rfl) (et rfl rfl) hst (rdI q2) gx106) ?_
      refine Ry rfl rfl wn (yI O_3 (et rfl rfl) hst (rdI q2) gx106) ?_
      refine Ry rfl rfl wn (ym (v := .int .i64 x43) (et rfl e4_4)) ?_
      refine Ry rfl rfl wn (yFb FL_49_4 (et rfl e4_1)) ?_
      refine Ry rfl rfl wn (yLb (u := h8.v) O_47 (et rfl rfl) hst mhR rfl) ?_
      refine Ry rfl rfl wn (ym (v := .int .i64 x91) (et rfl e4_5)) ?_
      refine Ry rfl rfl wn (yIa SL_47 (et rfl rfl) (et rfl rfl) hst (rdI q3) gx107) ?_
      refine Ry rfl rfl wn (yI O_74 (et rfl rfl) hst (rdI q3) gx107) ?_
      refine Ry rfl rfl wn (ybuild (us := [.int .i64 x106, .int .i64 x43, .int .u64 x107]) [(0, .int .i64 x106), (1, .int .i64 x43), (2, .int .u64 x107)] SO_76 (bp3 (et rfl rfl) (et rfl rfl) (et rfl rfl)) rfl) ?_
      refine Rn QSn ?_
      refine Lc rfl ?_ LAn
      refine LH wn (rLt (n := 1) (l := [(x106, x43, x107)]) hst SL_71 [.agg #[.int .i64 x106, .int .i64 x43, .int .u64 x107]] (bp1 (et rfl rfl)) rfl rfl (mks1 (cs := [.int .i64 x106, .int .i64 x43, .int .u64 x107]) rfl (mkF rfl) mks0)) ?_
      clear hst
      intro h108 w hst
      refine DRn (l1 := []) (l2 := [0]) (lc := [14]) (by kernel_rfl) (by kernel_rfl) (by kernel_rfl) ?_
      refine Rn (Sy rfl rfl wn (ym (v := h89.v) (et rfl e4_3)) rfl QSn) ?_
      refine Lc rfl ?_ LAn
      replace hst := hst.pk 3 [2, 0, 0] rfl
      refine LH wn (rAp hst SL_71 (et rfl rfl) (et rfl rfl) (rdO (mtR mhR)) gx110) ?_
      clear hst
      intro h109 w hst
      refine DRn (l1 := []) (l2 := []) (lc := [15]) (by kernel_rfl) (by kernel_rfl) (by kernel_rfl) ?_
      refine Rn QSn ?_
      refine Lc rfl ?_ LAn
      refine Ly wn (ya (v := h109.v) (et rfl rfl)) ?_
      refine DRz (l1 := []) (l2 := []) (by kernel_rfl) (by kernel_rfl) ?_
      refine Rn QSn ?_
      refine qb63 _ _ _ ?_
      refine k62 _ _ ?_
      refine wp_region_lit ?_
      refine Y wn rfl (ym (v := .int .i64 x91) (et rfl e4_5)) ?_
      refine Y wn rfl (yadd (et rfl rfl) rfl) ?_
      refine Y wn rfl (ya (v := .int .i64 (wa .i64 x91 1)) (et rfl rfl)) ?_
      refine wpList_nil ?_
      obtain rfl := someI hM4
      exact n4 _ _ _ rfl ⟨_, _, _, _, rfl, rfl, e4_1, rfl, e4_4, rfl, e4_7, e4_8, (hst.pk 3 [2, 0] rfl)⟩
    · refine condF (et rfl rfl) (decide_eq_false c105) ?_
      refine wp_exit ?_
      refine z60 _ _ _ rfl ?_
      obtain rfl := someI hM4
      refine zz4 _ _ _ _ rfl rfl ?_
      exact je4_0 _ _ _ _ e4_1 e4_3 e4_7 e4_8 hst (ho4 _ rfl)
  · refine condF (et rfl rfl) (decide_eq_false c80) ?_
    refine wp_exit ?_
    refine z46 _ _ _ rfl ?_
    obtain rfl := someI hM3
    refine zz3 _ _ _ _ rfl rfl ?_
    exact je3_0 _ _ _ _ e3_3 (hst.pk 2 [1] rfl) (ho3 _ rfl)

theorem matrix_Entries_ok {w0 : World} {ros : List Fact} {rs : List Res} {w : World} {x1 : Int} {x2 : Int} {x3 : List Int} {x5 : List Int} {x7 : List Int} {h4 : Hdr} {h6 : Hdr} {h8 : Hdr} {out : (List (Int × Int × Int))} (hM : matrix_Entries x1 x2 x3 x5 x7 = some out) (q1 : imm (rI .i64) h4.v x3 ∈ ros) (q2 : imm (rI .i64) h6.v x5 ∈ ros) (q3 : imm (rI .u64) h8.v x7 ∈ ros) (hst : St w0 ros (rs) w) :
    Calls Try.prog 56 #[.agg #[.int .i64 x1, .int .i64 x2, h4.v, h6.v, h8.v]] w (fun e w => ∃ (h100001 : Hdr), e = .returned (h100001.v) ∧ St w0 (ros) (row 76 rTi64i64u64 h100001.v out :: rs) w) := by
  refine enterQ Try.func56 rfl Try.ntmps56 rfl fun Q hQ => ?_
  refine seqQ fun Q1 k1 z1 => ?_
  refine wp_region_lit ?_
  refine YB wn rfl (r_box (vals := [.int .i64 x1, .int .i64 x2, h4.v, h6.v, h8.v]) hst (et rfl rfl) rfl) ?_
  clear hst
  intro b9 w hst
  refine Y wn rfl (ya (v := hnil.v) rfl) ?_
  refine wpList_nil ?_
  refine k1 _ _ ?_
  refine seqQ fun Q2 k2 z2 => ?_
  refine seqQ fun Q3 k3 z3 => ?_
  refine wp_region_lit ?_
  refine Y wn rfl (yLbs (us := [.int .i64 x1, .int .i64 x2, h4.v, h6.v, h8.v]) ST_49 (et rfl rfl) hst mhR rfl rfl) ?_
  obtain ⟨r10, gr10, hM⟩ := bs hM
  refine Yc wn rfl (yCall FN_54 (a1 (et rfl rfl))) (matrix_Check_ok (hM := gr10) (hst := hst) (q1 := q1) (q2 := q2) (q3 := q3)) ?_
  clear hst
  rintro _ w ⟨rfl, hst⟩
  refine ⟨_, rfl, ?_⟩
  refine Y wn rfl (yneq (et rfl rfl) rfl) ?_
  refine wpList_nil ?_
  refine k3 _ _ ?_
  rcases iteS hM with ⟨c11, hM⟩ | ⟨c11, hM⟩
  · refine condF (et rfl rfl) (nF (decide_eq_true c11)) ?_
    refine wp_skip ?_
    refine k2 _ _ ?_
    refine seqQ fun Q4 k4 z4 => ?_
    refine wp_region_lit ?_
    refine Y wn rfl (yLbs (us := [.int .i64 x1, .int .i64 x2, h4.v, h6.v, h8.v]) ST_49 (et rfl rfl) hst mhR rfl rfl) ?_
    obtain ⟨r12, gr12, hM⟩ := bs hM
    refine Yc wn rfl (yCall FN_76 (a1 (et rfl rfl))) (matrix_entries_ok (hM := gr12) (hst := hst) (q1 := q1) (q2 := q2) (q3 := q3)) ?_
    clear hst
    rintro _ w ⟨h13, rfl, hst⟩
    refine ⟨_, rfl, ?_⟩
    refine Y wn rfl (ya (v := h13.v) (et rfl rfl)) ?_
    refine wpList_nil ?_
    refine k4 _ _ ?_
    refine wp_ret ?_
    obtain rfl := someI hM
    exact hQ _ _ _ (fin1r Try.results56 ⟨rfl, rfl⟩ ⟨_, rfl, (hst.pk 2 [0] rfl)⟩)
  · refine condT (et rfl rfl) (nT (decide_eq_false c11)) ?_
    refine seqQ fun Q5 k5 z5 => ?_
    refine wp_region_lit ?_
    refine Y wn rfl (ya (v := hnil.v) rfl) ?_
    refine wpList_nil ?_
    refine k5 _ _ ?_
    refine wp_ret ?_
    refine z2 _ _ _ rfl ?_
    obtain rfl := someI hM
    replace hst := hst.rowNh 76 rTi64i64u64
    exact hQ _ _ _ (fin1r Try.results56 ⟨rfl, rfl⟩ ⟨_, rfl, (hst.pk 2 [0] rfl)⟩)
end Go.Proofs.Ytcknmegldjnjjaa
