/- Walks: each function computes its model, printed. -/
import Derived.Test.YtoelidgkfpmgnaaW0
namespace Go.Proofs.Ytoelidgkfpmgnaa
open Go Sx M
set_option maxRecDepth 100000
set_option maxHeartbeats 400000
set_option linter.unusedVariables false
attribute [local irreducible] wpList Code.wp Calls DR QR QS LA LS St
theorem sparsekit_Ints_ok {w0 : World} {ros : List Fact} {rs : List Res} {w : World} {x1 : List Int} {x3 : List Int} {h2 : Hdr} {h4 : Hdr} {out : Bool} (hM : sparsekit_Ints x1 x3 = some out) (q1 : imm (rI .i64) h2.v x1 ∈ ros) (q2 : imm (rI .i64) h4.v x3 ∈ ros) (hst : St w0 ros (rs) w) :
    Calls Try.prog 23 #[h2.v, h4.v] w (fun e w => e = .returned (.bool out) ∧ St w0 (ros) (rs) w) := by
  refine enterQ Try.func23 rfl Try.ntmps23 rfl fun Q hQ => ?_
  refine seqQ fun Q1 k1 z1 => ?_
  refine wp_region_lit ?_
  refine Y wn rfl (ya (v := .bool false) rfl) ?_
  refine wpList_nil ?_
  refine k1 _ _ ?_
  refine seqQ fun Q2 k2 z2 => ?_
  refine seqQ fun Q3 k3 z3 => ?_
  refine wp_region_lit ?_
  refine Y wn rfl (ym (v := h2.v) (et rfl rfl)) ?_
  refine Y wn rfl (yLen SL_22 (et rfl rfl) hst (rdI q1)) ?_
  refine Y wn rfl (ym (v := h4.v) (et rfl rfl)) ?_
  refine Y wn rfl (yLen SL_22 (et rfl rfl) hst (rdI q2)) ?_
  refine Y wn rfl (yneq (et rfl rfl) (et rfl rfl)) ?_
  refine wpList_nil ?_
  refine k3 _ _ ?_
  rcases iteS hM with ⟨c5, hM⟩ | ⟨c5, hM⟩
  · refine condF (et rfl rfl) (nF (decide_eq_true c5)) ?_
    refine wp_skip ?_
    refine k2 _ _ ?_
    refine seqQ fun Q4 k4 z4 => ?_
    refine seqQ fun Q5 k5 z5 => ?_
    refine wp_region_lit ?_
    refine Y wn rfl (ya (v := .int .i64 0) rfl) ?_
    refine wpList_nil ?_
    refine k5 _ _ ?_
    refine blockQ fun Q6 qb6 => ?_
    obtain ⟨o1, go1, hM⟩ := bs hM
    have je1_0 : ∀ (f : Nat → Value) (w : World), St w0 (ros) (rs) w → .inl () = o1 → Q6 (.exit 0) (fr 26 f) w := by
      intro f w hst ho
      subst ho
      refine qb6 _ _ _ ?_
      refine k4 _ _ ?_
      refine seqQ fun Q19 k19 z19 => ?_
      refine wp_region_lit ?_
      refine Y wn rfl (ya (v := .bool true) rfl) ?_
      refine wpList_nil ?_
      refine k19 _ _ ?_
      refine wp_ret ?_
      obtain rfl := someI hM
      exact hQ _ _ _ (fin1r Try.results23 ⟨rfl, rfl⟩ ⟨rfl, hst⟩)
    have je1_1 : ∀ (f : Nat → Value) (w : World), f 4 = .bool false → St w0 (ros) (rs) w → .inr () = o1 → Q6 .ret (fr 26 f) w := by
      intro f w eje1_1_4 hst ho
      subst ho
      refine qb6 _ _ _ ?_
      refine z4 _ _ _ rfl ?_
      obtain rfl := someI hM
      exact hQ _ _ _ (fin1r Try.results23 ⟨rfl, eje1_1_4⟩ ⟨rfl, hst⟩)
    refine loopQ (fun s a w => ∃ (x10 : Int) (f : Nat → Value), x10 = s ∧ a = fr 26 f ∧ f 0 = h2.v ∧ f 1 = h4.v ∧ f 5 = .int .i64 x10 ∧ St w0 (ros) (rs) w) go1 ⟨_, _, rfl, rfl, rfl, rfl, rfl, hst⟩ ?_
    clear hst
    rintro _ _ w r1_ ⟨x10, f, rfl, rfl, e1_0, e1_1, e1_5, hst⟩ hM1 ho1 Q100001 n1 zz1
    refine seqQ fun Q20 k20 z20 => ?_
    refine seqQ fun Q21 k21 z21 => ?_
    refine wp_region_lit ?_
    refine Y wn rfl (ym (v := .int .i64 x10) (et rfl e1_5)) ?_
    refine Y wn rfl (ym (v := h2.v) (et rfl e1_0)) ?_
    refine Y wn rfl (yLen SL_22 (et rfl rfl) hst (rdI q1)) ?_
    refine Y wn rfl (ylss (et rfl rfl) (et rfl rfl)) ?_
    refine wpList_nil ?_
    refine k21 _ _ ?_
    rcases iteS hM1 with ⟨c16, hM1⟩ | ⟨c16, hM1⟩
    · refine condT (et rfl rfl) (decide_eq_true c16) ?_
      refine wp_skip ?_
      refine k20 _ _ ?_
      refine seqQ fun Q22 k22 z22 => ?_
      refine blockQ fun Q23 qb23 => ?_
      refine seqQ fun Q24 k24 z24 => ?_
      obtain ⟨x17, gx17, hM1⟩ := bs hM1
      obtain ⟨x18, gx18, hM1⟩ := bs hM1
      refine wp_drawR [0, 0, 3, 7, 0, 0, 48, 112, 255] [] 0 folM (by kernel_rfl) (by kernel_rfl) (by kernel_rfl) ?_
      replace hst := hst.drew
      refine DRz (l1 := [0, 1, 2, 3, 4, 5, 6, 7, 8]) (l2 := []) (by kernel_rfl) (by kernel_rfl) ?_
      refine Ry rfl rfl wn (ym (v := h2.v) (et rfl e1_0)) ?_
      refine Ry rfl rfl wn (ym (v := .int .i64 x10) (et rfl e1_5)) ?_
      refine Ry rfl rfl wn (yIa SL_22 (et rfl rfl) (et rfl rfl) hst (rdI q1) gx17) ?_
      refine Ry rfl rfl wn (yI O_3 (et rfl rfl) hst (rdI q1) gx17) ?_
      refine Ry rfl rfl wn (ym (v := h4.v) (et rfl e1_1)) ?_
      refine Ry rfl rfl wn (ym (v := .int .i64 x10) (et rfl e1_5)) ?_
      refine Ry rfl rfl wn (yIa SL_22 (et rfl rfl) (et rfl rfl) hst (rdI q2) gx18) ?_
      refine Ry rfl rfl wn (yI O_3 (et rfl rfl) hst (rdI q2) gx18) ?_
      refine Ry rfl rfl wn (yneq (et rfl rfl) (et rfl rfl)) ?_
      refine Rn QSn ?_
      refine k24 _ _ ?_
      rcases iteS hM1 with ⟨c19, hM1⟩ | ⟨c19, hM1⟩
      · refine condF (et rfl rfl) (nF (decide_eq_true c19)) ?_
        refine wp_skip ?_
        refine qb23 _ _ _ ?_
        refine k22 _ _ ?_
        refine wp_region_lit ?_
        refine Y wn rfl (ym (v := .int .i64 x10) (et rfl e1_5)) ?_
        refine Y wn rfl (yadd (et rfl rfl) rfl) ?_
        refine Y wn rfl (ya (v := .int .i64 (wa .i64 x10 1)) (et rfl rfl)) ?_
        refine wpList_nil ?_
        obtain rfl := someI hM1
        exact n1 _ _ _ rfl ⟨_, _, rfl, rfl, e1_0, e1_1, rfl, hst⟩
      · refine condT (et rfl rfl) (nT (decide_eq_false c19)) ?_
        refine seqQ fun Q25 k25 z25 => ?_
        refine wp_region_lit ?_
        refine Y wn rfl (ya (v := .bool false) rfl) ?_
        refine wpList_nil ?_
        refine k25 _ _ ?_
        refine wp_ret ?_
        refine qb23 _ _ _ ?_
        refine z22 _ _ _ rfl ?_
        obtain rfl := someI hM1
        refine zz1 _ _ _ _ rfl rfl ?_
        exact je1_1 _ _ rfl hst (ho1 _ rfl)
    · refine condF (et rfl rfl) (decide_eq_false c16) ?_
      refine wp_exit ?_
      refine z20 _ _ _ rfl ?_
      obtain rfl := someI hM1
      refine zz1 _ _ _ _ rfl rfl ?_
      exact je1_0 _ _ hst (ho1 _ rfl)
  · refine condT (et rfl rfl) (nT (decide_eq_false c5)) ?_
    refine seqQ fun Q26 k26 z26 => ?_
    refine wp_region_lit ?_
    refine Y wn rfl (ya (v := .bool false) rfl) ?_
    refine wpList_nil ?_
    refine k26 _ _ ?_
    refine wp_ret ?_
    refine z2 _ _ _ rfl ?_
    obtain rfl := someI hM
    exact hQ _ _ _ (fin1r Try.results23 ⟨rfl, rfl⟩ ⟨rfl, hst⟩)

theorem sparselaw19_awake_ok {w0 : World} {ros : List Fact} {rs : List Res} {w : World} {out : Bool} (hM : sparselaw19_awake = some out) (hst : St w0 ros (rs) w) :
    Calls Try.prog 10 #[] w (fun e w => e = .returned (.bool out) ∧ St w0 (ros) (rs) w) := by
  refine enterQ Try.func10 rfl Try.ntmps10 rfl fun Q hQ => ?_
  refine seqQ fun Q1 k1 z1 => ?_
  refine wp_region_lit ?_
  refine Y wn rfl (ya (v := .bool false) rfl) ?_
  refine wpList_nil ?_
  refine k1 _ _ ?_
  refine seqQ fun Q2 k2 z2 => ?_
  refine wp_region_lit ?_
  refine YH wn rfl (rLt (n := 2) (l := [2, 3]) hst SL_22 [.int .i64 2, .int .i64 3] (bp2 rfl rfl) rfl rfl (mks1 (cs := [.int .i64 2]) rfl mkI (mks1 (cs := [.int .i64 3]) rfl mkI mks0))) ?_
  clear hst
  intro h1 w hst
  refine YH wn rfl (rLt (n := 1) (l := [2]) hst SL_22 [.int .i64 2] (bp1 rfl) rfl rfl (mks1 (cs := [.int .i64 2]) rfl mkI mks0)) ?_
  clear hst
  intro h2 w hst
  refine YH wn rfl (rLt (n := 3) (l := [0, 1, 3]) hst SL_22 [.int .i64 0, .int .i64 1, .int .i64 3] (bp3 rfl rfl rfl) rfl rfl (mks1 (cs := [.int .i64 0]) rfl mkI (mks1 (cs := [.int .i64 1]) rfl mkI (mks1 (cs := [.int .i64 3]) rfl mkI mks0)))) ?_
  clear hst
  intro h3 w hst
  refine YH wn rfl (rLt (n := 2) (l := [0, 2]) hst SL_22 [.int .i64 0, .int .i64 2] (bp2 rfl rfl) rfl rfl (mks1 (cs := [.int .i64 0]) rfl mkI (mks1 (cs := [.int .i64 2]) rfl mkI mks0))) ?_
  clear hst
  intro h4 w hst
  replace hst := hst.pk 4 [3, 0, 0, 0] rfl
  replace hst := hst.fz
  replace hst := hst.pk 3 [2, 0, 0] rfl
  replace hst := hst.fz
  replace hst := hst.pk 2 [1, 0] rfl
  replace hst := hst.fz
  replace hst := hst.fz
  refine YH wn rfl (rLt (n := 4) (l := [[2, 3], [2], [0, 1, 3], [0, 2]]) hst SL_25 [h1.v, h2.v, h3.v, h4.v] (bp4 (et rfl rfl) (et rfl rfl) (et rfl rfl) (et rfl rfl)) rfl rfl (mks1 (cs := [h1.v]) rfl (mkS (mtF (mtF (mtF mhF)))) (mks1 (cs := [h2.v]) rfl (mkS (mtF (mtF mhF))) (mks1 (cs := [h3.v]) rfl (mkS (mtF mhF)) (mks1 (cs := [h4.v]) rfl (mkS mhF) mks0))))) ?_
  clear hst
  intro h5 w hst
  refine Y wn rfl (ybuild (us := [h5.v]) [(0, h5.v)] SO_27 (bp1 (et rfl rfl)) rfl) ?_
  refine YB wn rfl (rAl hst ZT_27) ?_
  clear hst
  intro b6 w hst
  refine YT wn rfl (r_stbn (vals' := [h5.v]) (us := [h5.v]) hst ST_27 (et rfl rfl) (et rfl rfl) rfl rfl (one_of rfl) rfl) ?_
  clear hst
  intro w hst
  refine wpList_nil ?_
  refine k2 _ _ ?_
  refine seqQ fun Q3 k3 z3 => ?_
  refine wp_region_lit ?_
  refine Y wn rfl (yLbs (us := [h5.v]) ST_27 (et rfl rfl) hst mhR rfl rfl) ?_
  obtain ⟨r7, gr7, hM⟩ := bs hM
  replace hst := hst.pk 2 [1, 0] rfl
  replace hst := hst.fz
  refine Yc wn rfl (yCall FN_13 (a1 (et rfl rfl))) (etree_Parent_ok (hM := gr7) (hst := hst) (q1 := mhF)) ?_
  clear hst
  rintro _ w ⟨h8, rfl, hst⟩
  refine ⟨_, rfl, ?_⟩
  refine Y wn rfl (ym (v := .tuple #[h8.v, .int .i64 r7.2]) (et rfl rfl)) ?_
  refine Y wn rfl (yx (v := h8.v) (et rfl rfl) rfl) ?_
  refine Y wn rfl (yx (v := .int .i64 r7.2) (et rfl rfl) rfl) ?_
  refine Y wn rfl (ya (v := h8.v) (et rfl rfl)) ?_
  refine Y wn rfl (ya (v := .int .i64 r7.2) (et rfl rfl)) ?_
  refine wpList_nil ?_
  refine k3 _ _ ?_
  refine seqQ fun Q4 k4 z4 => ?_
  refine wp_region_lit ?_
  refine YH wn rfl (rLt (n := 3) (l := [2, (-1), (-1)]) hst SL_22 [.int .i64 2, .int .i64 (-1), .int .i64 (-1)] (bp3 rfl rfl rfl) rfl rfl (mks1 (cs := [.int .i64 2]) rfl mkI (mks1 (cs := [.int .i64 (-1)]) rfl mkI (mks1 (cs := [.int .i64 (-1)]) rfl mkI mks0)))) ?_
  clear hst
  intro h9 w hst
  obtain ⟨r10, gr10, hM⟩ := bs hM
  replace hst := hst.fz
  refine Yc wn rfl (yCall FN_17 (a1 (et rfl rfl))) (etree_Postorder_ok (hM := gr10) (hst := hst) (q1 := mhF)) ?_
  clear hst
  rintro _ w ⟨h11, rfl, hst⟩
  refine ⟨_, rfl, ?_⟩
  refine Y wn rfl (ym (v := .tuple #[h11.v, .int .i64 r10.2]) (et rfl rfl)) ?_
  refine Y wn rfl (yx (v := h11.v) (et rfl rfl) rfl) ?_
  refine Y wn rfl (yx (v := .int .i64 r10.2) (et rfl rfl) rfl) ?_
  refine Y wn rfl (ya (v := h11.v) (et rfl rfl)) ?_
  refine Y wn rfl (ya (v := .int .i64 r10.2) (et rfl rfl)) ?_
  refine wpList_nil ?_
  refine k4 _ _ ?_
  refine seqQ fun Q5 k5 z5 => ?_
  refine wp_region_lit ?_
  refine Y wn rfl (ym (v := .int .i64 r7.2) (et rfl rfl)) ?_
  refine Y wn rfl (yeql (et rfl rfl) rfl) ?_
  refine Y wn rfl (ym (v := .bool (decide (r7.2 = 0))) (et rfl rfl)) ?_
  refine joinW 3 (fun f w => f 2 = h8.v ∧ f 4 = h11.v ∧ f 27 = .bool ((decide (r7.2 = 0)) && (decide (r10.2 = 0))) ∧ St w0 (ros) (row 3 (rI .i64) h8.v r7.1 :: row 3 (rI .i64) h11.v r10.1 :: rs) w) (fun j1 => ?_) ?_
  · rcases Bool.eq_false_or_eq_true (decide (r7.2 = 0)) with c13 | c13
    · refine Y (wg rfl rfl rfl c13) rfl (ym (v := .int .i64 r10.2) (et rfl rfl)) ?_
      refine Y (wg rfl rfl rfl c13) rfl (yeql (et rfl rfl) rfl) ?_
      refine Y wn rfl (ypt (v := .bool (decide (r10.2 = 0))) (et rfl rfl) c13 (et rfl rfl)) ?_
      exact j1 _ _ ⟨rfl, rfl, (congrArg Value.bool (andT c13)), ((hst.pk 3 [1, 0] rfl).facts (allT (allT (allT (allT (allT (allT allI)))))))⟩
    · refine Gn (wx rfl rfl rfl c13) rfl ?_
      refine Gn (wx rfl rfl rfl c13) rfl ?_
      refine Y wn rfl (ypf (v := .bool false) (et rfl rfl) c13 rfl) ?_
      exact j1 _ _ ⟨rfl, rfl, (congrArg Value.bool (andF c13)), ((hst.pk 3 [1, 0] rfl).facts (allT (allT (allT (allT (allT (allT allI)))))))⟩
  clear hst
  rintro f w ⟨e12_2, e12_4, e12_27, hst⟩
  refine Y wn rfl (ym (v := .bool ((decide (r7.2 = 0)) && (decide (r10.2 = 0)))) (et rfl e12_27)) ?_
  obtain ⟨r16, gr16, hM⟩ := bs hM
  refine joinW 4 (fun f w => f 2 = h8.v ∧ f 4 = h11.v ∧ f 32 = .bool r16 ∧ St w0 (imm (rI .i64) h8.v r7.1 :: ros) (row 3 (rI .i64) h11.v r10.1 :: rs) w) (fun j2 => ?_) ?_
  · rcases iteS gr16 with ⟨c18, gr16⟩ | ⟨c18, gr16⟩
    · refine Y (wg rfl rfl rfl c18) rfl (ym (v := h8.v) (et rfl e12_2)) ?_
      refine YH (wg rfl rfl rfl c18) rfl (rLt (n := 4) (l := [2, 2, 3, (-1)]) hst SL_22 [.int .i64 2, .int .i64 2, .int .i64 3, .int .i64 (-1)] (bp4 rfl rfl rfl rfl) rfl rfl (mks1 (cs := [.int .i64 2]) rfl mkI (mks1 (cs := [.int .i64 2]) rfl mkI (mks1 (cs := [.int .i64 3]) rfl mkI (mks1 (cs := [.int .i64 (-1)]) rfl mkI mks0))))) ?_
      clear hst
      intro h19 w hst
      obtain ⟨r20, gr20, gr16⟩ := bs gr16
      replace hst := hst.pk 2 [1, 0] rfl
      replace hst := hst.fz
      replace hst := hst.fz
      refine Yc (wg rfl rfl rfl c18) rfl (yCall FN_23 (a2 (et rfl rfl) (et rfl rfl))) (sparsekit_Ints_ok (hM := gr20) (hst := hst) (q1 := (mtF mhF)) (q2 := mhF)) ?_
      clear hst
      rintro _ w ⟨rfl, hst⟩
      refine ⟨_, rfl, ?_⟩
      refine Y wn rfl (ypt (v := .bool r20) (et rfl rfl) c18 (et rfl rfl)) ?_
      obtain rfl := someI gr16
      exact j2 _ _ ⟨e12_2, e12_4, rfl, (hst.facts (allC (mtF mhF) (allT (allT allI))))⟩
    · refine Gn (wx rfl rfl rfl (bfalse c18)) rfl ?_
      refine Gn (wx rfl rfl rfl (bfalse c18)) rfl ?_
      refine Gn (wx rfl rfl rfl (bfalse c18)) rfl ?_
      refine Y wn rfl (ypf (v := .bool false) (et rfl rfl) (bfalse c18) rfl) ?_
      obtain rfl := someI gr16
      replace hst := hst.fz
      exact j2 _ _ ⟨e12_2, e12_4, rfl, hst⟩
  clear hst
  rintro f w ⟨e17_2, e17_4, e17_32, hst⟩
  refine Y wn rfl (ym (v := .bool r16) (et rfl e17_32)) ?_
  obtain ⟨r23, gr23, hM⟩ := bs hM
  refine joinW 4 (fun f w => f 2 = h8.v ∧ f 37 = .bool r23 ∧ St w0 (imm (rI .i64) h8.v r7.1 :: ros) (rs) w) (fun j3 => ?_) ?_
  · rcases iteS gr23 with ⟨c25, gr23⟩ | ⟨c25, gr23⟩
    · refine Y (wg rfl rfl rfl c25) rfl (ym (v := h11.v) (et rfl e17_4)) ?_
      refine YH (wg rfl rfl rfl c25) rfl (rLt (n := 3) (l := [1, 0, 2]) hst SL_22 [.int .i64 1, .int .i64 0, .int .i64 2] (bp3 rfl rfl rfl) rfl rfl (mks1 (cs := [.int .i64 1]) rfl mkI (mks1 (cs := [.int .i64 0]) rfl mkI (mks1 (cs := [.int .i64 2]) rfl mkI mks0)))) ?_
      clear hst
      intro h26 w hst
      obtain ⟨r27, gr27, gr23⟩ := bs gr23
      replace hst := hst.pk 2 [1, 0] rfl
      replace hst := hst.fz
      replace hst := hst.fz
      refine Yc (wg rfl rfl rfl c25) rfl (yCall FN_23 (a2 (et rfl rfl) (et rfl rfl))) (sparsekit_Ints_ok (hM := gr27) (hst := hst) (q1 := (mtF mhF)) (q2 := mhF)) ?_
      clear hst
      rintro _ w ⟨rfl, hst⟩
      refine ⟨_, rfl, ?_⟩
      refine Y wn rfl (ypt (v := .bool r27) (et rfl rfl) c25 (et rfl rfl)) ?_
      obtain rfl := someI gr23
      exact j3 _ _ ⟨e17_2, rfl, (hst.facts (allC (mtF (mtF mhF)) (allT (allT (allT allI)))))⟩
    · refine Gn (wx rfl rfl rfl (bfalse c25)) rfl ?_
      refine Gn (wx rfl rfl rfl (bfalse c25)) rfl ?_
      refine Gn (wx rfl rfl rfl (bfalse c25)) rfl ?_
      refine Y wn rfl (ypf (v := .bool false) (et rfl rfl) (bfalse c25) rfl) ?_
      obtain rfl := someI gr23
      exact j3 _ _ ⟨e17_2, rfl, (hst.pk 1 [] rfl)⟩
  clear hst
  rintro f w ⟨e24_2, e24_37, hst⟩
  refine Y wn rfl (ym (v := .bool r23) (et rfl e24_37)) ?_
  obtain ⟨r29, gr29, hM⟩ := bs hM
  refine joinW 4 (fun f w => f 42 = .bool r29 ∧ St w0 (ros) (rs) w) (fun j4 => ?_) ?_
  · rcases iteS gr29 with ⟨c31, gr29⟩ | ⟨c31, gr29⟩
    · refine Y (wg rfl rfl rfl c31) rfl (ym (v := h8.v) (et rfl e24_2)) ?_
      obtain ⟨r32, gr32, gr29⟩ := bs gr29
      refine Yc (wg rfl rfl rfl c31) rfl (yCall FN_14 (a1 (et rfl rfl))) (etree_Check_ok (hM := gr32) (hst := hst) (q1 := mhF)) ?_
      clear hst
      rintro _ w ⟨rfl, hst⟩
      refine ⟨_, rfl, ?_⟩
      refine Y (wg rfl rfl rfl c31) rfl (yeql (et rfl rfl) rfl) ?_
      refine Y wn rfl (ypt (v := .bool (decide (r32 = 0))) (et rfl rfl) c31 (et rfl rfl)) ?_
      obtain rfl := someI gr29
      exact j4 _ _ ⟨rfl, (hst.facts (allT allI))⟩
    · refine Gn (wx rfl rfl rfl (bfalse c31)) rfl ?_
      refine Gn (wx rfl rfl rfl (bfalse c31)) rfl ?_
      refine Gn (wx rfl rfl rfl (bfalse c31)) rfl ?_
      refine Y wn rfl (ypf (v := .bool false) (et rfl rfl) (bfalse c31) rfl) ?_
      obtain rfl := someI gr29
      exact j4 _ _ ⟨rfl, (hst.facts (allT allI))⟩
  clear hst
  rintro f w ⟨e30_42, hst⟩
  refine Y wn rfl (ya (v := .bool r29) (et rfl e30_42)) ?_
  refine wpList_nil ?_
  refine k5 _ _ ?_
  refine wp_ret ?_
  obtain rfl := someI hM
  exact hQ _ _ _ (fin1r Try.results10 ⟨rfl, rfl⟩ ⟨rfl, hst⟩)

theorem sparsekit_TwinInts_ok {w0 : World} {ros : List Fact} {rs : List Res} {w : World} {x1 : List Int} {h2 : Hdr} {out : (List Int)} (hM : sparsekit_TwinInts x1 = some out) (q1 : imm (rI .i64) h2.v x1 ∈ ros) (hst : St w0 ros (rs) w) :
    Calls Try.prog 16 #[h2.v] w (fun e w => ∃ (h100001 : Hdr), e = .returned (h100001.v) ∧ St w0 (ros) (row 3 (rI .i64) h100001.v out :: rs) w) := by
  refine enterQ Try.func16 rfl Try.ntmps16 rfl fun Q hQ => ?_
  refine seqQ fun Q1 k1 z1 => ?_
  refine wp_region_lit ?_
  refine Y wn rfl (ya (v := hnil.v) rfl) ?_
  refine wpList_nil ?_
  refine k1 _ _ ?_
  refine seqQ fun Q2 k2 z2 => ?_
  refine wp_region_lit ?_
  refine Y wn rfl (ya (v := hnil.v) rfl) ?_
  refine wpList_nil ?_
  refine k2 _ _ ?_
  refine seqQ fun Q3 k3 z3 => ?_
  refine seqQ fun Q4 k4 z4 => ?_
  refine wp_region_lit ?_
  refine Y wn rfl (ya (v := .int .i64 0) rfl) ?_
  refine wpList_nil ?_
  refine k4 _ _ ?_
  refine blockQ fun Q5 qb5 => ?_
  obtain ⟨o1, go1, hM⟩ := bs hM
  have je1_0 : ∀ (x20 : List Int) (h19 : Hdr) (f : Nat → Value) (w : World), f 3 = h19.v → St w0 (ros) (row 3 (rI .i64) h19.v x20 :: rs) w → x20 = o1 → Q5 (.exit 0) (fr 19 f) w := by
    intro x20 h19 f w eje1_0_3 hst ho
    subst ho
    refine qb5 _ _ _ ?_
    refine k3 _ _ ?_
    refine seqQ fun Q14 k14 z14 => ?_
    refine wp_region_lit ?_
    refine Y wn rfl (ym (v := h19.v) (et rfl eje1_0_3)) ?_
    refine Y wn rfl (ya (v := h19.v) (et rfl rfl)) ?_
    refine wpList_nil ?_
    refine k14 _ _ ?_
    refine wp_ret ?_
    obtain rfl := someI hM
    exact hQ _ _ _ (fin1r Try.results16 ⟨rfl, rfl⟩ ⟨_, rfl, hst⟩)
  replace hst := hst.rowNh 3 (rI .i64)
  refine loopQ (fun s a w => ∃ (x9 : List Int) (x10 : Int) (f : Nat → Value) (h8 : Hdr), (x9, x10) = s ∧ a = fr 19 f ∧ f 0 = h2.v ∧ f 3 = h8.v ∧ f 4 = .int .i64 x10 ∧ St w0 (ros) (row 3 (rI .i64) h8.v x9 :: rs) w) go1 ⟨_, _, _, _, rfl, rfl, rfl, rfl, rfl, hst⟩ ?_
  clear hst
  rintro _ _ w r1_ ⟨x9, x10, f, h8, rfl, rfl, e1_0, e1_3, e1_4, hst⟩ hM1 ho1 Q100001 n1 zz1
  refine seqQ fun Q15 k15 z15 => ?_
  refine seqQ fun Q16 k16 z16 => ?_
  refine wp_region_lit ?_
  refine Y wn rfl (ym (v := .int .i64 x10) (et rfl e1_4)) ?_
  refine Y wn rfl (ym (v := h2.v) (et rfl e1_0)) ?_
  refine Y wn rfl (yLen SL_22 (et rfl rfl) hst (rdI q1)) ?_
  refine Y wn rfl (ylss (et rfl rfl) (et rfl rfl)) ?_
  refine wpList_nil ?_
  refine k16 _ _ ?_
  rcases iteS hM1 with ⟨c21, hM1⟩ | ⟨c21, hM1⟩
  · refine condT (et rfl rfl) (decide_eq_true c21) ?_
    refine wp_skip ?_
    refine k15 _ _ ?_
    refine seqQ fun Q17 k17 z17 => ?_
    refine blockQ fun Q18 qb18 => ?_
    refine wp_region_lit ?_
    refine Y wn rfl (ym (v := h8.v) (et rfl e1_3)) ?_
    refine Y wn rfl (ym (v := h2.v) (et rfl e1_0)) ?_
    refine Y wn rfl (ym (v := .int .i64 x10) (et rfl e1_4)) ?_
    obtain ⟨x22, gx22, hM1⟩ := bs hM1
    refine Y wn rfl (yIa SL_22 (et rfl rfl) (et rfl rfl) hst (rdI q1) gx22) ?_
    refine Y wn rfl (yI O_3 (et rfl rfl) hst (rdI q1) gx22) ?_
    refine YH wn rfl (rLt (n := 1) (l := [x22]) hst SL_22 [.int .i64 x22] (bp1 (et rfl rfl)) rfl rfl (mks1 (cs := [.int .i64 x22]) rfl mkI mks0)) ?_
    clear hst
    intro h23 w hst
    obtain ⟨x25, gx25, hM1⟩ := bs hM1
    replace hst := hst.pk 2 [1, 0] rfl
    refine YH wn rfl (rAp hst SL_22 (et rfl rfl) (et rfl rfl) (rdO (mtR mhR)) gx25) ?_
    clear hst
    intro h24 w hst
    refine Y wn rfl (ya (v := h24.v) (et rfl rfl)) ?_
    refine wpList_nil ?_
    refine qb18 _ _ _ ?_
    refine k17 _ _ ?_
    refine wp_region_lit ?_
    refine Y wn rfl (ym (v := .int .i64 x10) (et rfl e1_4)) ?_
    refine Y wn rfl (yadd (et rfl rfl) rfl) ?_
    refine Y wn rfl (ya (v := .int .i64 (wa .i64 x10 1)) (et rfl rfl)) ?_
    refine wpList_nil ?_
    obtain rfl := someI hM1
    exact n1 _ _ _ rfl ⟨_, _, _, _, rfl, rfl, e1_0, rfl, rfl, (hst.pk 2 [0] rfl)⟩
  · refine condF (et rfl rfl) (decide_eq_false c21) ?_
    refine wp_exit ?_
    refine z15 _ _ _ rfl ?_
    obtain rfl := someI hM1
    refine zz1 _ _ _ _ rfl rfl ?_
    exact je1_0 _ _ _ _ e1_3 hst (ho1 _ rfl)

theorem sparseref19_Check_ok {w0 : World} {ros : List Fact} {rs : List Res} {w : World} {x1 : List Int} {h2 : Hdr} {out : Int} (hM : sparseref19_Check x1 = some out) (q1 : imm (rI .i64) h2.v x1 ∈ ros) (hst : St w0 ros (rs) w) :
    Calls Try.prog 15 #[h2.v] w (fun e w => e = .returned (.int .i64 out) ∧ St w0 (ros) (rs) w) := by
  refine enterQ Try.func15 rfl Try.ntmps15 rfl fun Q hQ => ?_
  refine seqQ fun Q1 k1 z1 => ?_
  refine wp_region_lit ?_
  refine Y wn rfl (ya (v := .int .i64 0) rfl) ?_
  refine wpList_nil ?_
  refine k1 _ _ ?_
  refine seqQ fun Q2 k2 z2 => ?_
  refine wp_region_lit ?_
  refine Y wn rfl (ym (v := h2.v) (et rfl rfl)) ?_
  refine Y wn rfl (yLen SL_22 (et rfl rfl) hst (rdI q1)) ?_
  refine Y wn rfl (ya (v := .int .i64 (x1.length : Int)) (et rfl rfl)) ?_
  refine wpList_nil ?_
  refine k2 _ _ ?_
  refine seqQ fun Q3 k3 z3 => ?_
  refine seqQ fun Q4 k4 z4 => ?_
  refine wp_region_lit ?_
  refine Y wn rfl (ym (v := .int .i64 (x1.length : Int)) (et rfl rfl)) ?_
  refine Y wn rfl (ygtr (et rfl rfl) rfl) ?_
  refine wpList_nil ?_
  refine k4 _ _ ?_
  rcases iteS hM with ⟨c3, hM⟩ | ⟨c3, hM⟩
  · refine condT (et rfl rfl) (decide_eq_true c3) ?_
    refine seqQ fun Q5 k5 z5 => ?_
    refine wp_region_lit ?_
    refine Y wn rfl (ya (v := .int .i64 6) rfl) ?_
    refine wpList_nil ?_
    refine k5 _ _ ?_
    refine wp_ret ?_
    refine z3 _ _ _ rfl ?_
    obtain rfl := someI hM
    exact hQ _ _ _ (fin1r Try.results15 ⟨rfl, rfl⟩ ⟨rfl, hst⟩)
  · refine condF (et rfl rfl) (decide_eq_false c3) ?_
    refine wp_skip ?_
    refine k3 _ _ ?_
    refine seqQ fun Q6 k6 z6 => ?_
    refine seqQ fun Q7 k7 z7 => ?_
    refine wp_region_lit ?_
    refine Y wn rfl (ya (v := .int .i64 0) rfl) ?_
    refine wpList_nil ?_
    refine k7 _ _ ?_
    refine blockQ fun Q8 qb8 => ?_
    obtain ⟨o7, go7, hM⟩ := bs hM
    have je7_0 : ∀ (f : Nat → Value) (w : World), St w0 (ros) (rs) w → .inl () = o7 → Q8 (.exit 0) (fr 35 f) w := by
      intro f w hst ho
      subst ho
      refine qb8 _ _ _ ?_
      refine k6 _ _ ?_
      refine seqQ fun Q21 k21 z21 => ?_
      refine wp_region_lit ?_
      refine Y wn rfl (ya (v := .int .i64 0) rfl) ?_
      refine wpList_nil ?_
      refine k21 _ _ ?_
      refine wp_ret ?_
      obtain rfl := someI hM
      exact hQ _ _ _ (fin1r Try.results15 ⟨rfl, rfl⟩ ⟨rfl, hst⟩)
    have je7_1 : ∀ (f : Nat → Value) (w : World), f 2 = .int .i64 190 → St w0 (ros) (rs) w → .inr () = o7 → Q8 .ret (fr 35 f) w := by
      intro f w eje7_1_2 hst ho
      subst ho
      refine qb8 _ _ _ ?_
      refine z6 _ _ _ rfl ?_
      obtain rfl := someI hM
      exact hQ _ _ _ (fin1r Try.results15 ⟨rfl, eje7_1_2⟩ ⟨rfl, hst⟩)
    refine loopQ (fun s a w => ∃ (x22 : Int) (f : Nat → Value), x22 = s ∧ a = fr 35 f ∧ f 0 = h2.v ∧ f 3 = .int .i64 (x1.length : Int) ∧ f 4 = .int .i64 x22 ∧ St w0 (ros) (rs) w) go7 ⟨_, _, rfl, rfl, rfl, rfl, rfl, hst⟩ ?_
    clear hst
    rintro _ _ w r7_ ⟨x22, f, rfl, rfl, e7_0, e7_3, e7_4, hst⟩ hM7 ho7 Q100007 n7 zz7
    refine seqQ fun Q22 k22 z22 => ?_
    refine seqQ fun Q23 k23 z23 => ?_
    refine wp_region_lit ?_
    refine Y wn rfl (ym (v := .int .i64 x22) (et rfl e7_4)) ?_
    refine Y wn rfl (ym (v := .int .i64 (x1.length : Int)) (et rfl e7_3)) ?_
    refine Y wn rfl (ylss (et rfl rfl) (et rfl rfl)) ?_
    refine wpList_nil ?_
    refine k23 _ _ ?_
    rcases iteS hM7 with ⟨c42, hM7⟩ | ⟨c42, hM7⟩
    · refine condT (et rfl rfl) (decide_eq_true c42) ?_
      refine wp_skip ?_
      refine k22 _ _ ?_
      refine seqQ fun Q24 k24 z24 => ?_
      refine blockQ fun Q25 qb25 => ?_
      refine seqQ fun Q26 k26 z26 => ?_
      refine wp_region_lit ?_
      refine Y wn rfl (ym (v := h2.v) (et rfl e7_0)) ?_
      refine Y wn rfl (ym (v := .int .i64 x22) (et rfl e7_4)) ?_
      obtain ⟨x43, gx43, hM7⟩ := bs hM7
      refine Y wn rfl (yIa SL_22 (et rfl rfl) (et rfl rfl) hst (rdI q1) gx43) ?_
      refine Y wn rfl (yI O_3 (et rfl rfl) hst (rdI q1) gx43) ?_
      refine Y wn rfl (yneq (et rfl rfl) rfl) ?_
      refine Y wn rfl (ym (v := .bool (!(decide (x43 = (-1))))) (et rfl rfl)) ?_
      obtain ⟨r50, gr50, hM7⟩ := bs hM7
      refine joinW 15 (fun f w => f 0 = h2.v ∧ f 3 = .int .i64 (x1.length : Int) ∧ f 4 = .int .i64 x22 ∧ f 34 = .bool r50 ∧ St w0 (ros) (rs) w) (fun j9 => ?_) ?_
      · rcases iteS gr50 with ⟨c52, gr50⟩ | ⟨c52, gr50⟩
        · refine Gn (wx rfl rfl rfl (nF (decide_eq_true c52))) rfl ?_
          refine Gn (wx rfl rfl rfl (nF (decide_eq_true c52))) rfl ?_
          refine Gn (wx rfl rfl rfl (nF (decide_eq_true c52))) rfl ?_
          refine Gn (wx rfl rfl rfl (nF (decide_eq_true c52))) rfl ?_
          refine Gn (wx rfl rfl rfl (nF (decide_eq_true c52))) rfl ?_
          refine Gn (wx rfl rfl rfl (nF (decide_eq_true c52))) rfl ?_
          refine Gn (wx rfl rfl rfl (nF (decide_eq_true c52))) rfl ?_
          refine Gn (wxu rfl rfl rfl) rfl ?_
          refine Gn (wxu rfl rfl rfl) rfl ?_
          refine Gn (wxu rfl rfl rfl) rfl ?_
          refine Gn (wxu rfl rfl rfl) rfl ?_
          refine Gn (wxu rfl rfl rfl) rfl ?_
          refine Gn (wxu rfl rfl rfl) rfl ?_
          refine Gn (wx rfl rfl rfl (nF (decide_eq_true c52))) rfl ?_
          refine Y wn rfl (ypf (v := .bool false) (et rfl rfl) (nF (decide_eq_true c52)) rfl) ?_
          obtain rfl := someI gr50
          exact j9 _ _ ⟨e7_0, e7_3, e7_4, rfl, hst⟩
        · refine Y (wg rfl rfl rfl (nT (decide_eq_false c52))) rfl (ym (v := h2.v) (et rfl e7_0)) ?_
          refine Y (wg rfl rfl rfl (nT (decide_eq_false c52))) rfl (ym (v := .int .i64 x22) (et rfl e7_4)) ?_
          obtain ⟨x53, gx53, gr50⟩ := bs gr50
          refine Y (wg rfl rfl rfl (nT (decide_eq_false c52))) rfl (yIa SL_22 (et rfl rfl) (et rfl rfl) hst (rdI q1) gx53) ?_
          refine Y (wg rfl rfl rfl (nT (decide_eq_false c52))) rfl (yI O_3 (et rfl rfl) hst (rdI q1) gx53) ?_
          refine Y (wg rfl rfl rfl (nT (decide_eq_false c52))) rfl (ym (v := .int .i64 x22) (et rfl e7_4)) ?_
          refine Y (wg rfl rfl rfl (nT (decide_eq_false c52))) rfl (yleq (et rfl rfl) (et rfl rfl)) ?_
          refine Y (wg rfl rfl rfl (nT (decide_eq_false c52))) rfl (ym (v := .bool (decide (x53 ≤ x22))) (et rfl rfl)) ?_
          obtain ⟨r55, gr55, gr50⟩ := bs gr50
          refine joinW 7 (fun f w => f 0 = h2.v ∧ f 3 = .int .i64 (x1.length : Int) ∧ f 4 = .int .i64 x22 ∧ f 19 = .bool (!(decide (x43 = (-1)))) ∧ f 20 = h2.v ∧ f 21 = .int .i64 x22 ∧ f 23 = .int .i64 x53 ∧ f 24 = .int .i64 x22 ∧ f 25 = .bool (decide (x53 ≤ x22)) ∧ f 26 = .bool (decide (x53 ≤ x22)) ∧ f 33 = .bool r55 ∧ St w0 (ros) (rs) w) (fun j10 => ?_) ?_
          · rcases iteS gr55 with ⟨c57, gr55⟩ | ⟨c57, gr55⟩
            · refine Gn (wx rfl rfl rfl (decide_eq_true c57)) rfl ?_
              refine Gn (wx rfl rfl rfl (decide_eq_true c57)) rfl ?_
              refine Gn (wx rfl rfl rfl (decide_eq_true c57)) rfl ?_
              refine Gn (wx rfl rfl rfl (decide_eq_true c57)) rfl ?_
              refine Gn (wx rfl rfl rfl (decide_eq_true c57)) rfl ?_
              refine Gn (wx rfl rfl rfl (decide_eq_true c57)) rfl ?_
              refine Y (wg rfl rfl rfl (nT (decide_eq_false c52))) rfl (ypt (v := .bool true) (et rfl rfl) (decide_eq_true c57) rfl) ?_
              obtain rfl := someI gr55
              exact j10 _ _ ⟨e7_0, e7_3, e7_4, rfl, rfl, rfl, rfl, rfl, rfl, rfl, rfl, hst⟩
            · refine Y (wg rfl rfl rfl (decide_eq_false c57)) rfl (ym (v := h2.v) (et rfl e7_0)) ?_
              refine Y (wg rfl rfl rfl (decide_eq_false c57)) rfl (ym (v := .int .i64 x22) (et rfl e7_4)) ?_
              obtain ⟨x58, gx58, gr55⟩ := bs gr55
              refine Y (wg rfl rfl rfl (decide_eq_false c57)) rfl (yIa SL_22 (et rfl rfl) (et rfl rfl) hst (rdI q1) gx58) ?_
              refine Y (wg rfl rfl rfl (decide_eq_false c57)) rfl (yI O_3 (et rfl rfl) hst (rdI q1) gx58) ?_
              refine Y (wg rfl rfl rfl (decide_eq_false c57)) rfl (ym (v := .int .i64 (x1.length : Int)) (et rfl e7_3)) ?_
              refine Y (wg rfl rfl rfl (decide_eq_false c57)) rfl (ygeq (et rfl rfl) (et rfl rfl)) ?_
              refine Y (wg rfl rfl rfl (nT (decide_eq_false c52))) rfl (ypf (v := .bool (decide ((x1.length : Int) ≤ x58))) (et rfl rfl) (decide_eq_false c57) (et rfl rfl)) ?_
              obtain rfl := someI gr55
              exact j10 _ _ ⟨e7_0, e7_3, e7_4, rfl, rfl, rfl, rfl, rfl, rfl, rfl, rfl, hst⟩
          clear hst
          rintro f w ⟨e56_0, e56_3, e56_4, e56_19, e56_20, e56_21, e56_23, e56_24, e56_25, e56_26, e56_33, hst⟩
          refine Y wn rfl (ypt (v := .bool r55) (et rfl e56_19) (nT (decide_eq_false c52)) (et rfl e56_33)) ?_
          obtain rfl := someI gr50
          exact j9 _ _ ⟨e56_0, e56_3, e56_4, rfl, hst⟩
      clear hst
      rintro f w ⟨e51_0, e51_3, e51_4, e51_34, hst⟩
      refine wpList_nil ?_
      refine k26 _ _ ?_
      rcases iteS hM7 with ⟨c59, hM7⟩ | ⟨c59, hM7⟩
      · refine condT (et rfl e51_34) c59 ?_
        refine seqQ fun Q27 k27 z27 => ?_
        refine wp_region_lit ?_
        refine Y wn rfl (ya (v := .int .i64 190) rfl) ?_
        refine wpList_nil ?_
        refine k27 _ _ ?_
        refine wp_ret ?_
        refine qb25 _ _ _ ?_
        refine z24 _ _ _ rfl ?_
        obtain rfl := someI hM7
        refine zz7 _ _ _ _ rfl rfl ?_
        exact je7_1 _ _ rfl hst (ho7 _ rfl)
      · refine condF (et rfl e51_34) (bfalse c59) ?_
        refine wp_skip ?_
        refine qb25 _ _ _ ?_
        refine k24 _ _ ?_
        refine wp_region_lit ?_
        refine Y wn rfl (ym (v := .int .i64 x22) (et rfl e51_4)) ?_
        refine Y wn rfl (yadd (et rfl rfl) rfl) ?_
        refine Y wn rfl (ya (v := .int .i64 (wa .i64 x22 1)) (et rfl rfl)) ?_
        refine wpList_nil ?_
        obtain rfl := someI hM7
        exact n7 _ _ _ rfl ⟨_, _, rfl, rfl, e51_0, e51_3, rfl, hst⟩
    · refine condF (et rfl rfl) (decide_eq_false c42) ?_
      refine wp_exit ?_
      refine z22 _ _ _ rfl ?_
      obtain rfl := someI hM7
      refine zz7 _ _ _ _ rfl rfl ?_
      exact je7_0 _ _ hst (ho7 _ rfl)

theorem sparseref19_walk_step {rec : (List Int) → Int → (List Int) → Option ((List Int))} (hrec : ∀ {w0 : World} {ros : List Fact} {rs : List Res} {w : World} {x1 : List Int} {x3 : Int} {x4 : List Int} {h2 : Hdr} {h5 : Hdr} {out : (List Int)} (hM : rec x1 x3 x4 = some out) (q1 : imm (rI .i64) h2.v x1 ∈ ros) (hst : St w0 ros (row 3 (rI .i64) h5.v x4 :: rs) w), Calls Try.prog 42 #[h2.v, .int .i64 x3, h5.v] w (fun e w => ∃ (h100001 : Hdr), e = .returned (h100001.v) ∧ St w0 (ros) (row 3 (rI .i64) h100001.v out :: rs) w)) {w0 : World} {ros : List Fact} {rs : List Res} {w : World} {x1 : List Int} {x3 : Int} {x4 : List Int} {h2 : Hdr} {h5 : Hdr} {out : (List Int)} (hM : sparseref19_walk_body rec x1 x3 x4 = some out) (q1 : imm (rI .i64) h2.v x1 ∈ ros) (hst : St w0 ros (row 3 (rI .i64) h5.v x4 :: rs) w) :
    Calls Try.prog 42 #[h2.v, .int .i64 x3, h5.v] w (fun e w => ∃ (h100001 : Hdr), e = .returned (h100001.v) ∧ St w0 (ros) (row 3 (rI .i64) h100001.v out :: rs) w) := by
  refine enterQ Try.func42 rfl Try.ntmps42 rfl fun Q hQ => ?_
  refine seqQ fun Q1 k1 z1 => ?_
  refine wp_region_lit ?_
  refine Y wn rfl (ya (v := hnil.v) rfl) ?_
  refine wpList_nil ?_
  refine k1 _ _ ?_
  refine seqQ fun Q2 k2 z2 => ?_
  refine seqQ fun Q3 k3 z3 => ?_
  refine wp_region_lit ?_
  refine Y wn rfl (ya (v := .int .i64 0) rfl) ?_
  refine wpList_nil ?_
  refine k3 _ _ ?_
  refine blockQ fun Q4 qb4 => ?_
  obtain ⟨o3, go3, hM⟩ := bs hM
  have je3_0 : ∀ (x31 : List Int) (h30 : Hdr) (f : Nat → Value) (w : World), f 1 = .int .i64 x3 → f 2 = h30.v → St w0 (ros) (row 3 (rI .i64) h30.v x31 :: rs) w → x31 = o3 → Q4 (.exit 0) (fr 27 f) w := by
    intro x31 h30 f w eje3_0_1 eje3_0_2 hst ho
    subst ho
    refine qb4 _ _ _ ?_
    refine k2 _ _ ?_
    refine seqQ fun Q15 k15 z15 => ?_
    refine wp_region_lit ?_
    refine Y wn rfl (ym (v := h30.v) (et rfl eje3_0_2)) ?_
    refine Y wn rfl (ym (v := .int .i64 x3) (et rfl eje3_0_1)) ?_
    refine YH wn rfl (rLt (n := 1) (l := [x3]) hst SL_22 [.int .i64 x3] (bp1 (et rfl rfl)) rfl rfl (mks1 (cs := [.int .i64 x3]) rfl mkI mks0)) ?_
    clear hst
    intro h32 w hst
    obtain ⟨x34, gx34, hM⟩ := bs hM
    replace hst := hst.pk 2 [1, 0] rfl
    refine YH wn rfl (rAp hst SL_22 (et rfl rfl) (et rfl rfl) (rdO (mtR mhR)) gx34) ?_
    clear hst
    intro h33 w hst
    refine Y wn rfl (ya (v := h33.v) (et rfl rfl)) ?_
    refine wpList_nil ?_
    refine k15 _ _ ?_
    refine wp_ret ?_
    obtain rfl := someI hM
    exact hQ _ _ _ (fin1r Try.results42 ⟨rfl, rfl⟩ ⟨_, rfl, (hst.pk 2 [0] rfl)⟩)
  refine loopQ (fun s a w => ∃ (x16 : List Int) (x17 : Int) (f : Nat → Value) (h15 : Hdr), (x16, x17) = s ∧ a = fr 27 f ∧ f 0 = h2.v ∧ f 1 = .int .i64 x3 ∧ f 2 = h15.v ∧ f 7 = .int .i64 x17 ∧ St w0 (ros) (row 3 (rI .i64) h15.v x16 :: rs) w) go3 ⟨_, _, _, _, rfl, rfl, rfl, rfl, rfl, rfl, hst⟩ ?_
  clear hst
  rintro _ _ w r3_ ⟨x16, x17, f, h15, rfl, rfl, e3_0, e3_1, e3_2, e3_7, hst⟩ hM3 ho3 Q100003 n3 zz3
  refine seqQ fun Q16 k16 z16 => ?_
  refine seqQ fun Q17 k17 z17 => ?_
  refine wp_region_lit ?_
  refine Y wn rfl (ym (v := .int .i64 x17) (et rfl e3_7)) ?_
  refine Y wn rfl (ym (v := .int .i64 x3) (et rfl e3_1)) ?_
  refine Y wn rfl (ylss (et rfl rfl) (et rfl rfl)) ?_
  refine wpList_nil ?_
  refine k17 _ _ ?_
  rcases iteS hM3 with ⟨c35, hM3⟩ | ⟨c35, hM3⟩
  · refine condT (et rfl rfl) (decide_eq_true c35) ?_
    refine wp_skip ?_
    refine k16 _ _ ?_
    refine seqQ fun Q18 k18 z18 => ?_
    refine blockQ fun Q19 qb19 => ?_
    refine seqQ fun Q20 k20 z20 => ?_
    refine wp_region_lit ?_
    refine Y wn rfl (ym (v := h2.v) (et rfl e3_0)) ?_
    refine Y wn rfl (ym (v := .int .i64 x17) (et rfl e3_7)) ?_
    obtain ⟨x36, gx36, hM3⟩ := bs hM3
    refine Y wn rfl (yIa SL_22 (et rfl rfl) (et rfl rfl) hst (rdI q1) gx36) ?_
    refine Y wn rfl (yI O_3 (et rfl rfl) hst (rdI q1) gx36) ?_
    refine Y wn rfl (ym (v := .int .i64 x3) (et rfl e3_1)) ?_
    refine Y wn rfl (yeql (et rfl rfl) (et rfl rfl)) ?_
    refine wpList_nil ?_
    refine k20 _ _ ?_
    have j4 : ∀ (x40 : List Int) (h39 : Hdr) (f : Nat → Value) (w : World), f 0 = h2.v → f 1 = .int .i64 x3 → f 2 = h39.v → f 7 = .int .i64 x17 → St w0 (ros) (row 3 (rI .i64) h39.v x40 :: rs) w → sparseref19_walk_j4 x17 x40 = some r3_ → Q19 .normal (fr 27 f) w := by
      intro x40 h39 f w ej4_0 ej4_1 ej4_2 ej4_7 hst hM
      refine qb19 _ _ _ ?_
      refine k18 _ _ ?_
      refine wp_region_lit ?_
      refine Y wn rfl (ym (v := .int .i64 x17) (et rfl ej4_7)) ?_
      refine Y wn rfl (yadd (et rfl rfl) rfl) ?_
      refine Y wn rfl (ya (v := .int .i64 (wa .i64 x17 1)) (et rfl rfl)) ?_
      refine wpList_nil ?_
      obtain rfl := someI hM
      exact n3 _ _ _ rfl ⟨_, _, _, _, rfl, rfl, ej4_0, ej4_1, ej4_2, rfl, hst⟩
    rcases iteS hM3 with ⟨c41, hM3⟩ | ⟨c41, hM3⟩
    · refine condT (et rfl rfl) (decide_eq_true c41) ?_
      refine wp_region_lit ?_
      refine Y wn rfl (ym (v := h2.v) (et rfl e3_0)) ?_
      refine Y wn rfl (ym (v := .int .i64 x17) (et rfl e3_7)) ?_
      refine Y wn rfl (ym (v := h15.v) (et rfl e3_2)) ?_
      obtain ⟨r42, gr42, hM3⟩ := bs hM3
      refine Yc wn rfl (yCall FN_42 (a3 (et rfl rfl) (et rfl rfl) (et rfl rfl))) (hrec (hM := gr42) (hst := hst) (q1 := q1)) ?_
      clear hst
      rintro _ w ⟨h43, rfl, hst⟩
      refine ⟨_, rfl, ?_⟩
      refine Y wn rfl (ya (v := h43.v) (et rfl rfl)) ?_
      refine wpList_nil ?_
      exact j4 _ _ _ _ e3_0 e3_1 rfl e3_7 hst hM3
    · refine condF (et rfl rfl) (decide_eq_false c41) ?_
      refine wp_skip ?_
      exact j4 _ _ _ _ e3_0 e3_1 e3_2 e3_7 hst hM3
  · refine condF (et rfl rfl) (decide_eq_false c35) ?_
    refine wp_exit ?_
    refine z16 _ _ _ rfl ?_
    obtain rfl := someI hM3
    refine zz3 _ _ _ _ rfl rfl ?_
    exact je3_0 _ _ _ _ e3_1 e3_2 hst (ho3 _ rfl)
theorem sparseref19_walk_ok_n (n : Nat) : ∀ {w0 : World} {ros : List Fact} {rs : List Res} {w : World} {x1 : List Int} {x3 : Int} {x4 : List Int} {h2 : Hdr} {h5 : Hdr} {out : (List Int)} (hM : sparseref19_walk n x1 x3 x4 = some out) (q1 : imm (rI .i64) h2.v x1 ∈ ros) (hst : St w0 ros (row 3 (rI .i64) h5.v x4 :: rs) w),
    Calls Try.prog 42 #[h2.v, .int .i64 x3, h5.v] w (fun e w => ∃ (h100001 : Hdr), e = .returned (h100001.v) ∧ St w0 (ros) (row 3 (rI .i64) h100001.v out :: rs) w) := by
  induction n with
  | zero => intro _ _ _ _ _ _ _ _ _ out hM; cases hM
  | succ n ih => exact fun hM q1 hst => sparseref19_walk_step (rec := sparseref19_walk n) ih (hM := hM) (q1 := q1) (hst := hst)
theorem sparseref19_walk_ok {w0 : World} {ros : List Fact} {rs : List Res} {w : World} {x1 : List Int} {x3 : Int} {x4 : List Int} {h2 : Hdr} {h5 : Hdr} {out : (List Int)} (hM : sparseref19_walk FUEL x1 x3 x4 = some out) (q1 : imm (rI .i64) h2.v x1 ∈ ros) (hst : St w0 ros (row 3 (rI .i64) h5.v x4 :: rs) w) :
    Calls Try.prog 42 #[h2.v, .int .i64 x3, h5.v] w (fun e w => ∃ (h100001 : Hdr), e = .returned (h100001.v) ∧ St w0 (ros) (row 3 (rI .i64) h100001.v out :: rs) w) := sparseref19_walk_ok_n FUEL (hM := hM) (q1 := q1) (hst := hst)

theorem sparseref19_Postorder_ok {w0 : World} {ros : List Fact} {rs : List Res} {w : World} {x1 : List Int} {h2 : Hdr} {out : (List Int) × Int} (hM : sparseref19_Postorder x1 = some out) (q1 : imm (rI .i64) h2.v x1 ∈ ros) (hst : St w0 ros (rs) w) :
    Calls Try.prog 18 #[h2.v] w (fun e w => ∃ (h100001 : Hdr), e = .returned (.tuple #[h100001.v, .int .i64 out.2]) ∧ St w0 (ros) (row 3 (rI .i64) h100001.v out.1 :: rs) w) := by
  refine enterQ Try.func18 rfl Try.ntmps18 rfl fun Q hQ => ?_
  refine seqQ fun Q1 k1 z1 => ?_
  refine wp_region_lit ?_
  refine Y wn rfl (ya (v := hnil.v) rfl) ?_
  refine Y wn rfl (ya (v := .int .i64 0) rfl) ?_
  refine wpList_nil ?_
  refine k1 _ _ ?_
  refine seqQ fun Q2 k2 z2 => ?_
  refine seqQ fun Q3 k3 z3 => ?_
  refine wp_region_lit ?_
  refine Y wn rfl (ym (v := h2.v) (et rfl rfl)) ?_
  obtain ⟨r3, gr3, hM⟩ := bs hM
  refine Yc wn rfl (yCall FN_15 (a1 (et rfl rfl))) (sparseref19_Check_ok (hM := gr3) (hst := hst) (q1 := q1)) ?_
  clear hst
  rintro _ w ⟨rfl, hst⟩
  refine ⟨_, rfl, ?_⟩
  refine Y wn rfl (ya (v := .int .i64 r3) (et rfl rfl)) ?_
  refine wpList_nil ?_
  refine k3 _ _ ?_
  refine seqQ fun Q4 k4 z4 => ?_
  refine wp_region_lit ?_
  refine Y wn rfl (ym (v := .int .i64 r3) (et rfl rfl)) ?_
  refine Y wn rfl (yneq (et rfl rfl) rfl) ?_
  refine wpList_nil ?_
  refine k4 _ _ ?_
  rcases iteS hM with ⟨c4, hM⟩ | ⟨c4, hM⟩
  · refine condF (et rfl rfl) (nF (decide_eq_true c4)) ?_
    refine wp_skip ?_
    refine k2 _ _ ?_
    refine seqQ fun Q5 k5 z5 => ?_
    refine wp_region_lit ?_
    refine Y wn rfl (ya (v := hnil.v) rfl) ?_
    refine wpList_nil ?_
    refine k5 _ _ ?_
    refine seqQ fun Q6 k6 z6 => ?_
    refine seqQ fun Q7 k7 z7 => ?_
    refine wp_region_lit ?_
    refine Y wn rfl (ya (v := .int .i64 0) rfl) ?_
    refine wpList_nil ?_
    refine k7 _ _ ?_
    refine blockQ fun Q8 qb8 => ?_
    obtain ⟨o3, go3, hM⟩ := bs hM
    have je3_0 : ∀ (x30 : List Int) (h29 : Hdr) (f : Nat → Value) (w : World), f 5 = h29.v → St w0 (ros) (row 3 (rI .i64) h29.v x30 :: rs) w → x30 = o3 → Q8 (.exit 0) (fr 28 f) w := by
      intro x30 h29 f w eje3_0_5 hst ho
      subst ho
      refine qb8 _ _ _ ?_
      refine k6 _ _ ?_
      refine seqQ fun Q19 k19 z19 => ?_
      refine wp_region_lit ?_
      refine Y wn rfl (ym (v := h29.v) (et rfl eje3_0_5)) ?_
      refine Y wn rfl (ya (v := h29.v) (et rfl rfl)) ?_
      refine Y wn rfl (ya (v := .int .i64 0) rfl) ?_
      refine wpList_nil ?_
      refine k19 _ _ ?_
      refine wp_ret ?_
      obtain rfl := someI hM
      exact hQ _ _ _ (fin2r Try.results18 ⟨rfl, rfl⟩ ⟨rfl, rfl⟩ ⟨_, rfl, hst⟩)
    replace hst := hst.rowNh 3 (rI .i64)
    refine loopQ (fun s a w => ∃ (x15 : List Int) (x16 : Int) (f : Nat → Value) (h14 : Hdr), (x15, x16) = s ∧ a = fr 28 f ∧ f 0 = h2.v ∧ f 5 = h14.v ∧ f 6 = .int .i64 x16 ∧ St w0 (ros) (row 3 (rI .i64) h14.v x15 :: rs) w) go3 ⟨_, _, _, _, rfl, rfl, rfl, rfl, rfl, hst⟩ ?_
    clear hst
    rintro _ _ w r3_ ⟨x15, x16, f, h14, rfl, rfl, e3_0, e3_5, e3_6, hst⟩ hM3 ho3 Q100003 n3 zz3
    refine seqQ fun Q20 k20 z20 => ?_
    refine seqQ fun Q21 k21 z21 => ?_
    refine wp_region_lit ?_
    refine Y wn rfl (ym (v := .int .i64 x16) (et rfl e3_6)) ?_
    refine Y wn rfl (ym (v := h2.v) (et rfl e3_0)) ?_
    refine Y wn rfl (yLen SL_22 (et rfl rfl) hst (rdI q1)) ?_
    refine Y wn rfl (ylss (et rfl rfl) (et rfl rfl)) ?_
    refine wpList_nil ?_
    refine k21 _ _ ?_
    rcases iteS hM3 with ⟨c31, hM3⟩ | ⟨c31, hM3⟩
    · refine condT (et rfl rfl) (decide_eq_true c31) ?_
      refine wp_skip ?_
      refine k20 _ _ ?_
      refine seqQ fun Q22 k22 z22 => ?_
      refine blockQ fun Q23 qb23 => ?_
      refine seqQ fun Q24 k24 z24 => ?_
      refine wp_region_lit ?_
      refine Y wn rfl (ym (v := h2.v) (et rfl e3_0)) ?_
      refine Y wn rfl (ym (v := .int .i64 x16) (et rfl e3_6)) ?_
      obtain ⟨x32, gx32, hM3⟩ := bs hM3
      refine Y wn rfl (yIa SL_22 (et rfl rfl) (et rfl rfl) hst (rdI q1) gx32) ?_
      refine Y wn rfl (yI O_3 (et rfl rfl) hst (rdI q1) gx32) ?_
      refine Y wn rfl (yeql (et rfl rfl) rfl) ?_
      refine wpList_nil ?_
      refine k24 _ _ ?_
      have j4 : ∀ (x36 : List Int) (h35 : Hdr) (f : Nat → Value) (w : World), f 0 = h2.v → f 5 = h35.v → f 6 = .int .i64 x16 → St w0 (ros) (row 3 (rI .i64) h35.v x36 :: rs) w → sparseref19_Postorder_j4 x16 x36 = some r3_ → Q23 .normal (fr 28 f) w := by
        intro x36 h35 f w ej4_0 ej4_5 ej4_6 hst hM
        refine qb23 _ _ _ ?_
        refine k22 _ _ ?_
        refine wp_region_lit ?_
        refine Y wn rfl (ym (v := .int .i64 x16) (et rfl ej4_6)) ?_
        refine Y wn rfl (yadd (et rfl rfl) rfl) ?_
        refine Y wn rfl (ya (v := .int .i64 (wa .i64 x16 1)) (et rfl rfl)) ?_
        refine wpList_nil ?_
        obtain rfl := someI hM
        exact n3 _ _ _ rfl ⟨_, _, _, _, rfl, rfl, ej4_0, ej4_5, rfl, hst⟩
      rcases iteS hM3 with ⟨c37, hM3⟩ | ⟨c37, hM3⟩
      · refine condT (et rfl rfl) (decide_eq_true c37) ?_
        refine wp_region_lit ?_
        refine Y wn rfl (ym (v := h2.v) (et rfl e3_0)) ?_
        refine Y wn rfl (ym (v := .int .i64 x16) (et rfl e3_6)) ?_
        refine Y wn rfl (ym (v := h14.v) (et rfl e3_5)) ?_
        obtain ⟨r38, gr38, hM3⟩ := bs hM3
        refine Yc wn rfl (yCall FN_42 (a3 (et rfl rfl) (et rfl rfl) (et rfl rfl))) (sparseref19_walk_ok (hM := gr38) (hst := hst) (q1 := q1)) ?_
        clear hst
        rintro _ w ⟨h39, rfl, hst⟩
        refine ⟨_, rfl, ?_⟩
        refine Y wn rfl (ya (v := h39.v) (et rfl rfl)) ?_
        refine wpList_nil ?_
        exact j4 _ _ _ _ e3_0 rfl e3_6 hst hM3
      · refine condF (et rfl rfl) (decide_eq_false c37) ?_
        refine wp_skip ?_
        exact j4 _ _ _ _ e3_0 e3_5 e3_6 hst hM3
    · refine condF (et rfl rfl) (decide_eq_false c31) ?_
      refine wp_exit ?_
      refine z20 _ _ _ rfl ?_
      obtain rfl := someI hM3
      refine zz3 _ _ _ _ rfl rfl ?_
      exact je3_0 _ _ _ _ e3_5 hst (ho3 _ rfl)
  · refine condT (et rfl rfl) (nT (decide_eq_false c4)) ?_
    refine seqQ fun Q25 k25 z25 => ?_
    refine wp_region_lit ?_
    refine Y wn rfl (ym (v := .int .i64 r3) (et rfl rfl)) ?_
    refine Y wn rfl (ya (v := hnil.v) rfl) ?_
    refine Y wn rfl (ya (v := .int .i64 r3) (et rfl rfl)) ?_
    refine wpList_nil ?_
    refine k25 _ _ ?_
    refine wp_ret ?_
    refine z2 _ _ _ rfl ?_
    obtain rfl := someI hM
    replace hst := hst.rowNh 3 (rI .i64)
    exact hQ _ _ _ (fin2r Try.results18 ⟨rfl, rfl⟩ ⟨rfl, rfl⟩ ⟨_, rfl, hst⟩)

theorem etree_Depths_ok {w0 : World} {ros : List Fact} {rs : List Res} {w : World} {x1 : List Int} {h2 : Hdr} {out : (List Int) × Int} (hM : etree_Depths x1 = some out) (q1 : imm (rI .i64) h2.v x1 ∈ ros) (hst : St w0 ros (rs) w) :
    Calls Try.prog 19 #[h2.v] w (fun e w => ∃ (h100001 : Hdr), e = .returned (.tuple #[h100001.v, .int .i64 out.2]) ∧ St w0 (ros) (row 3 (rI .i64) h100001.v out.1 :: rs) w) := by
  refine enterQ Try.func19 rfl Try.ntmps19 rfl fun Q hQ => ?_
  refine seqQ fun Q1 k1 z1 => ?_
  refine wp_region_lit ?_
  refine Y wn rfl (ya (v := hnil.v) rfl) ?_
  refine Y wn rfl (ya (v := .int .i64 0) rfl) ?_
  refine wpList_nil ?_
  refine k1 _ _ ?_
  refine seqQ fun Q2 k2 z2 => ?_
  refine wp_region_lit ?_
  refine Y wn rfl (ym (v := h2.v) (et rfl rfl)) ?_
  obtain ⟨r3, gr3, hM⟩ := bs hM
  refine Yc wn rfl (yCall FN_14 (a1 (et rfl rfl))) (etree_Check_ok (hM := gr3) (hst := hst) (q1 := q1)) ?_
  clear hst
  rintro _ w ⟨rfl, hst⟩
  refine ⟨_, rfl, ?_⟩
  refine Y wn rfl (ya (v := .int .i64 r3) (et rfl rfl)) ?_
  refine wpList_nil ?_
  refine k2 _ _ ?_
  refine seqQ fun Q3 k3 z3 => ?_
  refine seqQ fun Q4 k4 z4 => ?_
  refine wp_region_lit ?_
  refine Y wn rfl (ym (v := .int .i64 r3) (et rfl rfl)) ?_
  refine Y wn rfl (yneq (et rfl rfl) rfl) ?_
  refine wpList_nil ?_
  refine k4 _ _ ?_
  rcases iteS hM with ⟨c4, hM⟩ | ⟨c4, hM⟩
  · refine condF (et rfl rfl) (nF (decide_eq_true c4)) ?_
    refine wp_skip ?_
    refine k3 _ _ ?_
    refine seqQ fun Q5 k5 z5 => ?_
    refine wp_region_lit ?_
    refine Y wn rfl (ym (v := h2.v) (et rfl rfl)) ?_
    refine Y wn rfl (yLen SL_22 (et rfl rfl) hst (rdI q1)) ?_
    obtain ⟨x7, gx7, hM⟩ := bs hM
    refine YH wn rfl (rMk hst SL_22 (et rfl rfl) gx7) ?_
    clear hst
    intro h5 w hst
    refine Y wn rfl (ya (v := h5.v) (et rfl rfl)) ?_
    refine wpList_nil ?_
    refine k5 _ _ ?_
    refine seqQ fun Q6 k6 z6 => ?_
    refine seqQ fun Q7 k7 z7 => ?_
    refine wp_region_lit ?_
    refine Y wn rfl (ym (v := h2.v) (et rfl rfl)) ?_
    refine Y wn rfl (yLen SL_22 (et rfl rfl) hst (rdI q1)) ?_
    refine Y wn rfl (ysub (et rfl rfl) rfl) ?_
    refine Y wn rfl (ya (v := .int .i64 (ws .i64 (x1.length : Int) 1)) (et rfl rfl)) ?_
    refine wpList_nil ?_
    refine k7 _ _ ?_
    refine blockQ fun Q8 qb8 => ?_
    obtain ⟨o3, go3, hM⟩ := bs hM
    have je3_0 : ∀ (x28 : List Int) (f : Nat → Value) (w : World), f 5 = h5.v → St w0 (ros) (row 3 (rI .i64) h5.v x28 :: rs) w → x28 = o3 → Q8 (.exit 0) (fr 38 f) w := by
      intro x28 f w eje3_0_5 hst ho
      subst ho
      refine qb8 _ _ _ ?_
      refine k6 _ _ ?_
      refine seqQ fun Q21 k21 z21 => ?_
      refine wp_region_lit ?_
      refine Y wn rfl (ym (v := h5.v) (et rfl eje3_0_5)) ?_
      refine Y wn rfl (ya (v := h5.v) (et rfl rfl)) ?_
      refine Y wn rfl (ya (v := .int .i64 0) rfl) ?_
      refine wpList_nil ?_
      refine k21 _ _ ?_
      refine wp_ret ?_
      obtain rfl := someI hM
      exact hQ _ _ _ (fin2r Try.results19 ⟨rfl, rfl⟩ ⟨rfl, rfl⟩ ⟨_, rfl, hst⟩)
    refine loopQ (fun s a w => ∃ (x16 : List Int) (x17 : Int) (f : Nat → Value), (x16, x17) = s ∧ a = fr 38 f ∧ f 0 = h2.v ∧ f 5 = h5.v ∧ f 6 = .int .i64 x17 ∧ St w0 (ros) (row 3 (rI .i64) h5.v x16 :: rs) w) go3 ⟨_, _, _, rfl, rfl, rfl, rfl, rfl, hst⟩ ?_
    clear hst
    rintro _ _ w r3_ ⟨x16, x17, f, rfl, rfl, e3_0, e3_5, e3_6, hst⟩ hM3 ho3 Q100003 n3 zz3
    refine seqQ fun Q22 k22 z22 => ?_
    refine seqQ fun Q23 k23 z23 => ?_
    refine wp_region_lit ?_
    refine Y wn rfl (ym (v := .int .i64 x17) (et rfl e3_6)) ?_
    refine Y wn rfl (ygeq (et rfl rfl) rfl) ?_
    refine wpList_nil ?_
    refine k23 _ _ ?_
    rcases iteS hM3 with ⟨c29, hM3⟩ | ⟨c29, hM3⟩
    · refine condT (et rfl rfl) (decide_eq_true c29) ?_
      refine wp_skip ?_
      refine k22 _ _ ?_
      refine seqQ fun Q24 k24 z24 => ?_
      refine blockQ fun Q25 qb25 => ?_
      refine seqQ fun Q26 k26 z26 => ?_
      refine wp_region_lit ?_
      refine Y wn rfl (ym (v := h2.v) (et rfl e3_0)) ?_
      refine Y wn rfl (ym (v := .int .i64 x17) (et rfl e3_6)) ?_
      obtain ⟨x30, gx30, hM3⟩ := bs hM3
      refine Y wn rfl (yIa SL_22 (et rfl rfl) (et rfl rfl) hst (rdI q1) gx30) ?_
      refine Y wn rfl (yI O_3 (et rfl rfl) hst (rdI q1) gx30) ?_
      refine Y wn rfl (ya (v := .int .i64 x30) (et rfl rfl)) ?_
      refine wpList_nil ?_
      refine k26 _ _ ?_
      refine seqQ fun Q27 k27 z27 => ?_
      refine wp_region_lit ?_
      refine Y wn rfl (ym (v := .int .i64 x30) (et rfl rfl)) ?_
      refine Y wn rfl (yneq (et rfl rfl) rfl) ?_
      refine wpList_nil ?_
      refine k27 _ _ ?_
      have j4 : ∀ (x33 : List Int) (f : Nat → Value) (w : World), f 0 = h2.v → f 5 = h5.v → f 6 = .int .i64 x17 → St w0 (ros) (row 3 (rI .i64) h5.v x33 :: rs) w → etree_Depths_j4 x17 x33 = some r3_ → Q25 .normal (fr 38 f) w := by
        intro x33 f w ej4_0 ej4_5 ej4_6 hst hM
        refine qb25 _ _ _ ?_
        refine k24 _ _ ?_
        refine wp_region_lit ?_
        refine Y wn rfl (ym (v := .int .i64 x17) (et rfl ej4_6)) ?_
        refine Y wn rfl (ysub (et rfl rfl) rfl) ?_
        refine Y wn rfl (ya (v := .int .i64 (ws .i64 x17 1)) (et rfl rfl)) ?_
        refine wpList_nil ?_
        obtain rfl := someI hM
        exact n3 _ _ _ rfl ⟨_, _, _, rfl, rfl, ej4_0, ej4_5, rfl, hst⟩
      rcases iteS hM3 with ⟨c34, hM3⟩ | ⟨c34, hM3⟩
      · refine condF (et rfl rfl) (nF (decide_eq_true c34)) ?_
        refine wp_skip ?_
        exact j4 _ _ _ e3_0 e3_5 e3_6 hst hM3
      · refine condT (et rfl rfl) (nT (decide_eq_false c34)) ?_
        refine wp_region_lit ?_
        refine Y wn rfl (ym (v := h5.v) (et rfl e3_5)) ?_
        refine Y wn rfl (ym (v := .int .i64 x17) (et rfl e3_6)) ?_
        refine Y wn rfl (ym (v := h5.v) (et rfl e3_5)) ?_
        refine Y wn rfl (ym (v := .int .i64 x30) (et rfl rfl)) ?_
        obtain ⟨x35, gx35, hM3⟩ := bs hM3
        refine Y wn rfl (yIa SL_22 (et rfl rfl) (et rfl rfl) hst (rdO mhR) gx35) ?_
        refine Y wn rfl (yI O_3 (et rfl rfl) hst (rdO mhR) gx35) ?_
        refine Y wn rfl (yadd (et rfl rfl) rfl) ?_
        obtain ⟨x36, gx36, hM3⟩ := bs hM3
        refine Y wn rfl (yIs SL_22 (et rfl rfl) (et rfl rfl) hst (rdO mhR) gx36) ?_
        refine YT wn rfl (r_sti (cs := [.int .i64 (wa .i64 x35 1)]) hst O_3 rfl (et rfl rfl) (et rfl rfl) rfl mkI gx36) ?_
        clear hst
        intro w hst
        refine wpList_nil ?_
        exact j4 _ _ _ e3_0 e3_5 e3_6 hst hM3
    · refine condF (et rfl rfl) (decide_eq_false c29) ?_
      refine wp_exit ?_
      refine z22 _ _ _ rfl ?_
      obtain rfl := someI hM3
      refine zz3 _ _ _ _ rfl rfl ?_
      exact je3_0 _ _ _ e3_5 hst (ho3 _ rfl)
  · refine condT (et rfl rfl) (nT (decide_eq_false c4)) ?_
    refine seqQ fun Q28 k28 z28 => ?_
    refine wp_region_lit ?_
    refine Y wn rfl (ym (v := .int .i64 r3) (et rfl rfl)) ?_
    refine Y wn rfl (ya (v := hnil.v) rfl) ?_
    refine Y wn rfl (ya (v := .int .i64 r3) (et rfl rfl)) ?_
    refine wpList_nil ?_
    refine k28 _ _ ?_
    refine wp_ret ?_
    refine z3 _ _ _ rfl ?_
    obtain rfl := someI hM
    replace hst := hst.rowNh 3 (rI .i64)
    exact hQ _ _ _ (fin2r Try.results19 ⟨rfl, rfl⟩ ⟨rfl, rfl⟩ ⟨_, rfl, hst⟩)

theorem sparseref19_Depths_ok {w0 : World} {ros : List Fact} {rs : List Res} {w : World} {x1 : List Int} {h2 : Hdr} {out : (List Int) × Int} (hM : sparseref19_Depths x1 = some out) (q1 : imm (rI .i64) h2.v x1 ∈ ros) (hst : St w0 ros (rs) w) :
    Calls Try.prog 20 #[h2.v] w (fun e w => ∃ (h100001 : Hdr), e = .returned (.tuple #[h100001.v, .int .i64 out.2]) ∧ St w0 (ros) (row 3 (rI .i64) h100001.v out.1 :: rs) w) := by
  refine enterQ Try.func20 rfl Try.ntmps20 rfl fun Q hQ => ?_
  refine seqQ fun Q1 k1 z1 => ?_
  refine wp_region_lit ?_
  refine Y wn rfl (ya (v := hnil.v) rfl) ?_
  refine Y wn rfl (ya (v := .int .i64 0) rfl) ?_
  refine wpList_nil ?_
  refine k1 _ _ ?_
  refine seqQ fun Q2 k2 z2 => ?_
  refine seqQ fun Q3 k3 z3 => ?_
  refine wp_region_lit ?_
  refine Y wn rfl (ym (v := h2.v) (et rfl rfl)) ?_
  obtain ⟨r3, gr3, hM⟩ := bs hM
  refine Yc wn rfl (yCall FN_15 (a1 (et rfl rfl))) (sparseref19_Check_ok (hM := gr3) (hst := hst) (q1 := q1)) ?_
  clear hst
  rintro _ w ⟨rfl, hst⟩
  refine ⟨_, rfl, ?_⟩
  refine Y wn rfl (ya (v := .int .i64 r3) (et rfl rfl)) ?_
  refine wpList_nil ?_
  refine k3 _ _ ?_
  refine seqQ fun Q4 k4 z4 => ?_
  refine wp_region_lit ?_
  refine Y wn rfl (ym (v := .int .i64 r3) (et rfl rfl)) ?_
  refine Y wn rfl (yneq (et rfl rfl) rfl) ?_
  refine wpList_nil ?_
  refine k4 _ _ ?_
  rcases iteS hM with ⟨c4, hM⟩ | ⟨c4, hM⟩
  · refine condF (et rfl rfl) (nF (decide_eq_true c4)) ?_
    refine wp_skip ?_
    refine k2 _ _ ?_
    refine seqQ fun Q5 k5 z5 => ?_
    refine wp_region_lit ?_
    refine Y wn rfl (ya (v := hnil.v) rfl) ?_
    refine wpList_nil ?_
    refine k5 _ _ ?_
    refine seqQ fun Q6 k6 z6 => ?_
    refine seqQ fun Q7 k7 z7 => ?_
    refine wp_region_lit ?_
    refine Y wn rfl (ya (v := .int .i64 0) rfl) ?_
    refine wpList_nil ?_
    refine k7 _ _ ?_
    refine blockQ fun Q8 qb8 => ?_
    obtain ⟨o3, go3, hM⟩ := bs hM
    have je3_0 : ∀ (x44 : List Int) (h43 : Hdr) (f : Nat → Value) (w : World), f 5 = h43.v → St w0 (ros) (row 3 (rI .i64) h43.v x44 :: rs) w → x44 = o3 → Q8 (.exit 0) (fr 37 f) w := by
      intro x44 h43 f w eje3_0_5 hst ho
      subst ho
      refine qb8 _ _ _ ?_
      refine k6 _ _ ?_
      refine seqQ fun Q49 k49 z49 => ?_
      refine wp_region_lit ?_
      refine Y wn rfl (ym (v := h43.v) (et rfl eje3_0_5)) ?_
      refine Y wn rfl (ya (v := h43.v) (et rfl rfl)) ?_
      refine Y wn rfl (ya (v := .int .i64 0) rfl) ?_
      refine wpList_nil ?_
      refine k49 _ _ ?_
      refine wp_ret ?_
      obtain rfl := someI hM
      exact hQ _ _ _ (fin2r Try.results20 ⟨rfl, rfl⟩ ⟨rfl, rfl⟩ ⟨_, rfl, hst⟩)
    replace hst := hst.rowNh 3 (rI .i64)
    refine loopQ (fun s a w => ∃ (x22 : List Int) (x23 : Int) (f : Nat → Value) (h21 : Hdr), (x22, x23) = s ∧ a = fr 37 f ∧ f 0 = h2.v ∧ f 5 = h21.v ∧ f 6 = .int .i64 x23 ∧ St w0 (ros) (row 3 (rI .i64) h21.v x22 :: rs) w) go3 ⟨_, _, _, _, rfl, rfl, rfl, rfl, rfl, hst⟩ ?_
    clear hst
    rintro _ _ w r3_ ⟨x22, x23, f, h21, rfl, rfl, e3_0, e3_5, e3_6, hst⟩ hM3 ho3 Q100003 n3 zz3
    refine seqQ fun Q50 k50 z50 => ?_
    refine seqQ fun Q51 k51 z51 => ?_
    refine wp_region_lit ?_
    refine Y wn rfl (ym (v := .int .i64 x23) (et rfl e3_6)) ?_
    refine Y wn rfl (ym (v := h2.v) (et rfl e3_0)) ?_
    refine Y wn rfl (yLen SL_22 (et rfl rfl) hst (rdI q1)) ?_
    refine Y wn rfl (ylss (et rfl rfl) (et rfl rfl)) ?_
    refine wpList_nil ?_
    refine k51 _ _ ?_
    rcases iteS hM3 with ⟨c45, hM3⟩ | ⟨c45, hM3⟩
    · refine condT (et rfl rfl) (decide_eq_true c45) ?_
      refine wp_skip ?_
      refine k50 _ _ ?_
      refine seqQ fun Q52 k52 z52 => ?_
      refine blockQ fun Q53 qb53 => ?_
      refine seqQ fun Q54 k54 z54 => ?_
      refine wp_region_lit ?_
      refine Y wn rfl (ya (v := .int .i64 0) rfl) ?_
      refine wpList_nil ?_
      refine k54 _ _ ?_
      refine seqQ fun Q55 k55 z55 => ?_
      refine seqQ fun Q56 k56 z56 => ?_
      refine wp_region_lit ?_
      refine Y wn rfl (ym (v := h2.v) (et rfl e3_0)) ?_
      refine Y wn rfl (ym (v := .int .i64 x23) (et rfl e3_6)) ?_
      obtain ⟨x46, gx46, hM3⟩ := bs hM3
      refine Y wn rfl (yIa SL_22 (et rfl rfl) (et rfl rfl) hst (rdI q1) gx46) ?_
      refine Y wn rfl (yI O_3 (et rfl rfl) hst (rdI q1) gx46) ?_
      refine Y wn rfl (ya (v := .int .i64 x46) (et rfl rfl)) ?_
      refine wpList_nil ?_
      refine k56 _ _ ?_
      refine blockQ fun Q57 qb57 => ?_
      obtain ⟨o4, go4, hM3⟩ := bs hM3
      have je4_0 : ∀ (x55 : Int) (f : Nat → Value) (w : World), f 0 = h2.v → f 5 = h21.v → f 6 = .int .i64 x23 → f 7 = .int .i64 x55 → St w0 (ros) (row 3 (rI .i64) h21.v x22 :: rs) w → x55 = o4 → Q57 (.exit 2) (fr 37 f) w := by
        intro x55 f w eje4_0_0 eje4_0_5 eje4_0_6 eje4_0_7 hst ho
        subst ho
        refine qb57 _ _ _ ?_
        refine k55 _ _ ?_
        refine wp_region_lit ?_
        refine Y wn rfl (ym (v := h21.v) (et rfl eje4_0_5)) ?_
        refine Y wn rfl (ym (v := .int .i64 x55) (et rfl eje4_0_7)) ?_
        refine YH wn rfl (rLt (n := 1) (l := [x55]) hst SL_22 [.int .i64 x55] (bp1 (et rfl rfl)) rfl rfl (mks1 (cs := [.int .i64 x55]) rfl mkI mks0)) ?_
        clear hst
        intro h56 w hst
        obtain ⟨x58, gx58, hM3⟩ := bs hM3
        replace hst := hst.pk 2 [1, 0] rfl
        refine YH wn rfl (rAp hst SL_22 (et rfl rfl) (et rfl rfl) (rdO (mtR mhR)) gx58) ?_
        clear hst
        intro h57 w hst
        refine Y wn rfl (ya (v := h57.v) (et rfl rfl)) ?_
        refine wpList_nil ?_
        refine qb53 _ _ _ ?_
        refine k52 _ _ ?_
        refine wp_region_lit ?_
        refine Y wn rfl (ym (v := .int .i64 x23) (et rfl eje4_0_6)) ?_
        refine Y wn rfl (yadd (et rfl rfl) rfl) ?_
        refine Y wn rfl (ya (v := .int .i64 (wa .i64 x23 1)) (et rfl rfl)) ?_
        refine wpList_nil ?_
        obtain rfl := someI hM3
        exact n3 _ _ _ rfl ⟨_, _, _, _, rfl, rfl, eje4_0_0, rfl, rfl, (hst.pk 2 [0] rfl)⟩
      refine loopQ (fun s a w => ∃ (x49 : Int) (x50 : Int) (f : Nat → Value), (x49, x50) = s ∧ a = fr 37 f ∧ f 0 = h2.v ∧ f 5 = h21.v ∧ f 6 = .int .i64 x23 ∧ f 7 = .int .i64 x49 ∧ f 8 = .int .i64 x50 ∧ St w0 (ros) (row 3 (rI .i64) h21.v x22 :: rs) w) go4 ⟨_, _, _, rfl, rfl, e3_0, e3_5, e3_6, rfl, rfl, hst⟩ ?_
      clear hst
      rintro _ _ w r4_ ⟨x49, x50, f, rfl, rfl, e4_0, e4_5, e4_6, e4_7, e4_8, hst⟩ hM4 ho4 Q100004 n4 zz4
      refine seqQ fun Q66 k66 z66 => ?_
      refine seqQ fun Q67 k67 z67 => ?_
      refine wp_region_lit ?_
      refine Y wn rfl (ym (v := .int .i64 x50) (et rfl e4_8)) ?_
      refine Y wn rfl (ygeq (et rfl rfl) rfl) ?_
      refine wpList_nil ?_
      refine k67 _ _ ?_
      rcases iteS hM4 with ⟨c59, hM4⟩ | ⟨c59, hM4⟩
      · refine condT (et rfl rfl) (decide_eq_true c59) ?_
        refine wp_skip ?_
        refine k66 _ _ ?_
        refine seqQ fun Q68 k68 z68 => ?_
        refine blockQ fun Q69 qb69 => ?_
        refine wp_region_lit ?_
        refine Y wn rfl (ym (v := .int .i64 x49) (et rfl e4_7)) ?_
        refine Y wn rfl (yadd (et rfl rfl) rfl) ?_
        refine Y wn rfl (ya (v := .int .i64 (wa .i64 x49 1)) (et rfl rfl)) ?_
        refine wpList_nil ?_
        refine qb69 _ _ _ ?_
        refine k68 _ _ ?_
        refine wp_region_lit ?_
        refine Y wn rfl (ym (v := h2.v) (et rfl e4_0)) ?_
        refine Y wn rfl (ym (v := .int .i64 x50) (et rfl e4_8)) ?_
        obtain ⟨x60, gx60, hM4⟩ := bs hM4
        refine Y wn rfl (yIa SL_22 (et rfl rfl) (et rfl rfl) hst (rdI q1) gx60) ?_
        refine Y wn rfl (yI O_3 (et rfl rfl) hst (rdI q1) gx60) ?_
        refine Y wn rfl (ya (v := .int .i64 x60) (et rfl rfl)) ?_
        refine wpList_nil ?_
        obtain rfl := someI hM4
        exact n4 _ _ _ rfl ⟨_, _, _, rfl, rfl, e4_0, e4_5, e4_6, rfl, rfl, hst⟩
      · refine condF (et rfl rfl) (decide_eq_false c59) ?_
        refine wp_exit ?_
        refine z66 _ _ _ rfl ?_
        obtain rfl := someI hM4
        refine zz4 _ _ _ _ rfl rfl ?_
        exact je4_0 _ _ _ e4_0 e4_5 e4_6 e4_7 hst (ho4 _ rfl)
    · refine condF (et rfl rfl) (decide_eq_false c45) ?_
      refine wp_exit ?_
      refine z50 _ _ _ rfl ?_
      obtain rfl := someI hM3
      refine zz3 _ _ _ _ rfl rfl ?_
      exact je3_0 _ _ _ _ e3_5 hst (ho3 _ rfl)
  · refine condT (et rfl rfl) (nT (decide_eq_false c4)) ?_
    refine seqQ fun Q70 k70 z70 => ?_
    refine wp_region_lit ?_
    refine Y wn rfl (ym (v := .int .i64 r3) (et rfl rfl)) ?_
    refine Y wn rfl (ya (v := hnil.v) rfl) ?_
    refine Y wn rfl (ya (v := .int .i64 r3) (et rfl rfl)) ?_
    refine wpList_nil ?_
    refine k70 _ _ ?_
    refine wp_ret ?_
    refine z2 _ _ _ rfl ?_
    obtain rfl := someI hM
    replace hst := hst.rowNh 3 (rI .i64)
    exact hQ _ _ _ (fin2r Try.results20 ⟨rfl, rfl⟩ ⟨rfl, rfl⟩ ⟨_, rfl, hst⟩)

theorem etree_Sizes_ok {w0 : World} {ros : List Fact} {rs : List Res} {w : World} {x1 : List Int} {h2 : Hdr} {out : (List Int) × Int} (hM : etree_Sizes x1 = some out) (q1 : imm (rI .i64) h2.v x1 ∈ ros) (hst : St w0 ros (rs) w) :
    Calls Try.prog 21 #[h2.v] w (fun e w => ∃ (h100001 : Hdr), e = .returned (.tuple #[h100001.v, .int .i64 out.2]) ∧ St w0 (ros) (row 3 (rI .i64) h100001.v out.1 :: rs) w) := by
  refine enterQ Try.func21 rfl Try.ntmps21 rfl fun Q hQ => ?_
  refine seqQ fun Q1 k1 z1 => ?_
  refine wp_region_lit ?_
  refine Y wn rfl (ya (v := hnil.v) rfl) ?_
  refine Y wn rfl (ya (v := .int .i64 0) rfl) ?_
  refine wpList_nil ?_
  refine k1 _ _ ?_
  refine seqQ fun Q2 k2 z2 => ?_
  refine wp_region_lit ?_
  refine Y wn rfl (ym (v := h2.v) (et rfl rfl)) ?_
  obtain ⟨r3, gr3, hM⟩ := bs hM
  refine Yc wn rfl (yCall FN_14 (a1 (et rfl rfl))) (etree_Check_ok (hM := gr3) (hst := hst) (q1 := q1)) ?_
  clear hst
  rintro _ w ⟨rfl, hst⟩
  refine ⟨_, rfl, ?_⟩
  refine Y wn rfl (ya (v := .int .i64 r3) (et rfl rfl)) ?_
  refine wpList_nil ?_
  refine k2 _ _ ?_
  refine seqQ fun Q3 k3 z3 => ?_
  refine seqQ fun Q4 k4 z4 => ?_
  refine wp_region_lit ?_
  refine Y wn rfl (ym (v := .int .i64 r3) (et rfl rfl)) ?_
  refine Y wn rfl (yneq (et rfl rfl) rfl) ?_
  refine wpList_nil ?_
  refine k4 _ _ ?_
  rcases iteS hM with ⟨c4, hM⟩ | ⟨c4, hM⟩
  · refine condF (et rfl rfl) (nF (decide_eq_true c4)) ?_
    refine wp_skip ?_
    refine k3 _ _ ?_
    refine seqQ fun Q5 k5 z5 => ?_
    refine wp_region_lit ?_
    refine Y wn rfl (ym (v := h2.v) (et rfl rfl)) ?_
    refine Y wn rfl (yLen SL_22 (et rfl rfl) hst (rdI q1)) ?_
    obtain ⟨x7, gx7, hM⟩ := bs hM
    refine YH wn rfl (rMk hst SL_22 (et rfl rfl) gx7) ?_
    clear hst
    intro h5 w hst
    refine Y wn rfl (ya (v := h5.v) (et rfl rfl)) ?_
    refine wpList_nil ?_
    refine k5 _ _ ?_
    refine seqQ fun Q6 k6 z6 => ?_
    refine seqQ fun Q7 k7 z7 => ?_
    refine wp_region_lit ?_
    refine Y wn rfl (ym (v := h2.v) (et rfl rfl)) ?_
    refine Y wn rfl (yLen SL_22 (et rfl rfl) hst (rdI q1)) ?_
    refine Y wn rfl (ym (v := .int .i64 0) rfl) ?_
    refine wpList_nil ?_
    refine k7 _ _ ?_
    refine blockQ fun Q8 qb8 => ?_
    obtain ⟨o3, go3, hM⟩ := bs hM
    have je3_0 : ∀ (x36 : List Int) (f : Nat → Value) (w : World), f 5 = h5.v → St w0 (ros) (row 3 (rI .i64) h5.v x36 :: rs) w → x36 = o3 → Q8 (.exit 0) (fr 43 f) w := by
      intro x36 f w eje3_0_5 hst ho
      subst ho
      refine qb8 _ _ _ ?_
      refine k6 _ _ ?_
      refine seqQ fun Q23 k23 z23 => ?_
      refine wp_region_lit ?_
      refine Y wn rfl (ym (v := h5.v) (et rfl eje3_0_5)) ?_
      refine Y wn rfl (ya (v := h5.v) (et rfl rfl)) ?_
      refine Y wn rfl (ya (v := .int .i64 0) rfl) ?_
      refine wpList_nil ?_
      refine k23 _ _ ?_
      refine wp_ret ?_
      obtain rfl := someI hM
      exact hQ _ _ _ (fin2r Try.results21 ⟨rfl, rfl⟩ ⟨rfl, rfl⟩ ⟨_, rfl, hst⟩)
    refine loopQ (fun s a w => ∃ (x20 : List Int) (x21 : Int) (f : Nat → Value), (x20, x21) = s ∧ a = fr 43 f ∧ f 5 = h5.v ∧ f 16 = h2.v ∧ f 17 = .int .i64 (x1.length : Int) ∧ f 18 = .int .i64 x21 ∧ St w0 (ros) (row 3 (rI .i64) h5.v x20 :: rs) w) go3 ⟨_, _, _, rfl, rfl, rfl, rfl, rfl, rfl, hst⟩ ?_
    clear hst
    rintro _ _ w r3_ ⟨x20, x21, f, rfl, rfl, e3_5, e3_16, e3_17, e3_18, hst⟩ hM3 ho3 Q100003 n3 zz3
    refine seqQ fun Q24 k24 z24 => ?_
    refine wp_region_lit ?_
    refine Y wn rfl (ylss (et rfl e3_18) (et rfl e3_17)) ?_
    refine wpList_nil ?_
    refine k24 _ _ ?_
    refine seqQ fun Q25 k25 z25 => ?_
    rcases iteS hM3 with ⟨c37, hM3⟩ | ⟨c37, hM3⟩
    · refine condT (et rfl rfl) (decide_eq_true c37) ?_
      refine wp_skip ?_
      refine k25 _ _ ?_
      refine seqQ fun Q26 k26 z26 => ?_
      refine blockQ fun Q27 qb27 => ?_
      refine seqQ fun Q28 k28 z28 => ?_
      refine wp_region_lit ?_
      refine Y wn rfl (ym (v := .int .i64 x21) (et rfl e3_18)) ?_
      obtain ⟨x38, gx38, hM3⟩ := bs hM3
      refine Y wn rfl (yIa SL_22 (et rfl e3_16) (et rfl e3_18) hst (rdI q1) gx38) ?_
      refine Y wn rfl (yI O_3 (et rfl rfl) hst (rdI q1) gx38) ?_
      refine Y wn rfl (ya (v := .int .i64 x21) (et rfl rfl)) ?_
      refine Y wn rfl (ya (v := .int .i64 x38) (et rfl rfl)) ?_
      refine wpList_nil ?_
      refine k28 _ _ ?_
      refine seqQ fun Q29 k29 z29 => ?_
      refine wp_region_lit ?_
      refine Y wn rfl (ym (v := h5.v) (et rfl e3_5)) ?_
      refine Y wn rfl (ym (v := .int .i64 x21) (et rfl rfl)) ?_
      obtain ⟨x39, gx39, hM3⟩ := bs hM3
      refine Y wn rfl (yIa SL_22 (et rfl rfl) (et rfl rfl) hst (rdO mhR) gx39) ?_
      refine Y wn rfl (yI O_3 (et rfl rfl) hst (rdO mhR) gx39) ?_
      refine Y wn rfl (yadd (et rfl rfl) rfl) ?_
      obtain ⟨x40, gx40, hM3⟩ := bs hM3
      refine Y wn rfl (yIs SL_22 (et rfl rfl) (et rfl rfl) hst (rdO mhR) gx40) ?_
      refine YT wn rfl (r_sti (cs := [.int .i64 (wa .i64 x39 1)]) hst O_3 rfl (et rfl rfl) (et rfl rfl) rfl mkI gx40) ?_
      clear hst
      intro w hst
      refine wpList_nil ?_
      refine k29 _ _ ?_
      refine seqQ fun Q30 k30 z30 => ?_
      refine wp_region_lit ?_
      refine Y wn rfl (ym (v := .int .i64 x38) (et rfl rfl)) ?_
      refine Y wn rfl (yneq (et rfl rfl) rfl) ?_
      refine wpList_nil ?_
      refine k30 _ _ ?_
      have j4 : ∀ (x44 : List Int) (f : Nat → Value) (w : World), f 5 = h5.v → f 16 = h2.v → f 17 = .int .i64 (x1.length : Int) → f 18 = .int .i64 x21 → St w0 (ros) (row 3 (rI .i64) h5.v x44 :: rs) w → etree_Sizes_j4 x21 x44 = some r3_ → Q27 .normal (fr 43 f) w := by
        intro x44 f w ej4_5 ej4_16 ej4_17 ej4_18 hst hM
        refine qb27 _ _ _ ?_
        refine k26 _ _ ?_
        refine wp_region_lit ?_
        refine Y wn rfl (yadd (et rfl ej4_18) rfl) ?_
        refine Y wn rfl (ym (v := .int .i64 (wa .i64 x21 1)) (et rfl rfl)) ?_
        refine wpList_nil ?_
        obtain rfl := someI hM
        exact n3 _ _ _ rfl ⟨_, _, _, rfl, rfl, ej4_5, ej4_16, ej4_17, rfl, hst⟩
      rcases iteS hM3 with ⟨c45, hM3⟩ | ⟨c45, hM3⟩
      · refine condF (et rfl rfl) (nF (decide_eq_true c45)) ?_
        refine wp_skip ?_
        exact j4 _ _ _ e3_5 e3_16 e3_17 e3_18 hst hM3
      · refine condT (et rfl rfl) (nT (decide_eq_false c45)) ?_
        obtain ⟨x46, gx46, hM3⟩ := bs hM3
        obtain ⟨x47, gx47, hM3⟩ := bs hM3
        obtain ⟨x48, gx48, hM3⟩ := bs hM3
        refine wp_drawR [0, 0, 3, 7, 0, 0, 48, 112, 255, 511, 1023] [10] 1 folM (by kernel_rfl) (by kernel_rfl) (by kernel_rfl) ?_
        replace hst := hst.drew
        refine DRn (l1 := [0, 1, 2, 3, 4, 5, 6, 7, 8, 9]) (l2 := []) (lc := [10]) (by kernel_rfl) (by kernel_rfl) (by kernel_rfl) ?_
        refine Ry rfl rfl wn (ym (v := h5.v) (et rfl e3_5)) ?_
        refine Ry rfl rfl wn (ym (v := .int .i64 x38) (et rfl rfl)) ?_
        refine Ry rfl rfl wn (yIa SL_22 (et rfl rfl) (et rfl rfl) hst (rdO mhR) gx46) ?_
        refine Ry rfl rfl wn (yI O_3 (et rfl rfl) hst (rdO mhR) gx46) ?_
        refine Ry rfl rfl wn (ym (v := h5.v) (et rfl e3_5)) ?_
        refine Ry rfl rfl wn (ym (v := .int .i64 x21) (et rfl rfl)) ?_
        refine Ry rfl rfl wn (yIa SL_22 (et rfl rfl) (et rfl rfl) hst (rdO mhR) gx47) ?_
        refine Ry rfl rfl wn (yI O_3 (et rfl rfl) hst (rdO mhR) gx47) ?_
        refine Ry rfl rfl wn (yadd (et rfl rfl) (et rfl rfl)) ?_
        refine Ry rfl rfl wn (yIs SL_22 (et rfl rfl) (et rfl rfl) hst (rdO mhR) gx48) ?_
        refine Rn QSn ?_
        refine Lc rfl ?_ LAn
        refine LT wn (r_sti (cs := [.int .i64 (wa .i64 x46 x47)]) hst O_3 rfl (et rfl rfl) (et rfl rfl) rfl mkI gx48) ?_
        clear hst
        intro w hst
        refine DRz (l1 := []) (l2 := []) (by kernel_rfl) (by kernel_rfl) ?_
        refine Rn QSn ?_
        exact j4 _ _ _ e3_5 e3_16 e3_17 e3_18 hst hM3
    · refine condF (et rfl rfl) (decide_eq_false c37) ?_
      refine wp_exit ?_
      refine z25 _ _ _ rfl ?_
      obtain rfl := someI hM3
      refine zz3 _ _ _ _ rfl rfl ?_
      exact je3_0 _ _ _ e3_5 hst (ho3 _ rfl)
  · refine condT (et rfl rfl) (nT (decide_eq_false c4)) ?_
    refine seqQ fun Q31 k31 z31 => ?_
    refine wp_region_lit ?_
    refine Y wn rfl (ym (v := .int .i64 r3) (et rfl rfl)) ?_
    refine Y wn rfl (ya (v := hnil.v) rfl) ?_
    refine Y wn rfl (ya (v := .int .i64 r3) (et rfl rfl)) ?_
    refine wpList_nil ?_
    refine k31 _ _ ?_
    refine wp_ret ?_
    refine z3 _ _ _ rfl ?_
    obtain rfl := someI hM
    replace hst := hst.rowNh 3 (rI .i64)
    exact hQ _ _ _ (fin2r Try.results21 ⟨rfl, rfl⟩ ⟨rfl, rfl⟩ ⟨_, rfl, hst⟩)

theorem sparseref19_Sizes_ok {w0 : World} {ros : List Fact} {rs : List Res} {w : World} {x1 : List Int} {h2 : Hdr} {out : (List Int) × Int} (hM : sparseref19_Sizes x1 = some out) (q1 : imm (rI .i64) h2.v x1 ∈ ros) (hst : St w0 ros (rs) w) :
    Calls Try.prog 22 #[h2.v] w (fun e w => ∃ (h100001 : Hdr), e = .returned (.tuple #[h100001.v, .int .i64 out.2]) ∧ St w0 (ros) (row 3 (rI .i64) h100001.v out.1 :: rs) w) := by
  refine enterQ Try.func22 rfl Try.ntmps22 rfl fun Q hQ => ?_
  refine seqQ fun Q1 k1 z1 => ?_
  refine wp_region_lit ?_
  refine Y wn rfl (ya (v := hnil.v) rfl) ?_
  refine Y wn rfl (ya (v := .int .i64 0) rfl) ?_
  refine wpList_nil ?_
  refine k1 _ _ ?_
  refine seqQ fun Q2 k2 z2 => ?_
  refine seqQ fun Q3 k3 z3 => ?_
  refine wp_region_lit ?_
  refine Y wn rfl (ym (v := h2.v) (et rfl rfl)) ?_
  obtain ⟨r3, gr3, hM⟩ := bs hM
  refine Yc wn rfl (yCall FN_15 (a1 (et rfl rfl))) (sparseref19_Check_ok (hM := gr3) (hst := hst) (q1 := q1)) ?_
  clear hst
  rintro _ w ⟨rfl, hst⟩
  refine ⟨_, rfl, ?_⟩
  refine Y wn rfl (ya (v := .int .i64 r3) (et rfl rfl)) ?_
  refine wpList_nil ?_
  refine k3 _ _ ?_
  refine seqQ fun Q4 k4 z4 => ?_
  refine wp_region_lit ?_
  refine Y wn rfl (ym (v := .int .i64 r3) (et rfl rfl)) ?_
  refine Y wn rfl (yneq (et rfl rfl) rfl) ?_
  refine wpList_nil ?_
  refine k4 _ _ ?_
  rcases iteS hM with ⟨c4, hM⟩ | ⟨c4, hM⟩
  · refine condF (et rfl rfl) (nF (decide_eq_true c4)) ?_
    refine wp_skip ?_
    refine k2 _ _ ?_
    refine seqQ fun Q5 k5 z5 => ?_
    refine wp_region_lit ?_
    refine Y wn rfl (ym (v := h2.v) (et rfl rfl)) ?_
    refine Y wn rfl (yLen SL_22 (et rfl rfl) hst (rdI q1)) ?_
    obtain ⟨x7, gx7, hM⟩ := bs hM
    refine YH wn rfl (rMk hst SL_22 (et rfl rfl) gx7) ?_
    clear hst
    intro h5 w hst
    refine Y wn rfl (ya (v := h5.v) (et rfl rfl)) ?_
    refine wpList_nil ?_
    refine k5 _ _ ?_
    refine seqQ fun Q6 k6 z6 => ?_
    refine seqQ fun Q7 k7 z7 => ?_
    refine wp_region_lit ?_
    refine Y wn rfl (ya (v := .int .i64 0) rfl) ?_
    refine wpList_nil ?_
    refine k7 _ _ ?_
    refine blockQ fun Q8 qb8 => ?_
    obtain ⟨o3, go3, hM⟩ := bs hM
    have je3_0 : ∀ (x48 : List Int) (f : Nat → Value) (w : World), f 5 = h5.v → St w0 (ros) (row 3 (rI .i64) h5.v x48 :: rs) w → x48 = o3 → Q8 (.exit 0) (fr 36 f) w := by
      intro x48 f w eje3_0_5 hst ho
      subst ho
      refine qb8 _ _ _ ?_
      refine k6 _ _ ?_
      refine seqQ fun Q45 k45 z45 => ?_
      refine wp_region_lit ?_
      refine Y wn rfl (ym (v := h5.v) (et rfl eje3_0_5)) ?_
      refine Y wn rfl (ya (v := h5.v) (et rfl rfl)) ?_
      refine Y wn rfl (ya (v := .int .i64 0) rfl) ?_
      refine wpList_nil ?_
      refine k45 _ _ ?_
      refine wp_ret ?_
      obtain rfl := someI hM
      exact hQ _ _ _ (fin2r Try.results22 ⟨rfl, rfl⟩ ⟨rfl, rfl⟩ ⟨_, rfl, hst⟩)
    refine loopQ (fun s a w => ∃ (x26 : List Int) (x27 : Int) (f : Nat → Value), (x26, x27) = s ∧ a = fr 36 f ∧ f 0 = h2.v ∧ f 5 = h5.v ∧ f 6 = .int .i64 x27 ∧ St w0 (ros) (row 3 (rI .i64) h5.v x26 :: rs) w) go3 ⟨_, _, _, rfl, rfl, rfl, rfl, rfl, hst⟩ ?_
    clear hst
    rintro _ _ w r3_ ⟨x26, x27, f, rfl, rfl, e3_0, e3_5, e3_6, hst⟩ hM3 ho3 Q100003 n3 zz3
    refine seqQ fun Q46 k46 z46 => ?_
    refine seqQ fun Q47 k47 z47 => ?_
    refine wp_region_lit ?_
    refine Y wn rfl (ym (v := .int .i64 x27) (et rfl e3_6)) ?_
    refine Y wn rfl (ym (v := h2.v) (et rfl e3_0)) ?_
    refine Y wn rfl (yLen SL_22 (et rfl rfl) hst (rdI q1)) ?_
    refine Y wn rfl (ylss (et rfl rfl) (et rfl rfl)) ?_
    refine wpList_nil ?_
    refine k47 _ _ ?_
    rcases iteS hM3 with ⟨c49, hM3⟩ | ⟨c49, hM3⟩
    · refine condT (et rfl rfl) (decide_eq_true c49) ?_
      refine wp_skip ?_
      refine k46 _ _ ?_
      refine seqQ fun Q48 k48 z48 => ?_
      refine blockQ fun Q49 qb49 => ?_
      refine seqQ fun Q50 k50 z50 => ?_
      refine wp_region_lit ?_
      refine Y wn rfl (ym (v := .int .i64 x27) (et rfl e3_6)) ?_
      refine Y wn rfl (ya (v := .int .i64 x27) (et rfl rfl)) ?_
      refine wpList_nil ?_
      refine k50 _ _ ?_
      refine blockQ fun Q51 qb51 => ?_
      obtain ⟨o4, go4, hM3⟩ := bs hM3
      have je4_0 : ∀ (x62 : List Int) (f : Nat → Value) (w : World), f 0 = h2.v → f 5 = h5.v → f 6 = .int .i64 x27 → St w0 (ros) (row 3 (rI .i64) h5.v x62 :: rs) w → x62 = o4 → Q51 (.exit 2) (fr 36 f) w := by
        intro x62 f w eje4_0_0 eje4_0_5 eje4_0_6 hst ho
        subst ho
        refine qb51 _ _ _ ?_
        refine qb49 _ _ _ ?_
        refine k48 _ _ ?_
        refine wp_region_lit ?_
        refine Y wn rfl (ym (v := .int .i64 x27) (et rfl eje4_0_6)) ?_
        refine Y wn rfl (yadd (et rfl rfl) rfl) ?_
        refine Y wn rfl (ya (v := .int .i64 (wa .i64 x27 1)) (et rfl rfl)) ?_
        refine wpList_nil ?_
        obtain rfl := someI hM3
        exact n3 _ _ _ rfl ⟨_, _, _, rfl, rfl, eje4_0_0, eje4_0_5, rfl, hst⟩
      refine loopQ (fun s a w => ∃ (x54 : List Int) (x55 : Int) (f : Nat → Value), (x54, x55) = s ∧ a = fr 36 f ∧ f 0 = h2.v ∧ f 5 = h5.v ∧ f 6 = .int .i64 x27 ∧ f 7 = .int .i64 x55 ∧ St w0 (ros) (row 3 (rI .i64) h5.v x54 :: rs) w) go4 ⟨_, _, _, rfl, rfl, e3_0, e3_5, e3_6, rfl, hst⟩ ?_
      clear hst
      rintro _ _ w r4_ ⟨x54, x55, f, rfl, rfl, e4_0, e4_5, e4_6, e4_7, hst⟩ hM4 ho4 Q100004 n4 zz4
      refine seqQ fun Q60 k60 z60 => ?_
      refine seqQ fun Q61 k61 z61 => ?_
      refine wp_region_lit ?_
      refine Y wn rfl (ym (v := .int .i64 x55) (et rfl e4_7)) ?_
      refine Y wn rfl (ygeq (et rfl rfl) rfl) ?_
      refine wpList_nil ?_
      refine k61 _ _ ?_
      rcases iteS hM4 with ⟨c63, hM4⟩ | ⟨c63, hM4⟩
      · refine condT (et rfl rfl) (decide_eq_true c63) ?_
        refine wp_skip ?_
        refine k60 _ _ ?_
        refine seqQ fun Q62 k62 z62 => ?_
        refine blockQ fun Q63 qb63 => ?_
        refine wp_region_lit ?_
        refine Y wn rfl (ym (v := h5.v) (et rfl e4_5)) ?_
        refine Y wn rfl (ym (v := .int .i64 x55) (et rfl e4_7)) ?_
        obtain ⟨x64, gx64, hM4⟩ := bs hM4
        refine Y wn rfl (yIa SL_22 (et rfl rfl) (et rfl rfl) hst (rdO mhR) gx64) ?_
        refine Y wn rfl (yI O_3 (et rfl rfl) hst (rdO mhR) gx64) ?_
        refine Y wn rfl (yadd (et rfl rfl) rfl) ?_
        obtain ⟨x65, gx65, hM4⟩ := bs hM4
        refine Y wn rfl (yIs SL_22 (et rfl rfl) (et rfl rfl) hst (rdO mhR) gx65) ?_
        refine YT wn rfl (r_sti (cs := [.int .i64 (wa .i64 x64 1)]) hst O_3 rfl (et rfl rfl) (et rfl rfl) rfl mkI gx65) ?_
        clear hst
        intro w hst
        refine wpList_nil ?_
        refine qb63 _ _ _ ?_
        refine k62 _ _ ?_
        refine wp_region_lit ?_
        refine Y wn rfl (ym (v := h2.v) (et rfl e4_0)) ?_
        refine Y wn rfl (ym (v := .int .i64 x55) (et rfl e4_7)) ?_
        obtain ⟨x66, gx66, hM4⟩ := bs hM4
        refine Y wn rfl (yIa SL_22 (et rfl rfl) (et rfl rfl) hst (rdI q1) gx66) ?_
        refine Y wn rfl (yI O_3 (et rfl rfl) hst (rdI q1) gx66) ?_
        refine Y wn rfl (ya (v := .int .i64 x66) (et rfl rfl)) ?_
        refine wpList_nil ?_
        obtain rfl := someI hM4
        exact n4 _ _ _ rfl ⟨_, _, _, rfl, rfl, e4_0, e4_5, e4_6, rfl, hst⟩
      · refine condF (et rfl rfl) (decide_eq_false c63) ?_
        refine wp_exit ?_
        refine z60 _ _ _ rfl ?_
        obtain rfl := someI hM4
        refine zz4 _ _ _ _ rfl rfl ?_
        exact je4_0 _ _ _ e4_0 e4_5 e4_6 hst (ho4 _ rfl)
    · refine condF (et rfl rfl) (decide_eq_false c49) ?_
      refine wp_exit ?_
      refine z46 _ _ _ rfl ?_
      obtain rfl := someI hM3
      refine zz3 _ _ _ _ rfl rfl ?_
      exact je3_0 _ _ _ e3_5 hst (ho3 _ rfl)
  · refine condT (et rfl rfl) (nT (decide_eq_false c4)) ?_
    refine seqQ fun Q64 k64 z64 => ?_
    refine wp_region_lit ?_
    refine Y wn rfl (ym (v := .int .i64 r3) (et rfl rfl)) ?_
    refine Y wn rfl (ya (v := hnil.v) rfl) ?_
    refine Y wn rfl (ya (v := .int .i64 r3) (et rfl rfl)) ?_
    refine wpList_nil ?_
    refine k64 _ _ ?_
    refine wp_ret ?_
    refine z2 _ _ _ rfl ?_
    obtain rfl := someI hM
    replace hst := hst.rowNh 3 (rI .i64)
    exact hQ _ _ _ (fin2r Try.results22 ⟨rfl, rfl⟩ ⟨rfl, rfl⟩ ⟨_, rfl, hst⟩)

theorem sparselaw19_EtreeLists_ok {w0 : World} {ros : List Fact} {rs : List Res} {w : World} {x1 : List Int} {h2 : Hdr} {out : Bool} (hM : sparselaw19_EtreeLists x1 = some out) (q1 : imm (rI .i64) h2.v x1 ∈ ros) (hst : St w0 ros (rs) w) :
    Calls Try.prog 4 #[h2.v] w (fun e w => e = .returned (.bool out) ∧ St w0 (ros) (rs) w) := by
  refine enterQ Try.func4 rfl Try.ntmps4 rfl fun Q hQ => ?_
  refine seqQ fun Q1 k1 z1 => ?_
  refine wp_region_lit ?_
  refine Y wn rfl (ya (v := .bool false) rfl) ?_
  refine wpList_nil ?_
  refine k1 _ _ ?_
  refine seqQ fun Q2 k2 z2 => ?_
  refine seqQ fun Q3 k3 z3 => ?_
  refine wp_region_lit ?_
  refine Y wn rfl (ym (v := h2.v) (et rfl rfl)) ?_
  refine Y wn rfl (yLen SL_22 (et rfl rfl) hst (rdI q1)) ?_
  refine Y wn rfl (ygtr (et rfl rfl) rfl) ?_
  refine Y wn rfl (ym (v := .bool (decide ((20 : Int) < (x1.length : Int)))) (et rfl rfl)) ?_
  refine joinW 4 (fun f w => f 0 = h2.v ∧ f 23 = .bool ((decide ((20 : Int) < (x1.length : Int))) && (decide ((x1.length : Int) ≤ 200))) ∧ St w0 (ros) (rs) w) (fun j1 => ?_) ?_
  · rcases Bool.eq_false_or_eq_true (decide ((20 : Int) < (x1.length : Int))) with c4 | c4
    · refine Y (wg rfl rfl rfl c4) rfl (ym (v := h2.v) (et rfl rfl)) ?_
      refine Y (wg rfl rfl rfl c4) rfl (yLen SL_22 (et rfl rfl) hst (rdI q1)) ?_
      refine Y (wg rfl rfl rfl c4) rfl (yleq (et rfl rfl) rfl) ?_
      refine Y wn rfl (ypt (v := .bool (decide ((x1.length : Int) ≤ 200))) (et rfl rfl) c4 (et rfl rfl)) ?_
      exact j1 _ _ ⟨rfl, (congrArg Value.bool (andT c4)), hst⟩
    · refine Gn (wx rfl rfl rfl c4) rfl ?_
      refine Gn (wx rfl rfl rfl c4) rfl ?_
      refine Gn (wx rfl rfl rfl c4) rfl ?_
      refine Y wn rfl (ypf (v := .bool false) (et rfl rfl) c4 rfl) ?_
      exact j1 _ _ ⟨rfl, (congrArg Value.bool (andF c4)), hst⟩
  clear hst
  rintro f w ⟨e3_0, e3_23, hst⟩
  refine Y wn rfl (ym (v := .bool ((decide ((20 : Int) < (x1.length : Int))) && (decide ((x1.length : Int) ≤ 200)))) (et rfl e3_23)) ?_
  refine joinW 4 (fun f w => f 0 = h2.v ∧ f 28 = .bool (((decide ((20 : Int) < (x1.length : Int))) && (decide ((x1.length : Int) ≤ 200))) || (decide ((400 : Int) < (x1.length : Int)))) ∧ St w0 (ros) (rs) w) (fun j2 => ?_) ?_
  · rcases Bool.eq_false_or_eq_true (((decide ((20 : Int) < (x1.length : Int))) && (decide ((x1.length : Int) ≤ 200)))) with c6 | c6
    · refine Gn (wx rfl rfl rfl c6) rfl ?_
      refine Gn (wx rfl rfl rfl c6) rfl ?_
      refine Gn (wx rfl rfl rfl c6) rfl ?_
      refine Y wn rfl (ypt (v := .bool true) (et rfl rfl) c6 rfl) ?_
      exact j2 _ _ ⟨e3_0, (congrArg Value.bool (orT c6)), hst⟩
    · refine Y (wg rfl rfl rfl c6) rfl (ym (v := h2.v) (et rfl e3_0)) ?_
      refine Y (wg rfl rfl rfl c6) rfl (yLen SL_22 (et rfl rfl) hst (rdI q1)) ?_
      refine Y (wg rfl rfl rfl c6) rfl (ygtr (et rfl rfl) rfl) ?_
      refine Y wn rfl (ypf (v := .bool (decide ((400 : Int) < (x1.length : Int)))) (et rfl rfl) c6 (et rfl rfl)) ?_
      exact j2 _ _ ⟨e3_0, (congrArg Value.bool (orF c6)), hst⟩
  clear hst
  rintro f w ⟨e5_0, e5_28, hst⟩
  refine wpList_nil ?_
  refine k3 _ _ ?_
  rcases iteS hM with ⟨c7, hM⟩ | ⟨c7, hM⟩
  · refine condT (et rfl e5_28) c7 ?_
    refine seqQ fun Q4 k4 z4 => ?_
    refine wp_region_lit ?_
    obtain ⟨r8, gr8, hM⟩ := bs hM
    refine Yc wn rfl (yCall FN_10 a0) (sparselaw19_awake_ok (hM := gr8) (hst := hst) ) ?_
    clear hst
    rintro _ w ⟨rfl, hst⟩
    refine ⟨_, rfl, ?_⟩
    refine Y wn rfl (ya (v := .bool r8) (et rfl rfl)) ?_
    refine wpList_nil ?_
    refine k4 _ _ ?_
    refine wp_ret ?_
    refine z2 _ _ _ rfl ?_
    obtain rfl := someI hM
    exact hQ _ _ _ (fin1r Try.results4 ⟨rfl, rfl⟩ ⟨rfl, hst⟩)
  · refine condF (et rfl e5_28) (bfalse c7) ?_
    refine wp_skip ?_
    refine k2 _ _ ?_
    refine seqQ fun Q5 k5 z5 => ?_
    refine wp_region_lit ?_
    refine Y wn rfl (ym (v := h2.v) (et rfl e5_0)) ?_
    obtain ⟨r9, gr9, hM⟩ := bs hM
    refine Yc wn rfl (yCall FN_16 (a1 (et rfl rfl))) (sparsekit_TwinInts_ok (hM := gr9) (hst := hst) (q1 := q1)) ?_
    clear hst
    rintro _ w ⟨h10, rfl, hst⟩
    refine ⟨_, rfl, ?_⟩
    refine Y wn rfl (ya (v := h10.v) (et rfl rfl)) ?_
    refine wpList_nil ?_
    refine k5 _ _ ?_
    refine seqQ fun Q6 k6 z6 => ?_
    refine wp_region_lit ?_
    refine Y wn rfl (ym (v := h10.v) (et rfl rfl)) ?_
    obtain ⟨r11, gr11, hM⟩ := bs hM
    replace hst := hst.fz
    refine Yc wn rfl (yCall FN_17 (a1 (et rfl rfl))) (etree_Postorder_ok (hM := gr11) (hst := hst) (q1 := mhF)) ?_
    clear hst
    rintro _ w ⟨h12, rfl, hst⟩
    refine ⟨_, rfl, ?_⟩
    refine Y wn rfl (ym (v := .tuple #[h12.v, .int .i64 r11.2]) (et rfl rfl)) ?_
    refine Y wn rfl (yx (v := h12.v) (et rfl rfl) rfl) ?_
    refine Y wn rfl (yx (v := .int .i64 r11.2) (et rfl rfl) rfl) ?_
    refine Y wn rfl (ya (v := h12.v) (et rfl rfl)) ?_
    refine Y wn rfl (ya (v := .int .i64 r11.2) (et rfl rfl)) ?_
    refine wpList_nil ?_
    refine k6 _ _ ?_
    refine seqQ fun Q7 k7 z7 => ?_
    refine wp_region_lit ?_
    refine Y wn rfl (ym (v := h2.v) (et rfl e5_0)) ?_
    obtain ⟨r13, gr13, hM⟩ := bs hM
    refine Yc wn rfl (yCall FN_18 (a1 (et rfl rfl))) (sparseref19_Postorder_ok (hM := gr13) (hst := hst) (q1 := (mtF q1))) ?_
    clear hst
    rintro _ w ⟨h14, rfl, hst⟩
    refine ⟨_, rfl, ?_⟩
    refine Y wn rfl (ym (v := .tuple #[h14.v, .int .i64 r13.2]) (et rfl rfl)) ?_
    refine Y wn rfl (yx (v := h14.v) (et rfl rfl) rfl) ?_
    refine Y wn rfl (yx (v := .int .i64 r13.2) (et rfl rfl) rfl) ?_
    refine Y wn rfl (ya (v := h14.v) (et rfl rfl)) ?_
    refine Y wn rfl (ya (v := .int .i64 r13.2) (et rfl rfl)) ?_
    refine wpList_nil ?_
    refine k7 _ _ ?_
    refine seqQ fun Q8 k8 z8 => ?_
    refine wp_region_lit ?_
    refine Y wn rfl (ym (v := h10.v) (et rfl rfl)) ?_
    obtain ⟨r15, gr15, hM⟩ := bs hM
    refine Yc wn rfl (yCall FN_19 (a1 (et rfl rfl))) (etree_Depths_ok (hM := gr15) (hst := hst) (q1 := mhF)) ?_
    clear hst
    rintro _ w ⟨h16, rfl, hst⟩
    refine ⟨_, rfl, ?_⟩
    refine Y wn rfl (ym (v := .tuple #[h16.v, .int .i64 r15.2]) (et rfl rfl)) ?_
    refine Y wn rfl (yx (v := h16.v) (et rfl rfl) rfl) ?_
    refine Y wn rfl (yx (v := .int .i64 r15.2) (et rfl rfl) rfl) ?_
    refine Y wn rfl (ya (v := h16.v) (et rfl rfl)) ?_
    refine Y wn rfl (ya (v := .int .i64 r15.2) (et rfl rfl)) ?_
    refine wpList_nil ?_
    refine k8 _ _ ?_
    refine seqQ fun Q9 k9 z9 => ?_
    refine wp_region_lit ?_
    refine Y wn rfl (ym (v := h2.v) (et rfl e5_0)) ?_
    obtain ⟨r17, gr17, hM⟩ := bs hM
    refine Yc wn rfl (yCall FN_20 (a1 (et rfl rfl))) (sparseref19_Depths_ok (hM := gr17) (hst := hst) (q1 := (mtF q1))) ?_
    clear hst
    rintro _ w ⟨h18, rfl, hst⟩
    refine ⟨_, rfl, ?_⟩
    refine Y wn rfl (ym (v := .tuple #[h18.v, .int .i64 r17.2]) (et rfl rfl)) ?_
    refine Y wn rfl (yx (v := h18.v) (et rfl rfl) rfl) ?_
    refine Y wn rfl (yx (v := .int .i64 r17.2) (et rfl rfl) rfl) ?_
    refine Y wn rfl (ya (v := h18.v) (et rfl rfl)) ?_
    refine Y wn rfl (ya (v := .int .i64 r17.2) (et rfl rfl)) ?_
    refine wpList_nil ?_
    refine k9 _ _ ?_
    refine seqQ fun Q10 k10 z10 => ?_
    refine wp_region_lit ?_
    refine Y wn rfl (ym (v := h10.v) (et rfl rfl)) ?_
    obtain ⟨r19, gr19, hM⟩ := bs hM
    refine Yc wn rfl (yCall FN_21 (a1 (et rfl rfl))) (etree_Sizes_ok (hM := gr19) (hst := hst) (q1 := mhF)) ?_
    clear hst
    rintro _ w ⟨h20, rfl, hst⟩
    refine ⟨_, rfl, ?_⟩
    refine Y wn rfl (ym (v := .tuple #[h20.v, .int .i64 r19.2]) (et rfl rfl)) ?_
    refine Y wn rfl (yx (v := h20.v) (et rfl rfl) rfl) ?_
    refine Y wn rfl (yx (v := .int .i64 r19.2) (et rfl rfl) rfl) ?_
    refine Y wn rfl (ya (v := h20.v) (et rfl rfl)) ?_
    refine Y wn rfl (ya (v := .int .i64 r19.2) (et rfl rfl)) ?_
    refine wpList_nil ?_
    refine k10 _ _ ?_
    refine seqQ fun Q11 k11 z11 => ?_
    refine wp_region_lit ?_
    refine Y wn rfl (ym (v := h2.v) (et rfl e5_0)) ?_
    obtain ⟨r21, gr21, hM⟩ := bs hM
    refine Yc wn rfl (yCall FN_22 (a1 (et rfl rfl))) (sparseref19_Sizes_ok (hM := gr21) (hst := hst) (q1 := (mtF q1))) ?_
    clear hst
    rintro _ w ⟨h22, rfl, hst⟩
    refine ⟨_, rfl, ?_⟩
    refine Y wn rfl (ym (v := .tuple #[h22.v, .int .i64 r21.2]) (et rfl rfl)) ?_
    refine Y wn rfl (yx (v := h22.v) (et rfl rfl) rfl) ?_
    refine Y wn rfl (yx (v := .int .i64 r21.2) (et rfl rfl) rfl) ?_
    refine Y wn rfl (ya (v := h22.v) (et rfl rfl)) ?_
    refine Y wn rfl (ya (v := .int .i64 r21.2) (et rfl rfl)) ?_
    refine wpList_nil ?_
    refine k11 _ _ ?_
    refine seqQ fun Q12 k12 z12 => ?_
    refine wp_region_lit ?_
    refine Y wn rfl (ym (v := h10.v) (et rfl rfl)) ?_
    obtain ⟨r23, gr23, hM⟩ := bs hM
    refine Yc wn rfl (yCall FN_14 (a1 (et rfl rfl))) (etree_Check_ok (hM := gr23) (hst := hst) (q1 := mhF)) ?_
    clear hst
    rintro _ w ⟨rfl, hst⟩
    refine ⟨_, rfl, ?_⟩
    refine Y wn rfl (ym (v := h2.v) (et rfl e5_0)) ?_
    obtain ⟨r24, gr24, hM⟩ := bs hM
    refine Yc wn rfl (yCall FN_15 (a1 (et rfl rfl))) (sparseref19_Check_ok (hM := gr24) (hst := hst) (q1 := (mtF q1))) ?_
    clear hst
    rintro _ w ⟨rfl, hst⟩
    refine ⟨_, rfl, ?_⟩
    refine Y wn rfl (yeql (et rfl rfl) (et rfl rfl)) ?_
    refine Y wn rfl (ym (v := .bool (decide (r23 = r24))) (et rfl rfl)) ?_
    obtain ⟨r26, gr26, hM⟩ := bs hM
    refine joinW 4 (fun f w => f 0 = h2.v ∧ f 3 = h10.v ∧ f 5 = .int .i64 r11.2 ∧ f 7 = .int .i64 r13.2 ∧ f 8 = h16.v ∧ f 9 = .int .i64 r15.2 ∧ f 10 = h18.v ∧ f 11 = .int .i64 r17.2 ∧ f 12 = h20.v ∧ f 13 = .int .i64 r19.2 ∧ f 14 = h22.v ∧ f 15 = .int .i64 r21.2 ∧ f 71 = .bool r26 ∧ St w0 (imm (rI .i64) h10.v r9 :: ros) (row 3 (rI .i64) h16.v r15.1 :: row 3 (rI .i64) h18.v r17.1 :: row 3 (rI .i64) h20.v r19.1 :: row 3 (rI .i64) h22.v r21.1 :: rs) w) (fun j3 => ?_) ?_
    · rcases iteS gr26 with ⟨c28, gr26⟩ | ⟨c28, gr26⟩
      · refine Y (wg rfl rfl rfl (decide_eq_true c28)) rfl (ym (v := h12.v) (et rfl rfl)) ?_
        refine Y (wg rfl rfl rfl (decide_eq_true c28)) rfl (ym (v := h14.v) (et rfl rfl)) ?_
        obtain ⟨r29, gr29, gr26⟩ := bs gr26
        replace hst := hst.pk 6 [5, 0, 0, 0, 0, 0] rfl
        replace hst := hst.fz
        replace hst := hst.pk 5 [4, 0, 0, 0, 0] rfl
        replace hst := hst.fz
        refine Yc (wg rfl rfl rfl (decide_eq_true c28)) rfl (yCall FN_23 (a2 (et rfl rfl) (et rfl rfl))) (sparsekit_Ints_ok (hM := gr29) (hst := hst) (q1 := (mtF mhF)) (q2 := mhF)) ?_
        clear hst
        rintro _ w ⟨rfl, hst⟩
        refine ⟨_, rfl, ?_⟩
        refine Y wn rfl (ypt (v := .bool r29) (et rfl rfl) (decide_eq_true c28) (et rfl rfl)) ?_
        obtain rfl := someI gr26
        exact j3 _ _ ⟨e5_0, rfl, rfl, rfl, rfl, rfl, rfl, rfl, rfl, rfl, rfl, rfl, rfl, ((hst.pk 4 [3, 2, 1, 0] rfl).facts (allC (mtF (mtF mhF)) (allT (allT (allT allI)))))⟩
      · refine Gn (wx rfl rfl rfl (decide_eq_false c28)) rfl ?_
        refine Gn (wx rfl rfl rfl (decide_eq_false c28)) rfl ?_
        refine Gn (wx rfl rfl rfl (decide_eq_false c28)) rfl ?_
        refine Y wn rfl (ypf (v := .bool false) (et rfl rfl) (decide_eq_false c28) rfl) ?_
        obtain rfl := someI gr26
        exact j3 _ _ ⟨e5_0, rfl, rfl, rfl, rfl, rfl, rfl, rfl, rfl, rfl, rfl, rfl, rfl, (hst.pk 6 [3, 2, 1, 0] rfl)⟩
    clear hst
    rintro f w ⟨e27_0, e27_3, e27_5, e27_7, e27_8, e27_9, e27_10, e27_11, e27_12, e27_13, e27_14, e27_15, e27_71, hst⟩
    refine Y wn rfl (ym (v := .bool r26) (et rfl e27_71)) ?_
    refine joinW 4 (fun f w => f 0 = h2.v ∧ f 3 = h10.v ∧ f 8 = h16.v ∧ f 9 = .int .i64 r15.2 ∧ f 10 = h18.v ∧ f 11 = .int .i64 r17.2 ∧ f 12 = h20.v ∧ f 13 = .int .i64 r19.2 ∧ f 14 = h22.v ∧ f 15 = .int .i64 r21.2 ∧ f 76 = .bool (r26 && (decide (r11.2 = r13.2))) ∧ St w0 (imm (rI .i64) h10.v r9 :: ros) (row 3 (rI .i64) h16.v r15.1 :: row 3 (rI .i64) h18.v r17.1 :: row 3 (rI .i64) h20.v r19.1 :: row 3 (rI .i64) h22.v r21.1 :: rs) w) (fun j4 => ?_) ?_
    · rcases Bool.eq_false_or_eq_true (r26) with c31 | c31
      · refine Y (wg rfl rfl rfl c31) rfl (ym (v := .int .i64 r11.2) (et rfl e27_5)) ?_
        refine Y (wg rfl rfl rfl c31) rfl (ym (v := .int .i64 r13.2) (et rfl e27_7)) ?_
        refine Y (wg rfl rfl rfl c31) rfl (yeql (et rfl rfl) (et rfl rfl)) ?_
        refine Y wn rfl (ypt (v := .bool (decide (r11.2 = r13.2))) (et rfl rfl) c31 (et rfl rfl)) ?_
        exact j4 _ _ ⟨e27_0, e27_3, e27_8, e27_9, e27_10, e27_11, e27_12, e27_13, e27_14, e27_15, (congrArg Value.bool (andT c31)), hst⟩
      · refine Gn (wx rfl rfl rfl c31) rfl ?_
        refine Gn (wx rfl rfl rfl c31) rfl ?_
        refine Gn (wx rfl rfl rfl c31) rfl ?_
        refine Y wn rfl (ypf (v := .bool false) (et rfl rfl) c31 rfl) ?_
        exact j4 _ _ ⟨e27_0, e27_3, e27_8, e27_9, e27_10, e27_11, e27_12, e27_13, e27_14, e27_15, (congrArg Value.bool (andF c31)), hst⟩
    clear hst
    rintro f w ⟨e30_0, e30_3, e30_8, e30_9, e30_10, e30_11, e30_12, e30_13, e30_14, e30_15, e30_76, hst⟩
    refine Y wn rfl (ym (v := .bool (r26 && (decide (r11.2 = r13.2)))) (et rfl e30_76)) ?_
    obtain ⟨r33, gr33, hM⟩ := bs hM
    refine joinW 4 (fun f w => f 0 = h2.v ∧ f 3 = h10.v ∧ f 9 = .int .i64 r15.2 ∧ f 11 = .int .i64 r17.2 ∧ f 12 = h20.v ∧ f 13 = .int .i64 r19.2 ∧ f 14 = h22.v ∧ f 15 = .int .i64 r21.2 ∧ f 81 = .bool r33 ∧ St w0 (imm (rI .i64) h10.v r9 :: ros) (row 3 (rI .i64) h20.v r19.1 :: row 3 (rI .i64) h22.v r21.1 :: rs) w) (fun j5 => ?_) ?_
    · rcases iteS gr33 with ⟨c35, gr33⟩ | ⟨c35, gr33⟩
      · refine Y (wg rfl rfl rfl c35) rfl (ym (v := h16.v) (et rfl e30_8)) ?_
        refine Y (wg rfl rfl rfl c35) rfl (ym (v := h18.v) (et rfl e30_10)) ?_
        obtain ⟨r36, gr36, gr33⟩ := bs gr33
        replace hst := hst.fz
        replace hst := hst.fz
        refine Yc (wg rfl rfl rfl c35) rfl (yCall FN_23 (a2 (et rfl rfl) (et rfl rfl))) (sparsekit_Ints_ok (hM := gr36) (hst := hst) (q1 := (mtF mhF)) (q2 := mhF)) ?_
        clear hst
        rintro _ w ⟨rfl, hst⟩
        refine ⟨_, rfl, ?_⟩
        refine Y wn rfl (ypt (v := .bool r36) (et rfl rfl) c35 (et rfl rfl)) ?_
        obtain rfl := someI gr33
        exact j5 _ _ ⟨e30_0, e30_3, e30_9, e30_11, e30_12, e30_13, e30_14, e30_15, rfl, (hst.facts (allC (mtF (mtF mhF)) (allT (allT (allT allI)))))⟩
      · refine Gn (wx rfl rfl rfl (bfalse c35)) rfl ?_
        refine Gn (wx rfl rfl rfl (bfalse c35)) rfl ?_
        refine Gn (wx rfl rfl rfl (bfalse c35)) rfl ?_
        refine Y wn rfl (ypf (v := .bool false) (et rfl rfl) (bfalse c35) rfl) ?_
        obtain rfl := someI gr33
        exact j5 _ _ ⟨e30_0, e30_3, e30_9, e30_11, e30_12, e30_13, e30_14, e30_15, rfl, (hst.pk 4 [2, 2] rfl)⟩
    clear hst
    rintro f w ⟨e34_0, e34_3, e34_9, e34_11, e34_12, e34_13, e34_14, e34_15, e34_81, hst⟩
    refine Y wn rfl (ym (v := .bool r33) (et rfl e34_81)) ?_
    refine joinW 4 (fun f w => f 0 = h2.v ∧ f 3 = h10.v ∧ f 12 = h20.v ∧ f 13 = .int .i64 r19.2 ∧ f 14 = h22.v ∧ f 15 = .int .i64 r21.2 ∧ f 86 = .bool (r33 && (decide (r15.2 = r17.2))) ∧ St w0 (imm (rI .i64) h10.v r9 :: ros) (row 3 (rI .i64) h20.v r19.1 :: row 3 (rI .i64) h22.v r21.1 :: rs) w) (fun j6 => ?_) ?_
    · rcases Bool.eq_false_or_eq_true (r33) with c38 | c38
      · refine Y (wg rfl rfl rfl c38) rfl (ym (v := .int .i64 r15.2) (et rfl e34_9)) ?_
        refine Y (wg rfl rfl rfl c38) rfl (ym (v := .int .i64 r17.2) (et rfl e34_11)) ?_
        refine Y (wg rfl rfl rfl c38) rfl (yeql (et rfl rfl) (et rfl rfl)) ?_
        refine Y wn rfl (ypt (v := .bool (decide (r15.2 = r17.2))) (et rfl rfl) c38 (et rfl rfl)) ?_
        exact j6 _ _ ⟨e34_0, e34_3, e34_12, e34_13, e34_14, e34_15, (congrArg Value.bool (andT c38)), hst⟩
      · refine Gn (wx rfl rfl rfl c38) rfl ?_
        refine Gn (wx rfl rfl rfl c38) rfl ?_
        refine Gn (wx rfl rfl rfl c38) rfl ?_
        refine Y wn rfl (ypf (v := .bool false) (et rfl rfl) c38 rfl) ?_
        exact j6 _ _ ⟨e34_0, e34_3, e34_12, e34_13, e34_14, e34_15, (congrArg Value.bool (andF c38)), hst⟩
    clear hst
    rintro f w ⟨e37_0, e37_3, e37_12, e37_13, e37_14, e37_15, e37_86, hst⟩
    refine Y wn rfl (ym (v := .bool (r33 && (decide (r15.2 = r17.2)))) (et rfl e37_86)) ?_
    obtain ⟨r40, gr40, hM⟩ := bs hM
    refine joinW 4 (fun f w => f 0 = h2.v ∧ f 3 = h10.v ∧ f 13 = .int .i64 r19.2 ∧ f 15 = .int .i64 r21.2 ∧ f 91 = .bool r40 ∧ St w0 (imm (rI .i64) h10.v r9 :: ros) (rs) w) (fun j7 => ?_) ?_
    · rcases iteS gr40 with ⟨c42, gr40⟩ | ⟨c42, gr40⟩
      · refine Y (wg rfl rfl rfl c42) rfl (ym (v := h20.v) (et rfl e37_12)) ?_
        refine Y (wg rfl rfl rfl c42) rfl (ym (v := h22.v) (et rfl e37_14)) ?_
        obtain ⟨r43, gr43, gr40⟩ := bs gr40
        replace hst := hst.fz
        replace hst := hst.fz
        refine Yc (wg rfl rfl rfl c42) rfl (yCall FN_23 (a2 (et rfl rfl) (et rfl rfl))) (sparsekit_Ints_ok (hM := gr43) (hst := hst) (q1 := (mtF mhF)) (q2 := mhF)) ?_
        clear hst
        rintro _ w ⟨rfl, hst⟩
        refine ⟨_, rfl, ?_⟩
        refine Y wn rfl (ypt (v := .bool r43) (et rfl rfl) c42 (et rfl rfl)) ?_
        obtain rfl := someI gr40
        exact j7 _ _ ⟨e37_0, e37_3, e37_13, e37_15, rfl, (hst.facts (allC (mtF (mtF mhF)) (allT (allT (allT allI)))))⟩
      · refine Gn (wx rfl rfl rfl (bfalse c42)) rfl ?_
        refine Gn (wx rfl rfl rfl (bfalse c42)) rfl ?_
        refine Gn (wx rfl rfl rfl (bfalse c42)) rfl ?_
        refine Y wn rfl (ypf (v := .bool false) (et rfl rfl) (bfalse c42) rfl) ?_
        obtain rfl := someI gr40
        exact j7 _ _ ⟨e37_0, e37_3, e37_13, e37_15, rfl, (hst.pk 2 [] rfl)⟩
    clear hst
    rintro f w ⟨e41_0, e41_3, e41_13, e41_15, e41_91, hst⟩
    refine Y wn rfl (ym (v := .bool r40) (et rfl e41_91)) ?_
    refine joinW 4 (fun f w => f 0 = h2.v ∧ f 3 = h10.v ∧ f 96 = .bool (r40 && (decide (r19.2 = r21.2))) ∧ St w0 (imm (rI .i64) h10.v r9 :: ros) (rs) w) (fun j8 => ?_) ?_
    · rcases Bool.eq_false_or_eq_true (r40) with c45 | c45
      · refine Y (wg rfl rfl rfl c45) rfl (ym (v := .int .i64 r19.2) (et rfl e41_13)) ?_
        refine Y (wg rfl rfl rfl c45) rfl (ym (v := .int .i64 r21.2) (et rfl e41_15)) ?_
        refine Y (wg rfl rfl rfl c45) rfl (yeql (et rfl rfl) (et rfl rfl)) ?_
        refine Y wn rfl (ypt (v := .bool (decide (r19.2 = r21.2))) (et rfl rfl) c45 (et rfl rfl)) ?_
        exact j8 _ _ ⟨e41_0, e41_3, (congrArg Value.bool (andT c45)), hst⟩
      · refine Gn (wx rfl rfl rfl c45) rfl ?_
        refine Gn (wx rfl rfl rfl c45) rfl ?_
        refine Gn (wx rfl rfl rfl c45) rfl ?_
        refine Y wn rfl (ypf (v := .bool false) (et rfl rfl) c45 rfl) ?_
        exact j8 _ _ ⟨e41_0, e41_3, (congrArg Value.bool (andF c45)), hst⟩
    clear hst
    rintro f w ⟨e44_0, e44_3, e44_96, hst⟩
    refine Y wn rfl (ym (v := .bool (r40 && (decide (r19.2 = r21.2)))) (et rfl e44_96)) ?_
    obtain ⟨r47, gr47, hM⟩ := bs hM
    refine joinW 4 (fun f w => f 101 = .bool r47 ∧ St w0 (ros) (rs) w) (fun j9 => ?_) ?_
    · rcases iteS gr47 with ⟨c49, gr47⟩ | ⟨c49, gr47⟩
      · refine Y (wg rfl rfl rfl c49) rfl (ym (v := h10.v) (et rfl e44_3)) ?_
        refine Y (wg rfl rfl rfl c49) rfl (ym (v := h2.v) (et rfl e44_0)) ?_
        obtain ⟨r50, gr50, gr47⟩ := bs gr47
        refine Yc (wg rfl rfl rfl c49) rfl (yCall FN_23 (a2 (et rfl rfl) (et rfl rfl))) (sparsekit_Ints_ok (hM := gr50) (hst := hst) (q1 := mhF) (q2 := (mtF q1))) ?_
        clear hst
        rintro _ w ⟨rfl, hst⟩
        refine ⟨_, rfl, ?_⟩
        refine Y wn rfl (ypt (v := .bool r50) (et rfl rfl) c49 (et rfl rfl)) ?_
        obtain rfl := someI gr47
        exact j9 _ _ ⟨rfl, (hst.facts (allT allI))⟩
      · refine Gn (wx rfl rfl rfl (bfalse c49)) rfl ?_
        refine Gn (wx rfl rfl rfl (bfalse c49)) rfl ?_
        refine Gn (wx rfl rfl rfl (bfalse c49)) rfl ?_
        refine Y wn rfl (ypf (v := .bool false) (et rfl rfl) (bfalse c49) rfl) ?_
        obtain rfl := someI gr47
        exact j9 _ _ ⟨rfl, (hst.facts (allT allI))⟩
    clear hst
    rintro f w ⟨e48_101, hst⟩
    refine Y wn rfl (ym (v := .bool r47) (et rfl e48_101)) ?_
    obtain ⟨r52, gr52, hM⟩ := bs hM
    refine joinW 2 (fun f w => f 104 = .bool r52 ∧ St w0 (ros) (rs) w) (fun j10 => ?_) ?_
    · rcases iteS gr52 with ⟨c54, gr52⟩ | ⟨c54, gr52⟩
      · obtain ⟨r55, gr55, gr52⟩ := bs gr52
        refine Yc (wg rfl rfl rfl c54) rfl (yCall FN_10 a0) (sparselaw19_awake_ok (hM := gr55) (hst := hst) ) ?_
        clear hst
        rintro _ w ⟨rfl, hst⟩
        refine ⟨_, rfl, ?_⟩
        refine Y wn rfl (ypt (v := .bool r55) (et rfl rfl) c54 (et rfl rfl)) ?_
        obtain rfl := someI gr52
        exact j10 _ _ ⟨rfl, hst⟩
      · refine Gn (wx rfl rfl rfl (bfalse c54)) rfl ?_
        refine Y wn rfl (ypf (v := .bool false) (et rfl rfl) (bfalse c54) rfl) ?_
        obtain rfl := someI gr52
        exact j10 _ _ ⟨rfl, hst⟩
    clear hst
    rintro f w ⟨e53_104, hst⟩
    refine Y wn rfl (ya (v := .bool r52) (et rfl e53_104)) ?_
    refine wpList_nil ?_
    refine k12 _ _ ?_
    refine wp_ret ?_
    obtain rfl := someI hM
    exact hQ _ _ _ (fin1r Try.results4 ⟨rfl, rfl⟩ ⟨rfl, hst⟩)

theorem sparsekit_Place_ok {w0 : World} {ros : List Fact} {rs : List Res} {w : World} {x1 : Int} {x2 : Int} {out : Int} (hM : sparsekit_Place x1 x2 = some out) (hst : St w0 ros (rs) w) :
    Calls Try.prog 11 #[.int .i64 x1, .int .i64 x2] w (fun e w => e = .returned (.int .i64 out) ∧ St w0 (ros) (rs) w) := by
  refine enterQ Try.func11 rfl Try.ntmps11 rfl fun Q hQ => ?_
  refine seqQ fun Q1 k1 z1 => ?_
  refine wp_region_lit ?_
  refine Y wn rfl (ya (v := .int .i64 0) rfl) ?_
  refine wpList_nil ?_
  refine k1 _ _ ?_
  refine seqQ fun Q2 k2 z2 => ?_
  refine wp_region_lit ?_
  refine Y wn rfl (ym (v := .int .i64 x1) (et rfl rfl)) ?_
  refine Y wn rfl (ycv (k' := .u64) (by kernel_rfl) (by kernel_rfl) (et rfl rfl)) ?_
  refine Y wn rfl (ym (v := .int .i64 x2) (et rfl rfl)) ?_
  refine Y wn rfl (ycv (k' := .u64) (by kernel_rfl) (by kernel_rfl) (et rfl rfl)) ?_
  obtain ⟨x3, gx3, hM⟩ := bs hM
  refine Y wn rfl (yrem (et rfl rfl) (et rfl rfl) gx3) ?_
  refine Y wn rfl (ycv (k' := .i64) (by kernel_rfl) (by kernel_rfl) (et rfl rfl)) ?_
  refine Y wn rfl (ya (v := .int .i64 (wc .i64 x3)) (et rfl rfl)) ?_
  refine wpList_nil ?_
  refine k2 _ _ ?_
  refine wp_ret ?_
  obtain rfl := someI hM
  exact hQ _ _ _ (fin1r Try.results11 ⟨rfl, rfl⟩ ⟨rfl, hst⟩)

theorem sparsemake_At_ok {w0 : World} {ros : List Fact} {rs : List Res} {w : World} {x1 : List Int} {x3 : Int} {h2 : Hdr} {out : Int} (hM : sparsemake_At x1 x3 = some out) (q1 : imm (rI .i64) h2.v x1 ∈ ros) (hst : St w0 ros (rs) w) :
    Calls Try.prog 47 #[h2.v, .int .i64 x3] w (fun e w => e = .returned (.int .i64 out) ∧ St w0 (ros) (rs) w) := by
  refine enterQ Try.func47 rfl Try.ntmps47 rfl fun Q hQ => ?_
  refine seqQ fun Q1 k1 z1 => ?_
  refine wp_region_lit ?_
  refine Y wn rfl (ya (v := .int .i64 0) rfl) ?_
  refine wpList_nil ?_
  refine k1 _ _ ?_
  refine seqQ fun Q2 k2 z2 => ?_
  refine seqQ fun Q3 k3 z3 => ?_
  refine wp_region_lit ?_
  refine Y wn rfl (ym (v := .int .i64 x3) (et rfl rfl)) ?_
  refine Y wn rfl (ym (v := h2.v) (et rfl rfl)) ?_
  refine Y wn rfl (yLen SL_22 (et rfl rfl) hst (rdI q1)) ?_
  refine Y wn rfl (ylss (et rfl rfl) (et rfl rfl)) ?_
  refine wpList_nil ?_
  refine k3 _ _ ?_
  rcases iteS hM with ⟨c4, hM⟩ | ⟨c4, hM⟩
  · refine condT (et rfl rfl) (decide_eq_true c4) ?_
    refine seqQ fun Q4 k4 z4 => ?_
    refine wp_region_lit ?_
    refine Y wn rfl (ym (v := h2.v) (et rfl rfl)) ?_
    refine Y wn rfl (ym (v := .int .i64 x3) (et rfl rfl)) ?_
    obtain ⟨x5, gx5, hM⟩ := bs hM
    refine Y wn rfl (yIa SL_22 (et rfl rfl) (et rfl rfl) hst (rdI q1) gx5) ?_
    refine Y wn rfl (yI O_3 (et rfl rfl) hst (rdI q1) gx5) ?_
    refine Y wn rfl (ya (v := .int .i64 x5) (et rfl rfl)) ?_
    refine wpList_nil ?_
    refine k4 _ _ ?_
    refine wp_ret ?_
    refine z2 _ _ _ rfl ?_
    obtain rfl := someI hM
    exact hQ _ _ _ (fin1r Try.results47 ⟨rfl, rfl⟩ ⟨rfl, hst⟩)
  · refine condF (et rfl rfl) (decide_eq_false c4) ?_
    refine wp_skip ?_
    refine k2 _ _ ?_
    refine seqQ fun Q5 k5 z5 => ?_
    refine wp_region_lit ?_
    refine Y wn rfl (ya (v := .int .i64 0) rfl) ?_
    refine wpList_nil ?_
    refine k5 _ _ ?_
    refine wp_ret ?_
    obtain rfl := someI hM
    exact hQ _ _ _ (fin1r Try.results47 ⟨rfl, rfl⟩ ⟨rfl, hst⟩)

theorem sparsemake_Tree_ok {w0 : World} {ros : List Fact} {rs : List Res} {w : World} {x1 : Int} {x2 : List Int} {h3 : Hdr} {out : (List Int)} (hM : sparsemake_Tree x1 x2 = some out) (q1 : imm (rI .i64) h3.v x2 ∈ ros) (hst : St w0 ros (rs) w) :
    Calls Try.prog 25 #[.int .i64 x1, h3.v] w (fun e w => ∃ (h100001 : Hdr), e = .returned (h100001.v) ∧ St w0 (ros) (row 3 (rI .i64) h100001.v out :: rs) w) := by
  refine enterQ Try.func25 rfl Try.ntmps25 rfl fun Q hQ => ?_
  refine seqQ fun Q1 k1 z1 => ?_
  refine wp_region_lit ?_
  refine Y wn rfl (ya (v := hnil.v) rfl) ?_
  refine wpList_nil ?_
  refine k1 _ _ ?_
  refine seqQ fun Q2 k2 z2 => ?_
  refine wp_region_lit ?_
  refine Y wn rfl (ya (v := hnil.v) rfl) ?_
  refine wpList_nil ?_
  refine k2 _ _ ?_
  refine seqQ fun Q3 k3 z3 => ?_
  refine seqQ fun Q4 k4 z4 => ?_
  refine wp_region_lit ?_
  refine Y wn rfl (ya (v := .int .i64 0) rfl) ?_
  refine wpList_nil ?_
  refine k4 _ _ ?_
  refine blockQ fun Q5 qb5 => ?_
  obtain ⟨o3, go3, hM⟩ := bs hM
  have je3_0 : ∀ (x27 : List Int) (h26 : Hdr) (f : Nat → Value) (w : World), f 5 = h26.v → St w0 (ros) (row 3 (rI .i64) h26.v x27 :: rs) w → x27 = o3 → Q5 (.exit 0) (fr 30 f) w := by
    intro x27 h26 f w eje3_0_5 hst ho
    subst ho
    refine qb5 _ _ _ ?_
    refine k3 _ _ ?_
    refine seqQ fun Q20 k20 z20 => ?_
    refine wp_region_lit ?_
    refine Y wn rfl (ym (v := h26.v) (et rfl eje3_0_5)) ?_
    refine Y wn rfl (ya (v := h26.v) (et rfl rfl)) ?_
    refine wpList_nil ?_
    refine k20 _ _ ?_
    refine wp_ret ?_
    obtain rfl := someI hM
    exact hQ _ _ _ (fin1r Try.results25 ⟨rfl, rfl⟩ ⟨_, rfl, hst⟩)
  replace hst := hst.rowNh 3 (rI .i64)
  refine loopQ (fun s a w => ∃ (x13 : List Int) (x14 : Int) (f : Nat → Value) (h12 : Hdr), (x13, x14) = s ∧ a = fr 30 f ∧ f 0 = .int .i64 x1 ∧ f 1 = h3.v ∧ f 5 = h12.v ∧ f 6 = .int .i64 x14 ∧ St w0 (ros) (row 3 (rI .i64) h12.v x13 :: rs) w) go3 ⟨_, _, _, _, rfl, rfl, rfl, rfl, rfl, rfl, hst⟩ ?_
  clear hst
  rintro _ _ w r3_ ⟨x13, x14, f, h12, rfl, rfl, e3_0, e3_1, e3_5, e3_6, hst⟩ hM3 ho3 Q100003 n3 zz3
  refine seqQ fun Q21 k21 z21 => ?_
  refine seqQ fun Q22 k22 z22 => ?_
  refine wp_region_lit ?_
  refine Y wn rfl (ym (v := .int .i64 x14) (et rfl e3_6)) ?_
  refine Y wn rfl (ym (v := .int .i64 x1) (et rfl e3_0)) ?_
  refine Y wn rfl (ylss (et rfl rfl) (et rfl rfl)) ?_
  refine wpList_nil ?_
  refine k22 _ _ ?_
  rcases iteS hM3 with ⟨c28, hM3⟩ | ⟨c28, hM3⟩
  · refine condT (et rfl rfl) (decide_eq_true c28) ?_
    refine wp_skip ?_
    refine k21 _ _ ?_
    refine seqQ fun Q23 k23 z23 => ?_
    refine blockQ fun Q24 qb24 => ?_
    refine seqQ fun Q25 k25 z25 => ?_
    refine wp_region_lit ?_
    refine Y wn rfl (ym (v := .int .i64 x14) (et rfl e3_6)) ?_
    refine Y wn rfl (ym (v := h3.v) (et rfl e3_1)) ?_
    refine Y wn rfl (ym (v := .int .i64 x14) (et rfl e3_6)) ?_
    obtain ⟨r29, gr29, hM3⟩ := bs hM3
    refine Yc wn rfl (yCall FN_47 (a2 (et rfl rfl) (et rfl rfl))) (sparsemake_At_ok (hM := gr29) (hst := hst) (q1 := q1)) ?_
    clear hst
    rintro _ w ⟨rfl, hst⟩
    refine ⟨_, rfl, ?_⟩
    refine Y wn rfl (ym (v := .int .i64 x1) (et rfl e3_0)) ?_
    refine Y wn rfl (ym (v := .int .i64 x14) (et rfl e3_6)) ?_
    refine Y wn rfl (ysub (et rfl rfl) (et rfl rfl)) ?_
    obtain ⟨r30, gr30, hM3⟩ := bs hM3
    refine Yc wn rfl (yCall FN_11 (a2 (et rfl rfl) (et rfl rfl))) (sparsekit_Place_ok (hM := gr30) (hst := hst) ) ?_
    clear hst
    rintro _ w ⟨rfl, hst⟩
    refine ⟨_, rfl, ?_⟩
    refine Y wn rfl (yadd (et rfl rfl) (et rfl rfl)) ?_
    refine Y wn rfl (ya (v := .int .i64 (wa .i64 x14 r30)) (et rfl rfl)) ?_
    refine wpList_nil ?_
    refine k25 _ _ ?_
    refine seqQ fun Q26 k26 z26 => ?_
    refine seqQ fun Q27 k27 z27 => ?_
    refine wp_region_lit ?_
    refine Y wn rfl (ym (v := .int .i64 (wa .i64 x14 r30)) (et rfl rfl)) ?_
    refine Y wn rfl (ym (v := .int .i64 x14) (et rfl e3_6)) ?_
    refine Y wn rfl (yeql (et rfl rfl) (et rfl rfl)) ?_
    refine wpList_nil ?_
    refine k27 _ _ ?_
    have j4 : ∀ (x31 : Int) (f : Nat → Value) (w : World), f 0 = .int .i64 x1 → f 1 = h3.v → f 5 = h12.v → f 6 = .int .i64 x14 → f 7 = .int .i64 x31 → St w0 (ros) (row 3 (rI .i64) h12.v x13 :: rs) w → sparsemake_Tree_j4 x13 x14 x31 = some r3_ → Q26 .normal (fr 30 f) w := by
      intro x31 f w ej4_0 ej4_1 ej4_5 ej4_6 ej4_7 hst hM
      refine k26 _ _ ?_
      refine wp_region_lit ?_
      refine Y wn rfl (ym (v := h12.v) (et rfl ej4_5)) ?_
      refine Y wn rfl (ym (v := .int .i64 x31) (et rfl ej4_7)) ?_
      refine YH wn rfl (rLt (n := 1) (l := [x31]) hst SL_22 [.int .i64 x31] (bp1 (et rfl rfl)) rfl rfl (mks1 (cs := [.int .i64 x31]) rfl mkI mks0)) ?_
      clear hst
      intro h32 w hst
      obtain ⟨x34, gx34, hM⟩ := bs hM
      replace hst := hst.pk 2 [1, 0] rfl
      refine YH wn rfl (rAp hst SL_22 (et rfl rfl) (et rfl rfl) (rdO (mtR mhR)) gx34) ?_
      clear hst
      intro h33 w hst
      refine Y wn rfl (ya (v := h33.v) (et rfl rfl)) ?_
      refine wpList_nil ?_
      refine qb24 _ _ _ ?_
      refine k23 _ _ ?_
      refine wp_region_lit ?_
      refine Y wn rfl (ym (v := .int .i64 x14) (et rfl ej4_6)) ?_
      refine Y wn rfl (yadd (et rfl rfl) rfl) ?_
      refine Y wn rfl (ya (v := .int .i64 (wa .i64 x14 1)) (et rfl rfl)) ?_
      refine wpList_nil ?_
      obtain rfl := someI hM
      exact n3 _ _ _ rfl ⟨_, _, _, _, rfl, rfl, ej4_0, ej4_1, rfl, rfl, (hst.pk 2 [0] rfl)⟩
    rcases iteS hM3 with ⟨c35, hM3⟩ | ⟨c35, hM3⟩
    · refine condT (et rfl rfl) (decide_eq_true c35) ?_
      refine wp_region_lit ?_
      refine Y wn rfl (ya (v := .int .i64 (-1)) rfl) ?_
      refine wpList_nil ?_
      exact j4 _ _ _ e3_0 e3_1 e3_5 e3_6 rfl hst hM3
    · refine condF (et rfl rfl) (decide_eq_false c35) ?_
      refine wp_skip ?_
      exact j4 _ _ _ e3_0 e3_1 e3_5 e3_6 rfl hst hM3
  · refine condF (et rfl rfl) (decide_eq_false c28) ?_
    refine wp_exit ?_
    refine z21 _ _ _ rfl ?_
    obtain rfl := someI hM3
    refine zz3 _ _ _ _ rfl rfl ?_
    exact je3_0 _ _ _ _ e3_5 hst (ho3 _ rfl)
end Go.Proofs.Ytoelidgkfpmgnaa
