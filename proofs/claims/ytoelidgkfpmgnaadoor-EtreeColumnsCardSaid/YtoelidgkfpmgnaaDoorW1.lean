/- Walks: each function computes its model, printed. -/
import Derived.Test.YtoelidgkfpmgnaaDoorW0
namespace Go.Proofs.YtoelidgkfpmgnaaDoor
open Go Sx M
set_option maxRecDepth 100000
set_option maxHeartbeats 400000
set_option linter.unusedVariables false
attribute [local irreducible] wpList Code.wp Calls DR QR QS LA LS St
theorem sparsekit_Ints_ok {w0 : World} {ros : List Fact} {rs : List Res} {w : World} {x1 : List Int} {x3 : List Int} {h2 : Hdr} {h4 : Hdr} {out : Bool} (hM : sparsekit_Ints x1 x3 = some out) (q1 : imm (rI .i64) h2.v x1 ∈ ros) (q2 : imm (rI .i64) h4.v x3 ∈ ros) (hst : St w0 ros (rs) w) :
    Calls Tryd.prog 10 #[h2.v, h4.v] w (fun e w => e = .returned (.bool out) ∧ St w0 (ros) (rs) w) := by
  refine enterQ Tryd.func10 rfl Tryd.ntmps10 rfl fun Q hQ => ?_
  refine seqQ fun Q1 k1 z1 => ?_
  refine wp_region_lit ?_
  refine Y wn rfl (ya (v := .bool false) rfl) ?_
  refine wpList_nil ?_
  refine k1 _ _ ?_
  refine seqQ fun Q2 k2 z2 => ?_
  refine seqQ fun Q3 k3 z3 => ?_
  refine wp_region_lit ?_
  refine Y wn rfl (ym (v := h2.v) (et rfl rfl)) ?_
  refine Y wn rfl (yLen SL_22 (et rfl rfl) hst (rdI q1)) ?_
  refine Y wn rfl (ym (v := h4.v) (et rfl rfl)) ?_
  refine Y wn rfl (yLen SL_22 (et rfl rfl) hst (rdI q2)) ?_
  refine Y wn rfl (yneq (et rfl rfl) (et rfl rfl)) ?_
  refine wpList_nil ?_
  refine k3 _ _ ?_
  rcases iteS hM with ⟨c5, hM⟩ | ⟨c5, hM⟩
  · refine condF (et rfl rfl) (nF (decide_eq_true c5)) ?_
    refine wp_skip ?_
    refine k2 _ _ ?_
    refine seqQ fun Q4 k4 z4 => ?_
    refine seqQ fun Q5 k5 z5 => ?_
    refine wp_region_lit ?_
    refine Y wn rfl (ya (v := .int .i64 0) rfl) ?_
    refine wpList_nil ?_
    refine k5 _ _ ?_
    refine blockQ fun Q6 qb6 => ?_
    obtain ⟨o1, go1, hM⟩ := bs hM
    have je1_0 : ∀ (f : Nat → Value) (w : World), St w0 (ros) (rs) w → .inl () = o1 → Q6 (.exit 0) (fr 26 f) w := by
      intro f w hst ho
      subst ho
      refine qb6 _ _ _ ?_
      refine k4 _ _ ?_
      refine seqQ fun Q19 k19 z19 => ?_
      refine wp_region_lit ?_
      refine Y wn rfl (ya (v := .bool true) rfl) ?_
      refine wpList_nil ?_
      refine k19 _ _ ?_
      refine wp_ret ?_
      obtain rfl := someI hM
      exact hQ _ _ _ (fin1r Tryd.results10 ⟨rfl, rfl⟩ ⟨rfl, hst⟩)
    have je1_1 : ∀ (f : Nat → Value) (w : World), f 4 = .bool false → St w0 (ros) (rs) w → .inr () = o1 → Q6 .ret (fr 26 f) w := by
      intro f w eje1_1_4 hst ho
      subst ho
      refine qb6 _ _ _ ?_
      refine z4 _ _ _ rfl ?_
      obtain rfl := someI hM
      exact hQ _ _ _ (fin1r Tryd.results10 ⟨rfl, eje1_1_4⟩ ⟨rfl, hst⟩)
    refine loopQ (fun s a w => ∃ (x10 : Int) (f : Nat → Value), x10 = s ∧ a = fr 26 f ∧ f 0 = h2.v ∧ f 1 = h4.v ∧ f 5 = .int .i64 x10 ∧ St w0 (ros) (rs) w) go1 ⟨_, _, rfl, rfl, rfl, rfl, rfl, hst⟩ ?_
    clear hst
    rintro _ _ w r1_ ⟨x10, f, rfl, rfl, e1_0, e1_1, e1_5, hst⟩ hM1 ho1 Q100001 n1 zz1
    refine seqQ fun Q20 k20 z20 => ?_
    refine seqQ fun Q21 k21 z21 => ?_
    refine wp_region_lit ?_
    refine Y wn rfl (ym (v := .int .i64 x10) (et rfl e1_5)) ?_
    refine Y wn rfl (ym (v := h2.v) (et rfl e1_0)) ?_
    refine Y wn rfl (yLen SL_22 (et rfl rfl) hst (rdI q1)) ?_
    refine Y wn rfl (ylss (et rfl rfl) (et rfl rfl)) ?_
    refine wpList_nil ?_
    refine k21 _ _ ?_
    rcases iteS hM1 with ⟨c16, hM1⟩ | ⟨c16, hM1⟩
    · refine condT (et rfl rfl) (decide_eq_true c16) ?_
      refine wp_skip ?_
      refine k20 _ _ ?_
      refine seqQ fun Q22 k22 z22 => ?_
      refine blockQ fun Q23 qb23 => ?_
      refine seqQ fun Q24 k24 z24 => ?_
      obtain ⟨x17, gx17, hM1⟩ := bs hM1
      obtain ⟨x18, gx18, hM1⟩ := bs hM1
      refine wp_drawR [0, 0, 3, 7, 0, 0, 48, 112, 255] [] 0 folM (by kernel_rfl) (by kernel_rfl) (by kernel_rfl) ?_
      replace hst := hst.drew
      refine DRz (l1 := [0, 1, 2, 3, 4, 5, 6, 7, 8]) (l2 := []) (by kernel_rfl) (by kernel_rfl) ?_
      refine Ry rfl rfl wn (ym (v := h2.v) (et rfl e1_0)) ?_
      refine Ry rfl rfl wn (ym (v := .int .i64 x10) (et rfl e1_5)) ?_
      refine Ry rfl rfl wn (yIa SL_22 (et rfl rfl) (et rfl rfl) hst (rdI q1) gx17) ?_
      refine Ry rfl rfl wn (yI O_3 (et rfl rfl) hst (rdI q1) gx17) ?_
      refine Ry rfl rfl wn (ym (v := h4.v) (et rfl e1_1)) ?_
      refine Ry rfl rfl wn (ym (v := .int .i64 x10) (et rfl e1_5)) ?_
      refine Ry rfl rfl wn (yIa SL_22 (et rfl rfl) (et rfl rfl) hst (rdI q2) gx18) ?_
      refine Ry rfl rfl wn (yI O_3 (et rfl rfl) hst (rdI q2) gx18) ?_
      refine Ry rfl rfl wn (yneq (et rfl rfl) (et rfl rfl)) ?_
      refine Rn QSn ?_
      refine k24 _ _ ?_
      rcases iteS hM1 with ⟨c19, hM1⟩ | ⟨c19, hM1⟩
      · refine condF (et rfl rfl) (nF (decide_eq_true c19)) ?_
        refine wp_skip ?_
        refine qb23 _ _ _ ?_
        refine k22 _ _ ?_
        refine wp_region_lit ?_
        refine Y wn rfl (ym (v := .int .i64 x10) (et rfl e1_5)) ?_
        refine Y wn rfl (yadd (et rfl rfl) rfl) ?_
        refine Y wn rfl (ya (v := .int .i64 (wa .i64 x10 1)) (et rfl rfl)) ?_
        refine wpList_nil ?_
        obtain rfl := someI hM1
        exact n1 _ _ _ rfl ⟨_, _, rfl, rfl, e1_0, e1_1, rfl, hst⟩
      · refine condT (et rfl rfl) (nT (decide_eq_false c19)) ?_
        refine seqQ fun Q25 k25 z25 => ?_
        refine wp_region_lit ?_
        refine Y wn rfl (ya (v := .bool false) rfl) ?_
        refine wpList_nil ?_
        refine k25 _ _ ?_
        refine wp_ret ?_
        refine qb23 _ _ _ ?_
        refine z22 _ _ _ rfl ?_
        obtain rfl := someI hM1
        refine zz1 _ _ _ _ rfl rfl ?_
        exact je1_1 _ _ rfl hst (ho1 _ rfl)
    · refine condF (et rfl rfl) (decide_eq_false c16) ?_
      refine wp_exit ?_
      refine z20 _ _ _ rfl ?_
      obtain rfl := someI hM1
      refine zz1 _ _ _ _ rfl rfl ?_
      exact je1_0 _ _ hst (ho1 _ rfl)
  · refine condT (et rfl rfl) (nT (decide_eq_false c5)) ?_
    refine seqQ fun Q26 k26 z26 => ?_
    refine wp_region_lit ?_
    refine Y wn rfl (ya (v := .bool false) rfl) ?_
    refine wpList_nil ?_
    refine k26 _ _ ?_
    refine wp_ret ?_
    refine z2 _ _ _ rfl ?_
    obtain rfl := someI hM
    exact hQ _ _ _ (fin1r Tryd.results10 ⟨rfl, rfl⟩ ⟨rfl, hst⟩)

theorem sparselaw19_awake_ok {w0 : World} {ros : List Fact} {rs : List Res} {w : World} {out : Bool} (hM : sparselaw19_awake = some out) (hst : St w0 ros (rs) w) :
    Calls Tryd.prog 4 #[] w (fun e w => e = .returned (.bool out) ∧ St w0 (ros) (rs) w) := by
  refine enterQ Tryd.func4 rfl Tryd.ntmps4 rfl fun Q hQ => ?_
  refine seqQ fun Q1 k1 z1 => ?_
  refine wp_region_lit ?_
  refine Y wn rfl (ya (v := .bool false) rfl) ?_
  refine wpList_nil ?_
  refine k1 _ _ ?_
  refine seqQ fun Q2 k2 z2 => ?_
  refine wp_region_lit ?_
  refine YH wn rfl (rLt (n := 2) (l := [2, 3]) hst SL_22 [.int .i64 2, .int .i64 3] (bp2 rfl rfl) rfl rfl (mks1 (cs := [.int .i64 2]) rfl mkI (mks1 (cs := [.int .i64 3]) rfl mkI mks0))) ?_
  clear hst
  intro h1 w hst
  refine YH wn rfl (rLt (n := 1) (l := [2]) hst SL_22 [.int .i64 2] (bp1 rfl) rfl rfl (mks1 (cs := [.int .i64 2]) rfl mkI mks0)) ?_
  clear hst
  intro h2 w hst
  refine YH wn rfl (rLt (n := 3) (l := [0, 1, 3]) hst SL_22 [.int .i64 0, .int .i64 1, .int .i64 3] (bp3 rfl rfl rfl) rfl rfl (mks1 (cs := [.int .i64 0]) rfl mkI (mks1 (cs := [.int .i64 1]) rfl mkI (mks1 (cs := [.int .i64 3]) rfl mkI mks0)))) ?_
  clear hst
  intro h3 w hst
  refine YH wn rfl (rLt (n := 2) (l := [0, 2]) hst SL_22 [.int .i64 0, .int .i64 2] (bp2 rfl rfl) rfl rfl (mks1 (cs := [.int .i64 0]) rfl mkI (mks1 (cs := [.int .i64 2]) rfl mkI mks0))) ?_
  clear hst
  intro h4 w hst
  replace hst := hst.pk 4 [3, 0, 0, 0] rfl
  replace hst := hst.fz
  replace hst := hst.pk 3 [2, 0, 0] rfl
  replace hst := hst.fz
  replace hst := hst.pk 2 [1, 0] rfl
  replace hst := hst.fz
  replace hst := hst.fz
  refine YH wn rfl (rLt (n := 4) (l := [[2, 3], [2], [0, 1, 3], [0, 2]]) hst SL_32 [h1.v, h2.v, h3.v, h4.v] (bp4 (et rfl rfl) (et rfl rfl) (et rfl rfl) (et rfl rfl)) rfl rfl (mks1 (cs := [h1.v]) rfl (mkS (mtF (mtF (mtF mhF)))) (mks1 (cs := [h2.v]) rfl (mkS (mtF (mtF mhF))) (mks1 (cs := [h3.v]) rfl (mkS (mtF mhF)) (mks1 (cs := [h4.v]) rfl (mkS mhF) mks0))))) ?_
  clear hst
  intro h5 w hst
  refine Y wn rfl (ybuild (us := [h5.v]) [(0, h5.v)] SO_34 (bp1 (et rfl rfl)) rfl) ?_
  refine YB wn rfl (rAl hst ZT_34) ?_
  clear hst
  intro b6 w hst
  refine YT wn rfl (r_stbn (vals' := [h5.v]) (us := [h5.v]) hst ST_34 (et rfl rfl) (et rfl rfl) rfl rfl (one_of rfl) rfl) ?_
  clear hst
  intro w hst
  refine wpList_nil ?_
  refine k2 _ _ ?_
  refine seqQ fun Q3 k3 z3 => ?_
  refine wp_region_lit ?_
  refine Y wn rfl (yLbs (us := [h5.v]) ST_34 (et rfl rfl) hst mhR rfl rfl) ?_
  obtain ⟨r7, gr7, hM⟩ := bs hM
  replace hst := hst.pk 2 [1, 0] rfl
  replace hst := hst.fz
  refine Yc wn rfl (yCall FN_9 (a1 (et rfl rfl))) (etree_Parent_ok (hM := gr7) (hst := hst) (q1 := mhF)) ?_
  clear hst
  rintro _ w ⟨h8, rfl, hst⟩
  refine ⟨_, rfl, ?_⟩
  refine Y wn rfl (ym (v := .tuple #[h8.v, .int .i64 r7.2]) (et rfl rfl)) ?_
  refine Y wn rfl (yx (v := h8.v) (et rfl rfl) rfl) ?_
  refine Y wn rfl (yx (v := .int .i64 r7.2) (et rfl rfl) rfl) ?_
  refine Y wn rfl (ya (v := h8.v) (et rfl rfl)) ?_
  refine Y wn rfl (ya (v := .int .i64 r7.2) (et rfl rfl)) ?_
  refine wpList_nil ?_
  refine k3 _ _ ?_
  refine seqQ fun Q4 k4 z4 => ?_
  refine wp_region_lit ?_
  refine YH wn rfl (rLt (n := 3) (l := [2, (-1), (-1)]) hst SL_22 [.int .i64 2, .int .i64 (-1), .int .i64 (-1)] (bp3 rfl rfl rfl) rfl rfl (mks1 (cs := [.int .i64 2]) rfl mkI (mks1 (cs := [.int .i64 (-1)]) rfl mkI (mks1 (cs := [.int .i64 (-1)]) rfl mkI mks0)))) ?_
  clear hst
  intro h9 w hst
  obtain ⟨r10, gr10, hM⟩ := bs hM
  replace hst := hst.fz
  refine Yc wn rfl (yCall FN_11 (a1 (et rfl rfl))) (etree_Postorder_ok (hM := gr10) (hst := hst) (q1 := mhF)) ?_
  clear hst
  rintro _ w ⟨h11, rfl, hst⟩
  refine ⟨_, rfl, ?_⟩
  refine Y wn rfl (ym (v := .tuple #[h11.v, .int .i64 r10.2]) (et rfl rfl)) ?_
  refine Y wn rfl (yx (v := h11.v) (et rfl rfl) rfl) ?_
  refine Y wn rfl (yx (v := .int .i64 r10.2) (et rfl rfl) rfl) ?_
  refine Y wn rfl (ya (v := h11.v) (et rfl rfl)) ?_
  refine Y wn rfl (ya (v := .int .i64 r10.2) (et rfl rfl)) ?_
  refine wpList_nil ?_
  refine k4 _ _ ?_
  refine seqQ fun Q5 k5 z5 => ?_
  refine wp_region_lit ?_
  refine Y wn rfl (ym (v := .int .i64 r7.2) (et rfl rfl)) ?_
  refine Y wn rfl (yeql (et rfl rfl) rfl) ?_
  refine Y wn rfl (ym (v := .bool (decide (r7.2 = 0))) (et rfl rfl)) ?_
  refine joinW 3 (fun f w => f 2 = h8.v ∧ f 4 = h11.v ∧ f 27 = .bool ((decide (r7.2 = 0)) && (decide (r10.2 = 0))) ∧ St w0 (ros) (row 3 (rI .i64) h8.v r7.1 :: row 3 (rI .i64) h11.v r10.1 :: rs) w) (fun j1 => ?_) ?_
  · rcases Bool.eq_false_or_eq_true (decide (r7.2 = 0)) with c13 | c13
    · refine Y (wg rfl rfl rfl c13) rfl (ym (v := .int .i64 r10.2) (et rfl rfl)) ?_
      refine Y (wg rfl rfl rfl c13) rfl (yeql (et rfl rfl) rfl) ?_
      refine Y wn rfl (ypt (v := .bool (decide (r10.2 = 0))) (et rfl rfl) c13 (et rfl rfl)) ?_
      exact j1 _ _ ⟨rfl, rfl, (congrArg Value.bool (andT c13)), ((hst.pk 3 [1, 0] rfl).facts (allT (allT (allT (allT (allT (allT allI)))))))⟩
    · refine Gn (wx rfl rfl rfl c13) rfl ?_
      refine Gn (wx rfl rfl rfl c13) rfl ?_
      refine Y wn rfl (ypf (v := .bool false) (et rfl rfl) c13 rfl) ?_
      exact j1 _ _ ⟨rfl, rfl, (congrArg Value.bool (andF c13)), ((hst.pk 3 [1, 0] rfl).facts (allT (allT (allT (allT (allT (allT allI)))))))⟩
  clear hst
  rintro f w ⟨e12_2, e12_4, e12_27, hst⟩
  refine Y wn rfl (ym (v := .bool ((decide (r7.2 = 0)) && (decide (r10.2 = 0)))) (et rfl e12_27)) ?_
  obtain ⟨r16, gr16, hM⟩ := bs hM
  refine joinW 4 (fun f w => f 2 = h8.v ∧ f 4 = h11.v ∧ f 32 = .bool r16 ∧ St w0 (imm (rI .i64) h8.v r7.1 :: ros) (row 3 (rI .i64) h11.v r10.1 :: rs) w) (fun j2 => ?_) ?_
  · rcases iteS gr16 with ⟨c18, gr16⟩ | ⟨c18, gr16⟩
    · refine Y (wg rfl rfl rfl c18) rfl (ym (v := h8.v) (et rfl e12_2)) ?_
      refine YH (wg rfl rfl rfl c18) rfl (rLt (n := 4) (l := [2, 2, 3, (-1)]) hst SL_22 [.int .i64 2, .int .i64 2, .int .i64 3, .int .i64 (-1)] (bp4 rfl rfl rfl rfl) rfl rfl (mks1 (cs := [.int .i64 2]) rfl mkI (mks1 (cs := [.int .i64 2]) rfl mkI (mks1 (cs := [.int .i64 3]) rfl mkI (mks1 (cs := [.int .i64 (-1)]) rfl mkI mks0))))) ?_
      clear hst
      intro h19 w hst
      obtain ⟨r20, gr20, gr16⟩ := bs gr16
      replace hst := hst.pk 2 [1, 0] rfl
      replace hst := hst.fz
      replace hst := hst.fz
      refine Yc (wg rfl rfl rfl c18) rfl (yCall FN_10 (a2 (et rfl rfl) (et rfl rfl))) (sparsekit_Ints_ok (hM := gr20) (hst := hst) (q1 := (mtF mhF)) (q2 := mhF)) ?_
      clear hst
      rintro _ w ⟨rfl, hst⟩
      refine ⟨_, rfl, ?_⟩
      refine Y wn rfl (ypt (v := .bool r20) (et rfl rfl) c18 (et rfl rfl)) ?_
      obtain rfl := someI gr16
      exact j2 _ _ ⟨e12_2, e12_4, rfl, (hst.facts (allC (mtF mhF) (allT (allT allI))))⟩
    · refine Gn (wx rfl rfl rfl (bfalse c18)) rfl ?_
      refine Gn (wx rfl rfl rfl (bfalse c18)) rfl ?_
      refine Gn (wx rfl rfl rfl (bfalse c18)) rfl ?_
      refine Y wn rfl (ypf (v := .bool false) (et rfl rfl) (bfalse c18) rfl) ?_
      obtain rfl := someI gr16
      replace hst := hst.fz
      exact j2 _ _ ⟨e12_2, e12_4, rfl, hst⟩
  clear hst
  rintro f w ⟨e17_2, e17_4, e17_32, hst⟩
  refine Y wn rfl (ym (v := .bool r16) (et rfl e17_32)) ?_
  obtain ⟨r23, gr23, hM⟩ := bs hM
  refine joinW 4 (fun f w => f 2 = h8.v ∧ f 37 = .bool r23 ∧ St w0 (imm (rI .i64) h8.v r7.1 :: ros) (rs) w) (fun j3 => ?_) ?_
  · rcases iteS gr23 with ⟨c25, gr23⟩ | ⟨c25, gr23⟩
    · refine Y (wg rfl rfl rfl c25) rfl (ym (v := h11.v) (et rfl e17_4)) ?_
      refine YH (wg rfl rfl rfl c25) rfl (rLt (n := 3) (l := [1, 0, 2]) hst SL_22 [.int .i64 1, .int .i64 0, .int .i64 2] (bp3 rfl rfl rfl) rfl rfl (mks1 (cs := [.int .i64 1]) rfl mkI (mks1 (cs := [.int .i64 0]) rfl mkI (mks1 (cs := [.int .i64 2]) rfl mkI mks0)))) ?_
      clear hst
      intro h26 w hst
      obtain ⟨r27, gr27, gr23⟩ := bs gr23
      replace hst := hst.pk 2 [1, 0] rfl
      replace hst := hst.fz
      replace hst := hst.fz
      refine Yc (wg rfl rfl rfl c25) rfl (yCall FN_10 (a2 (et rfl rfl) (et rfl rfl))) (sparsekit_Ints_ok (hM := gr27) (hst := hst) (q1 := (mtF mhF)) (q2 := mhF)) ?_
      clear hst
      rintro _ w ⟨rfl, hst⟩
      refine ⟨_, rfl, ?_⟩
      refine Y wn rfl (ypt (v := .bool r27) (et rfl rfl) c25 (et rfl rfl)) ?_
      obtain rfl := someI gr23
      exact j3 _ _ ⟨e17_2, rfl, (hst.facts (allC (mtF (mtF mhF)) (allT (allT (allT allI)))))⟩
    · refine Gn (wx rfl rfl rfl (bfalse c25)) rfl ?_
      refine Gn (wx rfl rfl rfl (bfalse c25)) rfl ?_
      refine Gn (wx rfl rfl rfl (bfalse c25)) rfl ?_
      refine Y wn rfl (ypf (v := .bool false) (et rfl rfl) (bfalse c25) rfl) ?_
      obtain rfl := someI gr23
      exact j3 _ _ ⟨e17_2, rfl, (hst.pk 1 [] rfl)⟩
  clear hst
  rintro f w ⟨e24_2, e24_37, hst⟩
  refine Y wn rfl (ym (v := .bool r23) (et rfl e24_37)) ?_
  obtain ⟨r29, gr29, hM⟩ := bs hM
  refine joinW 4 (fun f w => f 42 = .bool r29 ∧ St w0 (ros) (rs) w) (fun j4 => ?_) ?_
  · rcases iteS gr29 with ⟨c31, gr29⟩ | ⟨c31, gr29⟩
    · refine Y (wg rfl rfl rfl c31) rfl (ym (v := h8.v) (et rfl e24_2)) ?_
      obtain ⟨r32, gr32, gr29⟩ := bs gr29
      refine Yc (wg rfl rfl rfl c31) rfl (yCall FN_12 (a1 (et rfl rfl))) (etree_Check_ok (hM := gr32) (hst := hst) (q1 := mhF)) ?_
      clear hst
      rintro _ w ⟨rfl, hst⟩
      refine ⟨_, rfl, ?_⟩
      refine Y (wg rfl rfl rfl c31) rfl (yeql (et rfl rfl) rfl) ?_
      refine Y wn rfl (ypt (v := .bool (decide (r32 = 0))) (et rfl rfl) c31 (et rfl rfl)) ?_
      obtain rfl := someI gr29
      exact j4 _ _ ⟨rfl, (hst.facts (allT allI))⟩
    · refine Gn (wx rfl rfl rfl (bfalse c31)) rfl ?_
      refine Gn (wx rfl rfl rfl (bfalse c31)) rfl ?_
      refine Gn (wx rfl rfl rfl (bfalse c31)) rfl ?_
      refine Y wn rfl (ypf (v := .bool false) (et rfl rfl) (bfalse c31) rfl) ?_
      obtain rfl := someI gr29
      exact j4 _ _ ⟨rfl, (hst.facts (allT allI))⟩
  clear hst
  rintro f w ⟨e30_42, hst⟩
  refine Y wn rfl (ya (v := .bool r29) (et rfl e30_42)) ?_
  refine wpList_nil ?_
  refine k5 _ _ ?_
  refine wp_ret ?_
  obtain rfl := someI hM
  exact hQ _ _ _ (fin1r Tryd.results4 ⟨rfl, rfl⟩ ⟨rfl, hst⟩)

theorem sparsekit_Place_ok {w0 : World} {ros : List Fact} {rs : List Res} {w : World} {x1 : Int} {x2 : Int} {out : Int} (hM : sparsekit_Place x1 x2 = some out) (hst : St w0 ros (rs) w) :
    Calls Tryd.prog 6 #[.int .i64 x1, .int .i64 x2] w (fun e w => e = .returned (.int .i64 out) ∧ St w0 (ros) (rs) w) := by
  refine enterQ Tryd.func6 rfl Tryd.ntmps6 rfl fun Q hQ => ?_
  refine seqQ fun Q1 k1 z1 => ?_
  refine wp_region_lit ?_
  refine Y wn rfl (ya (v := .int .i64 0) rfl) ?_
  refine wpList_nil ?_
  refine k1 _ _ ?_
  refine seqQ fun Q2 k2 z2 => ?_
  refine wp_region_lit ?_
  refine Y wn rfl (ym (v := .int .i64 x1) (et rfl rfl)) ?_
  refine Y wn rfl (ycv (k' := .u64) (by kernel_rfl) (by kernel_rfl) (et rfl rfl)) ?_
  refine Y wn rfl (ym (v := .int .i64 x2) (et rfl rfl)) ?_
  refine Y wn rfl (ycv (k' := .u64) (by kernel_rfl) (by kernel_rfl) (et rfl rfl)) ?_
  obtain ⟨x3, gx3, hM⟩ := bs hM
  refine Y wn rfl (yrem (et rfl rfl) (et rfl rfl) gx3) ?_
  refine Y wn rfl (ycv (k' := .i64) (by kernel_rfl) (by kernel_rfl) (et rfl rfl)) ?_
  refine Y wn rfl (ya (v := .int .i64 (wc .i64 x3)) (et rfl rfl)) ?_
  refine wpList_nil ?_
  refine k2 _ _ ?_
  refine wp_ret ?_
  obtain rfl := someI hM
  exact hQ _ _ _ (fin1r Tryd.results6 ⟨rfl, rfl⟩ ⟨rfl, hst⟩)

theorem sparseref01_trim_ok {w0 : World} {ros : List Fact} {rs : List Res} {w : World} {x1 : List Int} {h2 : Hdr} {out : (List Int)} (hM : sparseref01_trim x1 = some out) (q1 : imm (rI .u32) h2.v x1 ∈ ros) (hst : St w0 ros (rs) w) :
    Calls Tryd.prog 60 #[h2.v] w (fun e w => ∃ (h100001 : Hdr), e = .returned (h100001.v) ∧ St w0 (ros) (row 100 (rI .u32) h100001.v out :: rs) w) := by
  refine enterQ Tryd.func60 rfl Tryd.ntmps60 rfl fun Q hQ => ?_
  refine seqQ fun Q1 k1 z1 => ?_
  refine wp_region_lit ?_
  refine Y wn rfl (ya (v := hnil.v) rfl) ?_
  refine wpList_nil ?_
  refine k1 _ _ ?_
  refine seqQ fun Q2 k2 z2 => ?_
  refine wp_region_lit ?_
  refine Y wn rfl (ym (v := h2.v) (et rfl rfl)) ?_
  refine Y wn rfl (yLen SL_66 (et rfl rfl) hst (rdI q1)) ?_
  refine Y wn rfl (ya (v := .int .i64 (x1.length : Int)) (et rfl rfl)) ?_
  refine wpList_nil ?_
  refine k2 _ _ ?_
  refine seqQ fun Q3 k3 z3 => ?_
  refine blockQ fun Q4 qb4 => ?_
  obtain ⟨o3, go3, hM⟩ := bs hM
  have je3_0 : ∀ (x17 : Int) (f : Nat → Value) (w : World), f 0 = h2.v → f 3 = .int .i64 x17 → St w0 (ros) (rs) w → x17 = o3 → Q4 (.exit 0) (fr 33 f) w := by
    intro x17 f w eje3_0_0 eje3_0_3 hst ho
    subst ho
    refine qb4 _ _ _ ?_
    refine k3 _ _ ?_
    refine seqQ fun Q11 k11 z11 => ?_
    refine wp_region_lit ?_
    refine Y wn rfl (ya (v := hnil.v) rfl) ?_
    refine wpList_nil ?_
    refine k11 _ _ ?_
    refine seqQ fun Q12 k12 z12 => ?_
    refine seqQ fun Q13 k13 z13 => ?_
    refine wp_region_lit ?_
    refine Y wn rfl (ya (v := .int .i64 0) rfl) ?_
    refine wpList_nil ?_
    refine k13 _ _ ?_
    refine blockQ fun Q14 qb14 => ?_
    obtain ⟨o4, go4, hM⟩ := bs hM
    have je4_0 : ∀ (x35 : List Int) (h34 : Hdr) (f : Nat → Value) (w : World), f 4 = h34.v → St w0 (ros) (row 100 (rI .u32) h34.v x35 :: rs) w → x35 = o4 → Q14 (.exit 2) (fr 33 f) w := by
      intro x35 h34 f w eje4_0_4 hst ho
      subst ho
      refine qb14 _ _ _ ?_
      refine k12 _ _ ?_
      refine seqQ fun Q23 k23 z23 => ?_
      refine wp_region_lit ?_
      refine Y wn rfl (ym (v := h34.v) (et rfl eje4_0_4)) ?_
      refine Y wn rfl (ya (v := h34.v) (et rfl rfl)) ?_
      refine wpList_nil ?_
      refine k23 _ _ ?_
      refine wp_ret ?_
      obtain rfl := someI hM
      exact hQ _ _ _ (fin1r Tryd.results60 ⟨rfl, rfl⟩ ⟨_, rfl, hst⟩)
    replace hst := hst.rowNh 100 (rI .u32)
    refine loopQ (fun s a w => ∃ (x24 : List Int) (x25 : Int) (f : Nat → Value) (h23 : Hdr), (x24, x25) = s ∧ a = fr 33 f ∧ f 0 = h2.v ∧ f 3 = .int .i64 x17 ∧ f 4 = h23.v ∧ f 5 = .int .i64 x25 ∧ St w0 (ros) (row 100 (rI .u32) h23.v x24 :: rs) w) go4 ⟨_, _, _, _, rfl, rfl, eje3_0_0, eje3_0_3, rfl, rfl, hst⟩ ?_
    clear hst
    rintro _ _ w r4_ ⟨x24, x25, f, h23, rfl, rfl, e4_0, e4_3, e4_4, e4_5, hst⟩ hM4 ho4 Q100004 n4 zz4
    refine seqQ fun Q24 k24 z24 => ?_
    refine seqQ fun Q25 k25 z25 => ?_
    refine wp_region_lit ?_
    refine Y wn rfl (ym (v := .int .i64 x25) (et rfl e4_5)) ?_
    refine Y wn rfl (ym (v := .int .i64 x17) (et rfl e4_3)) ?_
    refine Y wn rfl (ylss (et rfl rfl) (et rfl rfl)) ?_
    refine wpList_nil ?_
    refine k25 _ _ ?_
    rcases iteS hM4 with ⟨c36, hM4⟩ | ⟨c36, hM4⟩
    · refine condT (et rfl rfl) (decide_eq_true c36) ?_
      refine wp_skip ?_
      refine k24 _ _ ?_
      refine seqQ fun Q26 k26 z26 => ?_
      refine blockQ fun Q27 qb27 => ?_
      refine wp_region_lit ?_
      refine Y wn rfl (ym (v := h23.v) (et rfl e4_4)) ?_
      refine Y wn rfl (ym (v := h2.v) (et rfl e4_0)) ?_
      refine Y wn rfl (ym (v := .int .i64 x25) (et rfl e4_5)) ?_
      obtain ⟨x37, gx37, hM4⟩ := bs hM4
      refine Y wn rfl (yIa SL_66 (et rfl rfl) (et rfl rfl) hst (rdI q1) gx37) ?_
      refine Y wn rfl (yI O_100 (et rfl rfl) hst (rdI q1) gx37) ?_
      refine YH wn rfl (rLt (n := 1) (l := [x37]) hst SL_66 [.int .u32 x37] (bp1 (et rfl rfl)) rfl rfl (mks1 (cs := [.int .u32 x37]) rfl mkI mks0)) ?_
      clear hst
      intro h38 w hst
      obtain ⟨x40, gx40, hM4⟩ := bs hM4
      replace hst := hst.pk 2 [1, 0] rfl
      refine YH wn rfl (rAp hst SL_66 (et rfl rfl) (et rfl rfl) (rdO (mtR mhR)) gx40) ?_
      clear hst
      intro h39 w hst
      refine Y wn rfl (ya (v := h39.v) (et rfl rfl)) ?_
      refine wpList_nil ?_
      refine qb27 _ _ _ ?_
      refine k26 _ _ ?_
      refine wp_region_lit ?_
      refine Y wn rfl (ym (v := .int .i64 x25) (et rfl e4_5)) ?_
      refine Y wn rfl (yadd (et rfl rfl) rfl) ?_
      refine Y wn rfl (ya (v := .int .i64 (wa .i64 x25 1)) (et rfl rfl)) ?_
      refine wpList_nil ?_
      obtain rfl := someI hM4
      exact n4 _ _ _ rfl ⟨_, _, _, _, rfl, rfl, e4_0, e4_3, rfl, rfl, (hst.pk 2 [0] rfl)⟩
    · refine condF (et rfl rfl) (decide_eq_false c36) ?_
      refine wp_exit ?_
      refine z24 _ _ _ rfl ?_
      obtain rfl := someI hM4
      refine zz4 _ _ _ _ rfl rfl ?_
      exact je4_0 _ _ _ _ e4_4 hst (ho4 _ rfl)
  refine loopQ (fun s a w => ∃ (x9 : Int) (f : Nat → Value), x9 = s ∧ a = fr 33 f ∧ f 0 = h2.v ∧ f 3 = .int .i64 x9 ∧ St w0 (ros) (rs) w) go3 ⟨_, _, rfl, rfl, rfl, rfl, hst⟩ ?_
  clear hst
  rintro _ _ w r3_ ⟨x9, f, rfl, rfl, e3_0, e3_3, hst⟩ hM3 ho3 Q100003 n3 zz3
  refine seqQ fun Q28 k28 z28 => ?_
  refine seqQ fun Q29 k29 z29 => ?_
  refine wp_region_lit ?_
  refine Y wn rfl (ym (v := .int .i64 x9) (et rfl e3_3)) ?_
  refine Y wn rfl (ygtr (et rfl rfl) rfl) ?_
  refine Y wn rfl (ym (v := .bool (decide ((0 : Int) < x9))) (et rfl rfl)) ?_
  obtain ⟨r42, gr42, hM3⟩ := bs hM3
  refine joinW 7 (fun f w => f 0 = h2.v ∧ f 3 = .int .i64 x9 ∧ f 17 = .bool r42 ∧ St w0 (ros) (rs) w) (fun j5 => ?_) ?_
  · rcases iteS gr42 with ⟨c44, gr42⟩ | ⟨c44, gr42⟩
    · refine Y (wg rfl rfl rfl (decide_eq_true c44)) rfl (ym (v := h2.v) (et rfl e3_0)) ?_
      refine Y (wg rfl rfl rfl (decide_eq_true c44)) rfl (ym (v := .int .i64 x9) (et rfl e3_3)) ?_
      refine Y (wg rfl rfl rfl (decide_eq_true c44)) rfl (ysub (et rfl rfl) rfl) ?_
      obtain ⟨x45, gx45, gr42⟩ := bs gr42
      refine Y (wg rfl rfl rfl (decide_eq_true c44)) rfl (yIa SL_66 (et rfl rfl) (et rfl rfl) hst (rdI q1) gx45) ?_
      refine Y (wg rfl rfl rfl (decide_eq_true c44)) rfl (yI O_100 (et rfl rfl) hst (rdI q1) gx45) ?_
      refine Y (wg rfl rfl rfl (decide_eq_true c44)) rfl (yeql (et rfl rfl) rfl) ?_
      refine Y wn rfl (ypt (v := .bool (decide (x45 = 0))) (et rfl rfl) (decide_eq_true c44) (et rfl rfl)) ?_
      obtain rfl := someI gr42
      exact j5 _ _ ⟨e3_0, e3_3, rfl, hst⟩
    · refine Gn (wx rfl rfl rfl (decide_eq_false c44)) rfl ?_
      refine Gn (wx rfl rfl rfl (decide_eq_false c44)) rfl ?_
      refine Gn (wx rfl rfl rfl (decide_eq_false c44)) rfl ?_
      refine Gn (wx rfl rfl rfl (decide_eq_false c44)) rfl ?_
      refine Gn (wx rfl rfl rfl (decide_eq_false c44)) rfl ?_
      refine Gn (wx rfl rfl rfl (decide_eq_false c44)) rfl ?_
      refine Y wn rfl (ypf (v := .bool false) (et rfl rfl) (decide_eq_false c44) rfl) ?_
      obtain rfl := someI gr42
      exact j5 _ _ ⟨e3_0, e3_3, rfl, hst⟩
  clear hst
  rintro f w ⟨e43_0, e43_3, e43_17, hst⟩
  refine wpList_nil ?_
  refine k29 _ _ ?_
  rcases iteS hM3 with ⟨c46, hM3⟩ | ⟨c46, hM3⟩
  · refine condT (et rfl e43_17) c46 ?_
    refine wp_skip ?_
    refine k28 _ _ ?_
    refine blockQ fun Q30 qb30 => ?_
    refine wp_region_lit ?_
    refine Y wn rfl (ym (v := .int .i64 x9) (et rfl e43_3)) ?_
    refine Y wn rfl (ysub (et rfl rfl) rfl) ?_
    refine Y wn rfl (ya (v := .int .i64 (ws .i64 x9 1)) (et rfl rfl)) ?_
    refine wpList_nil ?_
    refine qb30 _ _ _ ?_
    obtain rfl := someI hM3
    exact n3 _ _ _ rfl ⟨_, _, rfl, rfl, e43_0, rfl, hst⟩
  · refine condF (et rfl e43_17) (bfalse c46) ?_
    refine wp_exit ?_
    refine z28 _ _ _ rfl ?_
    obtain rfl := someI hM3
    refine zz3 _ _ _ _ rfl rfl ?_
    exact je3_0 _ _ _ e43_0 e43_3 hst (ho3 _ rfl)

theorem sparseref01_make1_ok {w0 : World} {ros : List Fact} {rs : List Res} {w : World} {x1 : Bool} {x2 : List Int} {h3 : Hdr} {out : Bool × (List Int)} (hM : sparseref01_make1 x1 x2 = some out) (q1 : imm (rI .u32) h3.v x2 ∈ ros) (hst : St w0 ros (rs) w) :
    Calls Tryd.prog 55 #[.bool x1, h3.v] w (fun e w => ∃ (h100002 : Hdr), e = .returned (.agg #[.bool out.1, h100002.v]) ∧ St w0 (ros) (row 100 (rI .u32) h100002.v out.2 :: rs) w) := by
  refine enterQ Tryd.func55 rfl Tryd.ntmps55 rfl fun Q hQ => ?_
  refine seqQ fun Q1 k1 z1 => ?_
  refine wp_region_lit ?_
  refine YB wn rfl (rAl hst ZT_68) ?_
  clear hst
  intro b4 w hst
  refine wpList_nil ?_
  refine k1 _ _ ?_
  refine seqQ fun Q2 k2 z2 => ?_
  refine wp_region_lit ?_
  refine Y wn rfl (ym (v := h3.v) (et rfl rfl)) ?_
  obtain ⟨r5, gr5, hM⟩ := bs hM
  refine Yc wn rfl (yCall FN_60 (a1 (et rfl rfl))) (sparseref01_trim_ok (hM := gr5) (hst := hst) (q1 := q1)) ?_
  clear hst
  rintro _ w ⟨h6, rfl, hst⟩
  refine ⟨_, rfl, ?_⟩
  refine Y wn rfl (ya (v := h6.v) (et rfl rfl)) ?_
  refine wpList_nil ?_
  refine k2 _ _ ?_
  refine seqQ fun Q3 k3 z3 => ?_
  refine wp_region_lit ?_
  refine Y wn rfl (ym (v := .bool x1) (et rfl rfl)) ?_
  refine Y wn rfl (ym (v := .bool x1) (et rfl rfl)) ?_
  refine joinW 4 (fun f w => f 1 = h6.v ∧ f 4 = .pointer (some ⟨b4, 0, none⟩) ∧ f 12 = .bool (x1 && (decide ((0 : Int) < (r5.length : Int)))) ∧ St w0 (ros) (row 100 (rI .u32) h6.v r5 :: box b4 68 [.bool false, hnil.v] :: rs) w) (fun j1 => ?_) ?_
  · rcases Bool.eq_false_or_eq_true (x1) with c8 | c8
    · refine Y (wg rfl rfl rfl c8) rfl (ym (v := h6.v) (et rfl rfl)) ?_
      refine Y (wg rfl rfl rfl c8) rfl (yLen SL_66 (et rfl rfl) hst (rdO mhR)) ?_
      refine Y (wg rfl rfl rfl c8) rfl (ygtr (et rfl rfl) rfl) ?_
      refine Y wn rfl (ypt (v := .bool (decide ((0 : Int) < (r5.length : Int)))) (et rfl rfl) c8 (et rfl rfl)) ?_
      exact j1 _ _ ⟨rfl, rfl, (congrArg Value.bool (andT c8)), hst⟩
    · refine Gn (wx rfl rfl rfl c8) rfl ?_
      refine Gn (wx rfl rfl rfl c8) rfl ?_
      refine Gn (wx rfl rfl rfl c8) rfl ?_
      refine Y wn rfl (ypf (v := .bool false) (et rfl rfl) c8 rfl) ?_
      exact j1 _ _ ⟨rfl, rfl, (congrArg Value.bool (andF c8)), hst⟩
  clear hst
  rintro f w ⟨e7_1, e7_4, e7_12, hst⟩
  refine Y wn rfl (ym (v := h6.v) (et rfl e7_1)) ?_
  refine Y wn rfl (ybuild (us := [.bool (x1 && (decide ((0 : Int) < (r5.length : Int)))), h6.v]) [(0, .bool (x1 && (decide ((0 : Int) < (r5.length : Int))))), (1, h6.v)] SO_68 (bp2 (et rfl e7_12) (et rfl rfl)) rfl) ?_
  replace hst := hst.pk 2 [1, 0] rfl
  refine YT wn rfl (r_stbn (vals' := [.bool (x1 && (decide ((0 : Int) < (r5.length : Int)))), h6.v]) (us := [.bool (x1 && (decide ((0 : Int) < (r5.length : Int)))), h6.v]) hst ST_68 (et rfl e7_4) (et rfl rfl) rfl rfl (one_of rfl) rfl) ?_
  clear hst
  intro w hst
  refine wpList_nil ?_
  refine k3 _ _ ?_
  refine wp_ret ?_
  obtain rfl := someI hM
  exact hQ _ _ _ (fin1r Tryd.results55 (rcs2 rfl e7_4 hst mhR ST_68 rfl) ⟨_, rfl, (hst.pk 2 [1] rfl)⟩)

theorem sparseref01_FromInt_ok {w0 : World} {ros : List Fact} {rs : List Res} {w : World} {x1 : Int} {out : Bool × (List Int)} (hM : sparseref01_FromInt x1 = some out) (hst : St w0 ros (rs) w) :
    Calls Tryd.prog 43 #[.int .i64 x1] w (fun e w => ∃ (h100002 : Hdr), e = .returned (.agg #[.bool out.1, h100002.v]) ∧ St w0 (ros) (row 100 (rI .u32) h100002.v out.2 :: rs) w) := by
  refine enterQ Tryd.func43 rfl Tryd.ntmps43 rfl fun Q hQ => ?_
  refine seqQ fun Q1 k1 z1 => ?_
  refine wp_region_lit ?_
  refine YB wn rfl (rAl hst ZT_68) ?_
  clear hst
  intro b2 w hst
  refine wpList_nil ?_
  refine k1 _ _ ?_
  refine seqQ fun Q2 k2 z2 => ?_
  refine wp_region_lit ?_
  refine Y wn rfl (ym (v := .int .i64 x1) (et rfl rfl)) ?_
  refine Y wn rfl (ycv (k' := .u64) (by kernel_rfl) (by kernel_rfl) (et rfl rfl)) ?_
  refine Y wn rfl (ya (v := .int .u64 (wc .u64 x1)) (et rfl rfl)) ?_
  refine wpList_nil ?_
  refine k2 _ _ ?_
  refine seqQ fun Q3 k3 z3 => ?_
  refine seqQ fun Q4 k4 z4 => ?_
  refine wp_region_lit ?_
  refine Y wn rfl (ym (v := .int .i64 x1) (et rfl rfl)) ?_
  refine Y wn rfl (ylss (et rfl rfl) rfl) ?_
  refine wpList_nil ?_
  refine k4 _ _ ?_
  have j1 : ∀ (x3 : Int) (f : Nat → Value) (w : World), f 0 = .int .i64 x1 → f 2 = .pointer (some ⟨b2, 0, none⟩) → f 3 = .int .u64 x3 → St w0 (ros) (box b2 68 [.bool false, hnil.v] :: rs) w → sparseref01_FromInt_j1 x1 x3 = some out → Q3 .normal (fr 22 f) w := by
    intro x3 f w ej1_0 ej1_2 ej1_3 hst hM
    refine k3 _ _ ?_
    refine seqQ fun Q5 k5 z5 => ?_
    refine wp_region_lit ?_
    refine Y wn rfl (ym (v := .int .i64 x1) (et rfl ej1_0)) ?_
    refine Y wn rfl (ylss (et rfl rfl) rfl) ?_
    refine Y wn rfl (ym (v := .int .u64 x3) (et rfl ej1_3)) ?_
    refine Y wn rfl (ycv (k' := .u32) (by kernel_rfl) (by kernel_rfl) (et rfl rfl)) ?_
    refine Y wn rfl (ym (v := .int .u64 x3) (et rfl ej1_3)) ?_
    refine Y wn rfl (yshrc (et rfl rfl) rfl) ?_
    refine Y wn rfl (ycv (k' := .u32) (by kernel_rfl) (by kernel_rfl) (et rfl rfl)) ?_
    refine YH wn rfl (rLt (n := 2) (l := [wc .u32 x3, wc .u32 (wsrc .u64 x3 32)]) hst SL_66 [.int .u32 (wc .u32 x3), .int .u32 (wc .u32 (wsrc .u64 x3 32))] (bp2 (et rfl rfl) (et rfl rfl)) rfl rfl (mks1 (cs := [.int .u32 (wc .u32 x3)]) rfl mkI (mks1 (cs := [.int .u32 (wc .u32 (wsrc .u64 x3 32))]) rfl mkI mks0))) ?_
    clear hst
    intro h4 w hst
    obtain ⟨r5, gr5, hM⟩ := bs hM
    replace hst := hst.fz
    refine Yc wn rfl (yCall FN_55 (a2 (et rfl rfl) (et rfl rfl))) (sparseref01_make1_ok (hM := gr5) (hst := hst) (q1 := mhF)) ?_
    clear hst
    rintro _ w ⟨h6, rfl, hst⟩
    refine ⟨_, rfl, ?_⟩
    replace hst := hst.pk 2 [1, 0] rfl
    refine YT wn rfl (r_stbn (vals' := [.bool r5.1, h6.v]) (us := [.bool r5.1, h6.v]) hst ST_68 (et rfl ej1_2) (et rfl rfl) rfl rfl (one_of rfl) rfl) ?_
    clear hst
    intro w hst
    refine wpList_nil ?_
    refine k5 _ _ ?_
    refine wp_ret ?_
    obtain rfl := someI hM
    exact hQ _ _ _ (fin1r Tryd.results43 (rcs2 rfl ej1_2 hst mhR ST_68 rfl) ⟨_, rfl, ((hst.pk 2 [1] rfl).facts (allT allI))⟩)
  rcases iteS hM with ⟨c7, hM⟩ | ⟨c7, hM⟩
  · refine condT (et rfl rfl) (decide_eq_true c7) ?_
    refine wp_region_lit ?_
    refine Y wn rfl (ym (v := .int .i64 x1) (et rfl rfl)) ?_
    refine Y wn rfl (yadd (et rfl rfl) rfl) ?_
    refine Y wn rfl (yneg (et rfl rfl)) ?_
    refine Y wn rfl (ycv (k' := .u64) (by kernel_rfl) (by kernel_rfl) (et rfl rfl)) ?_
    refine Y wn rfl (yadd (et rfl rfl) rfl) ?_
    refine Y wn rfl (ya (v := .int .u64 (wa .u64 (wc .u64 (wneg .i64 (wa .i64 x1 1))) 1)) (et rfl rfl)) ?_
    refine wpList_nil ?_
    exact j1 _ _ _ rfl rfl rfl hst hM
  · refine condF (et rfl rfl) (decide_eq_false c7) ?_
    refine wp_skip ?_
    exact j1 _ _ _ rfl rfl rfl hst hM

theorem sparseref01_Norm_ok {w0 : World} {ros : List Fact} {rs : List Res} {w : World} {x1 : Bool} {x2 : List Int} {h3 : Hdr} {out : Bool × (List Int)} (hM : sparseref01_Norm x1 x2 = some out) (q1 : imm (rI .u32) h3.v x2 ∈ ros) (hst : St w0 ros (rs) w) :
    Calls Tryd.prog 48 #[.agg #[.bool x1, h3.v]] w (fun e w => ∃ (h100002 : Hdr), e = .returned (.agg #[.bool out.1, h100002.v]) ∧ St w0 (ros) (row 100 (rI .u32) h100002.v out.2 :: rs) w) := by
  refine enterQ Tryd.func48 rfl Tryd.ntmps48 rfl fun Q hQ => ?_
  refine seqQ fun Q1 k1 z1 => ?_
  refine wp_region_lit ?_
  refine YB wn rfl (r_box (vals := [.bool x1, h3.v]) hst (et rfl rfl) rfl) ?_
  clear hst
  intro b4 w hst
  refine YB wn rfl (rAl hst ZT_68) ?_
  clear hst
  intro b5 w hst
  refine wpList_nil ?_
  refine k1 _ _ ?_
  refine seqQ fun Q2 k2 z2 => ?_
  refine wp_region_lit ?_
  refine Y wn rfl (yFb FL_68_0 (et rfl rfl)) ?_
  refine Y wn rfl (yLb (u := .bool x1) O_4 (et rfl rfl) hst (mtR mhR) rfl) ?_
  refine Y wn rfl (yFb FL_68_1 (et rfl rfl)) ?_
  refine Y wn rfl (yLb (u := h3.v) O_66 (et rfl rfl) hst (mtR mhR) rfl) ?_
  obtain ⟨r6, gr6, hM⟩ := bs hM
  refine Yc wn rfl (yCall FN_55 (a2 (et rfl rfl) (et rfl rfl))) (sparseref01_make1_ok (hM := gr6) (hst := hst) (q1 := q1)) ?_
  clear hst
  rintro _ w ⟨h7, rfl, hst⟩
  refine ⟨_, rfl, ?_⟩
  replace hst := hst.pk 2 [1, 0] rfl
  refine YT wn rfl (r_stbn (vals' := [.bool r6.1, h7.v]) (us := [.bool r6.1, h7.v]) hst ST_68 (et rfl rfl) (et rfl rfl) rfl rfl (one_of rfl) rfl) ?_
  clear hst
  intro w hst
  refine wpList_nil ?_
  refine k2 _ _ ?_
  refine wp_ret ?_
  obtain rfl := someI hM
  exact hQ _ _ _ (fin1r Tryd.results48 (rcs2 rfl rfl hst mhR ST_68 rfl) ⟨_, rfl, (hst.pk 3 [1] rfl)⟩)

theorem sparseref02_Bad_ok {w0 : World} {ros : List Fact} {rs : List Res} {w : World} {out : Bool × Bool × Int} (hM : sparseref02_Bad = some out) (hst : St w0 ros (rs) w) :
    Calls Tryd.prog 41 #[] w (fun e w => e = .returned (.agg #[.bool out.1, .bool out.2.1, hnil.v, .int .i64 out.2.2]) ∧ St w0 (ros) (rs) w) := by
  refine enterQ Tryd.func41 rfl Tryd.ntmps41 rfl fun Q hQ => ?_
  refine seqQ fun Q1 k1 z1 => ?_
  refine wp_region_lit ?_
  refine YB wn rfl (rAl hst ZT_70) ?_
  clear hst
  intro b1 w hst
  refine wpList_nil ?_
  refine k1 _ _ ?_
  refine seqQ fun Q2 k2 z2 => ?_
  refine wp_region_lit ?_
  refine Y wn rfl (ybuild (us := [.bool true, .bool false, hnil.v, .int .i64 0]) [(0, .bool true)] SO_70 (bp1 rfl) rfl) ?_
  refine YT wn rfl (r_stbn (vals' := [.bool true, .bool false, hnil.v, .int .i64 0]) (us := [.bool true, .bool false, hnil.v, .int .i64 0]) hst ST_70 (et rfl rfl) (et rfl rfl) rfl rfl (one_of rfl) rfl) ?_
  clear hst
  intro w hst
  refine wpList_nil ?_
  refine k2 _ _ ?_
  refine wp_ret ?_
  obtain rfl := someI hM
  exact hQ _ _ _ (fin1r Tryd.results41 (rcs2 rfl rfl hst mhR ST_70 rfl) ⟨rfl, (hst.pk 1 [] rfl)⟩)

theorem sparseref01_TrailingZeros_ok {w0 : World} {ros : List Fact} {rs : List Res} {w : World} {x1 : Bool} {x2 : List Int} {h3 : Hdr} {out : Int} (hM : sparseref01_TrailingZeros x1 x2 = some out) (q1 : imm (rI .u32) h3.v x2 ∈ ros) (q2 : globF ∈ ros) (hst : St w0 ros (rs) w) :
    Calls Tryd.prog 56 #[.agg #[.bool x1, h3.v]] w (fun e w => e = .returned (.int .i64 out) ∧ St w0 (ros) (rs) w) := by
  refine enterQ Tryd.func56 rfl Tryd.ntmps56 rfl fun Q hQ => ?_
  refine seqQ fun Q1 k1 z1 => ?_
  refine wp_region_lit ?_
  refine YB wn rfl (r_box (vals := [.bool x1, h3.v]) hst (et rfl rfl) rfl) ?_
  clear hst
  intro b4 w hst
  refine Y wn rfl (ya (v := .int .i64 0) rfl) ?_
  refine wpList_nil ?_
  refine k1 _ _ ?_
  refine seqQ fun Q2 k2 z2 => ?_
  refine wp_region_lit ?_
  refine Y wn rfl (yFb FL_68_1 (et rfl rfl)) ?_
  refine Y wn rfl (yLb (u := h3.v) O_66 (et rfl rfl) hst mhR rfl) ?_
  obtain ⟨r5, gr5, hM⟩ := bs hM
  refine Yc wn rfl (yCall FN_60 (a1 (et rfl rfl))) (sparseref01_trim_ok (hM := gr5) (hst := hst) (q1 := q1)) ?_
  clear hst
  rintro _ w ⟨h6, rfl, hst⟩
  refine ⟨_, rfl, ?_⟩
  refine Y wn rfl (ya (v := h6.v) (et rfl rfl)) ?_
  refine wpList_nil ?_
  refine k2 _ _ ?_
  refine seqQ fun Q3 k3 z3 => ?_
  refine seqQ fun Q4 k4 z4 => ?_
  refine wp_region_lit ?_
  refine Y wn rfl (ya (v := .int .i64 0) rfl) ?_
  refine wpList_nil ?_
  refine k4 _ _ ?_
  refine blockQ fun Q5 qb5 => ?_
  obtain ⟨o1, go1, hM⟩ := bs hM
  have je1_0 : ∀ (f : Nat → Value) (w : World), St w0 (ros) (rs) w → .inl () = o1 → Q5 (.exit 0) (fr 27 f) w := by
    intro f w hst ho
    subst ho
    refine qb5 _ _ _ ?_
    refine k3 _ _ ?_
    refine seqQ fun Q18 k18 z18 => ?_
    refine wp_region_lit ?_
    refine Y wn rfl (ya (v := .int .i64 0) rfl) ?_
    refine wpList_nil ?_
    refine k18 _ _ ?_
    refine wp_ret ?_
    obtain rfl := someI hM
    exact hQ _ _ _ (fin1r Tryd.results56 ⟨rfl, rfl⟩ ⟨rfl, hst⟩)
  have je1_1 : ∀ (x19 : Int) (f : Nat → Value) (w : World), f 2 = .int .i64 x19 → St w0 (ros) (rs) w → .inr x19 = o1 → Q5 .ret (fr 27 f) w := by
    intro x19 f w eje1_1_2 hst ho
    subst ho
    refine qb5 _ _ _ ?_
    refine z3 _ _ _ rfl ?_
    obtain rfl := someI hM
    exact hQ _ _ _ (fin1r Tryd.results56 ⟨rfl, eje1_1_2⟩ ⟨rfl, hst⟩)
  refine loopQ (fun s a w => ∃ (x12 : Int) (f : Nat → Value), x12 = s ∧ a = fr 27 f ∧ f 3 = h6.v ∧ f 4 = .int .i64 x12 ∧ St w0 (ros) (row 100 (rI .u32) h6.v r5 :: rs) w) go1 ⟨_, _, rfl, rfl, rfl, rfl, (hst.pk 2 [0] rfl)⟩ ?_
  clear hst
  rintro _ _ w r1_ ⟨x12, f, rfl, rfl, e1_3, e1_4, hst⟩ hM1 ho1 Q100001 n1 zz1
  refine seqQ fun Q19 k19 z19 => ?_
  refine seqQ fun Q20 k20 z20 => ?_
  refine wp_region_lit ?_
  refine Y wn rfl (ym (v := .int .i64 x12) (et rfl e1_4)) ?_
  refine Y wn rfl (ym (v := h6.v) (et rfl e1_3)) ?_
  refine Y wn rfl (yLen SL_66 (et rfl rfl) hst (rdO mhR)) ?_
  refine Y wn rfl (ylss (et rfl rfl) (et rfl rfl)) ?_
  refine wpList_nil ?_
  refine k20 _ _ ?_
  rcases iteS hM1 with ⟨c20, hM1⟩ | ⟨c20, hM1⟩
  · refine condT (et rfl rfl) (decide_eq_true c20) ?_
    refine wp_skip ?_
    refine k19 _ _ ?_
    refine seqQ fun Q21 k21 z21 => ?_
    refine blockQ fun Q22 qb22 => ?_
    refine seqQ fun Q23 k23 z23 => ?_
    refine wp_region_lit ?_
    refine Y wn rfl (ym (v := h6.v) (et rfl e1_3)) ?_
    refine Y wn rfl (ym (v := .int .i64 x12) (et rfl e1_4)) ?_
    obtain ⟨x21, gx21, hM1⟩ := bs hM1
    refine Y wn rfl (yIa SL_66 (et rfl rfl) (et rfl rfl) hst (rdO mhR) gx21) ?_
    refine Y wn rfl (yI O_100 (et rfl rfl) hst (rdO mhR) gx21) ?_
    refine Y wn rfl (yneq (et rfl rfl) rfl) ?_
    refine wpList_nil ?_
    refine k23 _ _ ?_
    rcases iteS hM1 with ⟨c22, hM1⟩ | ⟨c22, hM1⟩
    · refine condF (et rfl rfl) (nF (decide_eq_true c22)) ?_
      refine wp_skip ?_
      refine qb22 _ _ _ ?_
      refine k21 _ _ ?_
      refine wp_region_lit ?_
      refine Y wn rfl (ym (v := .int .i64 x12) (et rfl e1_4)) ?_
      refine Y wn rfl (yadd (et rfl rfl) rfl) ?_
      refine Y wn rfl (ya (v := .int .i64 (wa .i64 x12 1)) (et rfl rfl)) ?_
      refine wpList_nil ?_
      obtain rfl := someI hM1
      exact n1 _ _ _ rfl ⟨_, _, rfl, rfl, e1_3, rfl, hst⟩
    · refine condT (et rfl rfl) (nT (decide_eq_false c22)) ?_
      refine seqQ fun Q24 k24 z24 => ?_
      refine wp_region_lit ?_
      refine Y wn rfl (ym (v := .int .i64 x12) (et rfl e1_4)) ?_
      refine Y wn rfl (ymul rfl (et rfl rfl)) ?_
      refine Y wn rfl (ym (v := h6.v) (et rfl e1_3)) ?_
      refine Y wn rfl (ym (v := .int .i64 x12) (et rfl e1_4)) ?_
      obtain ⟨x23, gx23, hM1⟩ := bs hM1
      refine Y wn rfl (yIa SL_66 (et rfl rfl) (et rfl rfl) hst (rdO mhR) gx23) ?_
      refine Y wn rfl (yI O_100 (et rfl rfl) hst (rdO mhR) gx23) ?_
      obtain ⟨r24, gr24, hM1⟩ := bs hM1
      refine Yc wn rfl (yCall FN_68 (a1 (et rfl rfl))) (tz32_ok (hM := gr24) (hst := hst) (q1 := q2)) ?_
      clear hst
      rintro _ w ⟨rfl, hst⟩
      refine ⟨_, rfl, ?_⟩
      refine Y wn rfl (yadd (et rfl rfl) (et rfl rfl)) ?_
      refine Y wn rfl (ya (v := .int .i64 (wa .i64 (wm .i64 32 x12) r24)) (et rfl rfl)) ?_
      refine wpList_nil ?_
      refine k24 _ _ ?_
      refine wp_ret ?_
      refine qb22 _ _ _ ?_
      refine z21 _ _ _ rfl ?_
      obtain rfl := someI hM1
      refine zz1 _ _ _ _ rfl rfl ?_
      exact je1_1 _ _ _ rfl (hst.pk 1 [] rfl) (ho1 _ rfl)
  · refine condF (et rfl rfl) (decide_eq_false c20) ?_
    refine wp_exit ?_
    refine z19 _ _ _ rfl ?_
    obtain rfl := someI hM1
    refine zz1 _ _ _ _ rfl rfl ?_
    exact je1_0 _ _ (hst.pk 1 [] rfl) (ho1 _ rfl)

theorem sparseref01_Abs_ok {w0 : World} {ros : List Fact} {rs : List Res} {w : World} {x1 : Bool} {x2 : List Int} {h3 : Hdr} {out : Bool × (List Int)} (hM : sparseref01_Abs x1 x2 = some out) (q1 : imm (rI .u32) h3.v x2 ∈ ros) (hst : St w0 ros (rs) w) :
    Calls Tryd.prog 40 #[.agg #[.bool x1, h3.v]] w (fun e w => ∃ (h100002 : Hdr), e = .returned (.agg #[.bool out.1, h100002.v]) ∧ St w0 (ros) (row 100 (rI .u32) h100002.v out.2 :: rs) w) := by
  refine enterQ Tryd.func40 rfl Tryd.ntmps40 rfl fun Q hQ => ?_
  refine seqQ fun Q1 k1 z1 => ?_
  refine wp_region_lit ?_
  refine YB wn rfl (r_box (vals := [.bool x1, h3.v]) hst (et rfl rfl) rfl) ?_
  clear hst
  intro b4 w hst
  refine YB wn rfl (rAl hst ZT_68) ?_
  clear hst
  intro b5 w hst
  refine wpList_nil ?_
  refine k1 _ _ ?_
  refine seqQ fun Q2 k2 z2 => ?_
  refine wp_region_lit ?_
  refine Y wn rfl (yFb FL_68_1 (et rfl rfl)) ?_
  refine Y wn rfl (yLb (u := h3.v) O_66 (et rfl rfl) hst (mtR mhR) rfl) ?_
  obtain ⟨r6, gr6, hM⟩ := bs hM
  refine Yc wn rfl (yCall FN_55 (a2 rfl (et rfl rfl))) (sparseref01_make1_ok (hM := gr6) (hst := hst) (q1 := q1)) ?_
  clear hst
  rintro _ w ⟨h7, rfl, hst⟩
  refine ⟨_, rfl, ?_⟩
  replace hst := hst.pk 2 [1, 0] rfl
  refine YT wn rfl (r_stbn (vals' := [.bool r6.1, h7.v]) (us := [.bool r6.1, h7.v]) hst ST_68 (et rfl rfl) (et rfl rfl) rfl rfl (one_of rfl) rfl) ?_
  clear hst
  intro w hst
  refine wpList_nil ?_
  refine k2 _ _ ?_
  refine wp_ret ?_
  obtain rfl := someI hM
  exact hQ _ _ _ (fin1r Tryd.results40 (rcs2 rfl rfl hst mhR ST_68 rfl) ⟨_, rfl, (hst.pk 3 [1] rfl)⟩)

theorem sparseref01_shl_ok {w0 : World} {ros : List Fact} {rs : List Res} {w : World} {x1 : List Int} {x3 : Int} {h2 : Hdr} {out : (List Int)} (hM : sparseref01_shl x1 x3 = some out) (q1 : imm (rI .u32) h2.v x1 ∈ ros) (hst : St w0 ros (rs) w) :
    Calls Tryd.prog 65 #[h2.v, .int .i64 x3] w (fun e w => ∃ (h100001 : Hdr), e = .returned (h100001.v) ∧ St w0 (ros) (row 100 (rI .u32) h100001.v out :: rs) w) := by
  refine enterQ Tryd.func65 rfl Tryd.ntmps65 rfl fun Q hQ => ?_
  refine seqQ fun Q1 k1 z1 => ?_
  refine wp_region_lit ?_
  refine Y wn rfl (ya (v := hnil.v) rfl) ?_
  refine wpList_nil ?_
  refine k1 _ _ ?_
  refine seqQ fun Q2 k2 z2 => ?_
  refine wp_region_lit ?_
  refine Y wn rfl (ym (v := .int .i64 x3) (et rfl rfl)) ?_
  refine Y wn rfl (yquoc (et rfl rfl) rfl (by decide)) ?_
  obtain ⟨x6, gx6, hM⟩ := bs hM
  refine YH wn rfl (rMk hst SL_66 (et rfl rfl) gx6) ?_
  clear hst
  intro h4 w hst
  refine Y wn rfl (ya (v := h4.v) (et rfl rfl)) ?_
  refine wpList_nil ?_
  refine k2 _ _ ?_
  refine seqQ fun Q3 k3 z3 => ?_
  refine wp_region_lit ?_
  refine Y wn rfl (ya (v := .int .u64 0) rfl) ?_
  refine wpList_nil ?_
  refine k3 _ _ ?_
  refine seqQ fun Q4 k4 z4 => ?_
  refine seqQ fun Q5 k5 z5 => ?_
  refine wp_region_lit ?_
  refine Y wn rfl (ya (v := .int .i64 0) rfl) ?_
  refine wpList_nil ?_
  refine k5 _ _ ?_
  refine blockQ fun Q6 qb6 => ?_
  obtain ⟨o1, go1, hM⟩ := bs hM
  have je1_0 : ∀ (x28 : List Int) (x29 : Int) (h27 : Hdr) (f : Nat → Value) (w : World), f 5 = h27.v → f 6 = .int .u64 x29 → St w0 (ros) (row 100 (rI .u32) h27.v x28 :: rs) w → (x28, x29) = o1 → Q6 (.exit 0) (fr 39 f) w := by
    intro x28 x29 h27 f w eje1_0_5 eje1_0_6 hst ho
    subst ho
    refine qb6 _ _ _ ?_
    refine k4 _ _ ?_
    refine seqQ fun Q19 k19 z19 => ?_
    refine wp_region_lit ?_
    refine Y wn rfl (ym (v := h27.v) (et rfl eje1_0_5)) ?_
    refine Y wn rfl (ym (v := .int .u64 x29) (et rfl eje1_0_6)) ?_
    refine Y wn rfl (ycv (k' := .u32) (by kernel_rfl) (by kernel_rfl) (et rfl rfl)) ?_
    refine YH wn rfl (rLt (n := 1) (l := [wc .u32 x29]) hst SL_66 [.int .u32 (wc .u32 x29)] (bp1 (et rfl rfl)) rfl rfl (mks1 (cs := [.int .u32 (wc .u32 x29)]) rfl mkI mks0)) ?_
    clear hst
    intro h30 w hst
    obtain ⟨x32, gx32, hM⟩ := bs hM
    replace hst := hst.pk 2 [1, 0] rfl
    refine YH wn rfl (rAp hst SL_66 (et rfl rfl) (et rfl rfl) (rdO (mtR mhR)) gx32) ?_
    clear hst
    intro h31 w hst
    refine Y wn rfl (ya (v := h31.v) (et rfl rfl)) ?_
    refine wpList_nil ?_
    refine k19 _ _ ?_
    refine wp_ret ?_
    obtain rfl := someI hM
    exact hQ _ _ _ (fin1r Tryd.results65 ⟨rfl, rfl⟩ ⟨_, rfl, (hst.pk 2 [0] rfl)⟩)
  refine loopQ (fun s a w => ∃ (x14 : List Int) (x15 : Int) (x16 : Int) (f : Nat → Value) (h13 : Hdr), (x14, x15, x16) = s ∧ a = fr 39 f ∧ f 0 = h2.v ∧ f 1 = .int .i64 x3 ∧ f 5 = h13.v ∧ f 6 = .int .u64 x15 ∧ f 7 = .int .i64 x16 ∧ St w0 (ros) (row 100 (rI .u32) h13.v x14 :: rs) w) go1 ⟨_, _, _, _, _, rfl, rfl, rfl, rfl, rfl, rfl, rfl, hst⟩ ?_
  clear hst
  rintro _ _ w r1_ ⟨x14, x15, x16, f, h13, rfl, rfl, e1_0, e1_1, e1_5, e1_6, e1_7, hst⟩ hM1 ho1 Q100001 n1 zz1
  refine seqQ fun Q20 k20 z20 => ?_
  refine seqQ fun Q21 k21 z21 => ?_
  refine wp_region_lit ?_
  refine Y wn rfl (ym (v := .int .i64 x16) (et rfl e1_7)) ?_
  refine Y wn rfl (ym (v := h2.v) (et rfl e1_0)) ?_
  refine Y wn rfl (yLen SL_66 (et rfl rfl) hst (rdI q1)) ?_
  refine Y wn rfl (ylss (et rfl rfl) (et rfl rfl)) ?_
  refine wpList_nil ?_
  refine k21 _ _ ?_
  rcases iteS hM1 with ⟨c33, hM1⟩ | ⟨c33, hM1⟩
  · refine condT (et rfl rfl) (decide_eq_true c33) ?_
    refine wp_skip ?_
    refine k20 _ _ ?_
    refine seqQ fun Q22 k22 z22 => ?_
    refine blockQ fun Q23 qb23 => ?_
    refine seqQ fun Q24 k24 z24 => ?_
    refine wp_region_lit ?_
    refine Y wn rfl (ym (v := .int .u64 x15) (et rfl e1_6)) ?_
    refine Y wn rfl (ym (v := h2.v) (et rfl e1_0)) ?_
    refine Y wn rfl (ym (v := .int .i64 x16) (et rfl e1_7)) ?_
    obtain ⟨x34, gx34, hM1⟩ := bs hM1
    refine Y wn rfl (yIa SL_66 (et rfl rfl) (et rfl rfl) hst (rdI q1) gx34) ?_
    refine Y wn rfl (yI O_100 (et rfl rfl) hst (rdI q1) gx34) ?_
    refine Y wn rfl (ycv (k' := .u64) (by kernel_rfl) (by kernel_rfl) (et rfl rfl)) ?_
    refine Y wn rfl (ym (v := .int .i64 x3) (et rfl e1_1)) ?_
    refine Y wn rfl (yremc (et rfl rfl) rfl (by decide)) ?_
    obtain ⟨x35, gx35, hM1⟩ := bs hM1
    refine Y wn rfl (yshl (et rfl rfl) (et rfl rfl) gx35) ?_
    refine Y wn rfl (yor (et rfl rfl) (et rfl rfl)) ?_
    refine Y wn rfl (ya (v := .int .u64 (wor .u64 x15 x35)) (et rfl rfl)) ?_
    refine wpList_nil ?_
    refine k24 _ _ ?_
    refine seqQ fun Q25 k25 z25 => ?_
    refine wp_region_lit ?_
    refine Y wn rfl (ym (v := h13.v) (et rfl e1_5)) ?_
    refine Y wn rfl (ym (v := .int .u64 (wor .u64 x15 x35)) (et rfl rfl)) ?_
    refine Y wn rfl (ycv (k' := .u32) (by kernel_rfl) (by kernel_rfl) (et rfl rfl)) ?_
    refine YH wn rfl (rLt (n := 1) (l := [wc .u32 (wor .u64 x15 x35)]) hst SL_66 [.int .u32 (wc .u32 (wor .u64 x15 x35))] (bp1 (et rfl rfl)) rfl rfl (mks1 (cs := [.int .u32 (wc .u32 (wor .u64 x15 x35))]) rfl mkI mks0)) ?_
    clear hst
    intro h36 w hst
    obtain ⟨x38, gx38, hM1⟩ := bs hM1
    replace hst := hst.pk 2 [1, 0] rfl
    refine YH wn rfl (rAp hst SL_66 (et rfl rfl) (et rfl rfl) (rdO (mtR mhR)) gx38) ?_
    clear hst
    intro h37 w hst
    refine Y wn rfl (ya (v := h37.v) (et rfl rfl)) ?_
    refine wpList_nil ?_
    refine k25 _ _ ?_
    refine wp_region_lit ?_
    refine Y wn rfl (ym (v := .int .u64 (wor .u64 x15 x35)) (et rfl rfl)) ?_
    refine Y wn rfl (yshrc (et rfl rfl) rfl) ?_
    refine Y wn rfl (ya (v := .int .u64 (wsrc .u64 (wor .u64 x15 x35) 32)) (et rfl rfl)) ?_
    refine wpList_nil ?_
    refine qb23 _ _ _ ?_
    refine k22 _ _ ?_
    refine wp_region_lit ?_
    refine Y wn rfl (ym (v := .int .i64 x16) (et rfl e1_7)) ?_
    refine Y wn rfl (yadd (et rfl rfl) rfl) ?_
    refine Y wn rfl (ya (v := .int .i64 (wa .i64 x16 1)) (et rfl rfl)) ?_
    refine wpList_nil ?_
    obtain rfl := someI hM1
    exact n1 _ _ _ rfl ⟨_, _, _, _, _, rfl, rfl, e1_0, e1_1, rfl, rfl, rfl, (hst.pk 2 [0] rfl)⟩
  · refine condF (et rfl rfl) (decide_eq_false c33) ?_
    refine wp_exit ?_
    refine z20 _ _ _ rfl ?_
    obtain rfl := someI hM1
    refine zz1 _ _ _ _ rfl rfl ?_
    exact je1_0 _ _ _ _ _ e1_5 e1_6 hst (ho1 _ rfl)

theorem sparseref01_shr_ok {w0 : World} {ros : List Fact} {rs : List Res} {w : World} {x1 : List Int} {x3 : Int} {h2 : Hdr} {out : (List Int) × Bool} (hM : sparseref01_shr x1 x3 = some out) (q1 : imm (rI .u32) h2.v x1 ∈ ros) (hst : St w0 ros (rs) w) :
    Calls Tryd.prog 66 #[h2.v, .int .i64 x3] w (fun e w => ∃ (h100001 : Hdr), e = .returned (.tuple #[h100001.v, .bool out.2]) ∧ St w0 (ros) (row 100 (rI .u32) h100001.v out.1 :: rs) w) := by
  refine enterQ Tryd.func66 rfl Tryd.ntmps66 rfl fun Q hQ => ?_
  refine seqQ fun Q1 k1 z1 => ?_
  refine wp_region_lit ?_
  refine Y wn rfl (ya (v := hnil.v) rfl) ?_
  refine Y wn rfl (ya (v := .bool false) rfl) ?_
  refine wpList_nil ?_
  refine k1 _ _ ?_
  refine seqQ fun Q2 k2 z2 => ?_
  refine wp_region_lit ?_
  refine Y wn rfl (ya (v := .bool false) rfl) ?_
  refine wpList_nil ?_
  refine k2 _ _ ?_
  refine seqQ fun Q3 k3 z3 => ?_
  refine seqQ fun Q4 k4 z4 => ?_
  refine wp_region_lit ?_
  refine Y wn rfl (ya (v := .int .i64 0) rfl) ?_
  refine wpList_nil ?_
  refine k4 _ _ ?_
  refine blockQ fun Q5 qb5 => ?_
  obtain ⟨o4, go4, hM⟩ := bs hM
  have je4_0 : ∀ (x20 : Bool) (f : Nat → Value) (w : World), f 0 = h2.v → f 1 = .int .i64 x3 → f 6 = .bool x20 → St w0 (ros) (rs) w → x20 = o4 → Q5 (.exit 0) (fr 85 f) w := by
    intro x20 f w eje4_0_0 eje4_0_1 eje4_0_6 hst ho
    subst ho
    refine qb5 _ _ _ ?_
    refine k3 _ _ ?_
    refine seqQ fun Q14 k14 z14 => ?_
    refine wp_region_lit ?_
    refine Y wn rfl (ya (v := hnil.v) rfl) ?_
    refine wpList_nil ?_
    refine k14 _ _ ?_
    refine seqQ fun Q15 k15 z15 => ?_
    refine wp_region_lit ?_
    refine Y wn rfl (ym (v := .int .i64 x3) (et rfl eje4_0_1)) ?_
    refine Y wn rfl (yremc (et rfl rfl) rfl (by decide)) ?_
    refine Y wn rfl (ya (v := .int .i64 (wrc x3 32)) (et rfl rfl)) ?_
    refine wpList_nil ?_
    refine k15 _ _ ?_
    refine seqQ fun Q16 k16 z16 => ?_
    refine seqQ fun Q17 k17 z17 => ?_
    refine wp_region_lit ?_
    refine Y wn rfl (ym (v := .int .i64 x3) (et rfl eje4_0_1)) ?_
    refine Y wn rfl (yquoc (et rfl rfl) rfl (by decide)) ?_
    refine Y wn rfl (ya (v := .int .i64 (wqc .i64 x3 32)) (et rfl rfl)) ?_
    refine wpList_nil ?_
    refine k17 _ _ ?_
    refine blockQ fun Q18 qb18 => ?_
    obtain ⟨o15, go15, hM⟩ := bs hM
    have je15_0 : ∀ (x63 : Bool) (x65 : List Int) (h64 : Hdr) (f : Nat → Value) (w : World), f 6 = .bool x63 → f 8 = h64.v → St w0 (ros) (row 100 (rI .u32) h64.v x65 :: rs) w → (x63, x65) = o15 → Q18 (.exit 2) (fr 85 f) w := by
      intro x63 x65 h64 f w eje15_0_6 eje15_0_8 hst ho
      subst ho
      refine qb18 _ _ _ ?_
      refine k16 _ _ ?_
      refine seqQ fun Q37 k37 z37 => ?_
      refine wp_region_lit ?_
      refine Y wn rfl (ym (v := h64.v) (et rfl eje15_0_8)) ?_
      refine Y wn rfl (ym (v := .bool x63) (et rfl eje15_0_6)) ?_
      refine Y wn rfl (ya (v := h64.v) (et rfl rfl)) ?_
      refine Y wn rfl (ya (v := .bool x63) (et rfl rfl)) ?_
      refine wpList_nil ?_
      refine k37 _ _ ?_
      refine wp_ret ?_
      obtain rfl := someI hM
      exact hQ _ _ _ (fin2r Tryd.results66 ⟨rfl, rfl⟩ ⟨rfl, rfl⟩ ⟨_, rfl, hst⟩)
    replace hst := hst.rowNh 100 (rI .u32)
    refine loopQ (fun s a w => ∃ (x38 : Bool) (x40 : List Int) (x41 : Int) (f : Nat → Value) (h39 : Hdr), (x38, x40, x41) = s ∧ a = fr 85 f ∧ f 0 = h2.v ∧ f 1 = .int .i64 x3 ∧ f 6 = .bool x38 ∧ f 8 = h39.v ∧ f 9 = .int .i64 (wrc x3 32) ∧ f 10 = .int .i64 x41 ∧ St w0 (ros) (row 100 (rI .u32) h39.v x40 :: rs) w) go15 ⟨_, _, _, _, _, rfl, rfl, eje4_0_0, eje4_0_1, eje4_0_6, rfl, rfl, rfl, hst⟩ ?_
    clear hst
    rintro _ _ w r15_ ⟨x38, x40, x41, f, h39, rfl, rfl, e15_0, e15_1, e15_6, e15_8, e15_9, e15_10, hst⟩ hM15 ho15 Q100015 n15 zz15
    refine seqQ fun Q38 k38 z38 => ?_
    refine seqQ fun Q39 k39 z39 => ?_
    refine wp_region_lit ?_
    refine Y wn rfl (ym (v := .int .i64 x41) (et rfl e15_10)) ?_
    refine Y wn rfl (ym (v := h2.v) (et rfl e15_0)) ?_
    refine Y wn rfl (yLen SL_66 (et rfl rfl) hst (rdI q1)) ?_
    refine Y wn rfl (ylss (et rfl rfl) (et rfl rfl)) ?_
    refine wpList_nil ?_
    refine k39 _ _ ?_
    rcases iteS hM15 with ⟨c66, hM15⟩ | ⟨c66, hM15⟩
    · refine condT (et rfl rfl) (decide_eq_true c66) ?_
      refine wp_skip ?_
      refine k38 _ _ ?_
      refine seqQ fun Q40 k40 z40 => ?_
      refine blockQ fun Q41 qb41 => ?_
      refine seqQ fun Q42 k42 z42 => ?_
      refine wp_region_lit ?_
      refine Y wn rfl (ym (v := h2.v) (et rfl e15_0)) ?_
      refine Y wn rfl (ym (v := .int .i64 x41) (et rfl e15_10)) ?_
      obtain ⟨x67, gx67, hM15⟩ := bs hM15
      refine Y wn rfl (yIa SL_66 (et rfl rfl) (et rfl rfl) hst (rdI q1) gx67) ?_
      refine Y wn rfl (yI O_100 (et rfl rfl) hst (rdI q1) gx67) ?_
      refine Y wn rfl (ycv (k' := .u64) (by kernel_rfl) (by kernel_rfl) (et rfl rfl)) ?_
      refine Y wn rfl (ya (v := .int .u64 (wc .u64 x67)) (et rfl rfl)) ?_
      refine wpList_nil ?_
      refine k42 _ _ ?_
      refine seqQ fun Q43 k43 z43 => ?_
      refine seqQ fun Q44 k44 z44 => ?_
      refine wp_region_lit ?_
      refine Y wn rfl (ym (v := .int .i64 x41) (et rfl e15_10)) ?_
      refine Y wn rfl (yadd (et rfl rfl) rfl) ?_
      refine Y wn rfl (ym (v := h2.v) (et rfl e15_0)) ?_
      refine Y wn rfl (yLen SL_66 (et rfl rfl) hst (rdI q1)) ?_
      refine Y wn rfl (ylss (et rfl rfl) (et rfl rfl)) ?_
      refine wpList_nil ?_
      refine k44 _ _ ?_
      have j16 : ∀ (x69 : Int) (f : Nat → Value) (w : World), f 0 = h2.v → f 1 = .int .i64 x3 → f 6 = .bool x38 → f 8 = h39.v → f 9 = .int .i64 (wrc x3 32) → f 10 = .int .i64 x41 → f 11 = .int .u64 x69 → St w0 (ros) (row 100 (rI .u32) h39.v x40 :: rs) w → sparseref01_shr_j16 x41 x3 x1 x40 x38 x69 = some r15_ → Q43 .normal (fr 85 f) w := by
        intro x69 f w ej16_0 ej16_1 ej16_6 ej16_8 ej16_9 ej16_10 ej16_11 hst hM
        refine k43 _ _ ?_
        refine seqQ fun Q45 k45 z45 => ?_
        refine seqQ fun Q46 k46 z46 => ?_
        obtain ⟨r70, gr70, hM⟩ := bs hM
        refine joinN (n := 85) (fun f w => f 0 = h2.v ∧ f 1 = .int .i64 x3 ∧ f 6 = .bool x38 ∧ f 8 = h39.v ∧ f 9 = .int .i64 (wrc x3 32) ∧ f 10 = .int .i64 x41 ∧ f 11 = .int .u64 x69 ∧ f 75 = .bool r70 ∧ St w0 (ros) (row 100 (rI .u32) h39.v x40 :: rs) w) (fun j17 => ?_) ?_
        · rcases iteS gr70 with ⟨c72, gr70⟩ | ⟨c72, gr70⟩
          · obtain ⟨x73, gx73, gr70⟩ := bs gr70
            obtain ⟨x74, gx74, gr70⟩ := bs gr70
            have hr18 := someI gr70
            refine wp_drawR [0, 0, 2, 7, 15, 31, 31, 127, 255, 31, 543, 1567, 4095, 8191, 16383] [] 0 folM (by kernel_rfl) (by kernel_rfl) (by kernel_rfl) ?_
            replace hst := hst.drew
            refine DRz (l1 := [0, 1, 2, 3, 4, 5, 6, 7, 8, 9, 10, 11, 12, 13, 14]) (l2 := []) (by kernel_rfl) (by kernel_rfl) ?_
            refine Ry rfl rfl wn (ym (v := .int .i64 x41) (et rfl ej16_10)) ?_
            refine Ry rfl rfl wn (ym (v := .int .i64 x3) (et rfl ej16_1)) ?_
            refine Ry rfl rfl wn (yquoc (et rfl rfl) rfl (by decide)) ?_
            refine Ry rfl rfl wn (yeql (et rfl rfl) (et rfl rfl)) ?_
            refine Ry rfl rfl wn (ym (v := .bool (decide (x41 = (wqc .i64 x3 32)))) (et rfl rfl)) ?_
            refine Ry rfl rfl (wg rfl rfl rfl (decide_eq_true c72)) (ym (v := h2.v) (et rfl ej16_0)) ?_
            refine Ry rfl rfl (wg rfl rfl rfl (decide_eq_true c72)) (ym (v := .int .i64 x41) (et rfl ej16_10)) ?_
            refine Ry rfl rfl (wg rfl rfl rfl (decide_eq_true c72)) (yIa SL_66 (et rfl rfl) (et rfl rfl) hst (rdI q1) gx73) ?_
            refine Ry rfl rfl (wg rfl rfl rfl (decide_eq_true c72)) (yI O_100 (et rfl rfl) hst (rdI q1) gx73) ?_
            refine Ry rfl rfl (wg rfl rfl rfl (decide_eq_true c72)) (ym (v := .int .i64 (wrc x3 32)) (et rfl ej16_9)) ?_
            refine Ry rfl rfl (wg rfl rfl rfl (decide_eq_true c72)) (yshl rfl (et rfl rfl) gx74) ?_
            refine Ry rfl rfl (wg rfl rfl rfl (decide_eq_true c72)) (ysub (et rfl rfl) rfl) ?_
            refine Ry rfl rfl (wg rfl rfl rfl (decide_eq_true c72)) (yand (et rfl rfl) (et rfl rfl)) ?_
            refine Ry rfl rfl (wg rfl rfl rfl (decide_eq_true c72)) (yneq (et rfl rfl) rfl) ?_
            refine Ry rfl rfl wn (ypt (v := .bool r70) (et rfl rfl) (decide_eq_true c72) (eqv hr18 (et rfl rfl))) ?_
            refine Rn QSn ?_
            exact j17 _ _ ⟨ej16_0, ej16_1, ej16_6, ej16_8, ej16_9, ej16_10, ej16_11, rfl, hst⟩
          · have hr19 := someI gr70
            refine wp_drawR [0, 0, 2, 7, 15, 31, 31, 127, 255, 31, 543, 1567, 4095, 8191, 16383] [] 0 folM (by kernel_rfl) (by kernel_rfl) (by kernel_rfl) ?_
            replace hst := hst.drew
            refine DRz (l1 := [0, 1, 2, 3, 4, 5, 6, 7, 8, 9, 10, 11, 12, 13, 14]) (l2 := []) (by kernel_rfl) (by kernel_rfl) ?_
            refine Ry rfl rfl wn (ym (v := .int .i64 x41) (et rfl ej16_10)) ?_
            refine Ry rfl rfl wn (ym (v := .int .i64 x3) (et rfl ej16_1)) ?_
            refine Ry rfl rfl wn (yquoc (et rfl rfl) rfl (by decide)) ?_
            refine Ry rfl rfl wn (yeql (et rfl rfl) (et rfl rfl)) ?_
            refine Ry rfl rfl wn (ym (v := .bool (decide (x41 = (wqc .i64 x3 32)))) (et rfl rfl)) ?_
            refine Rx rfl rfl (wx rfl rfl rfl (decide_eq_false c72)) ?_
            refine Rx rfl rfl (wx rfl rfl rfl (decide_eq_false c72)) ?_
            refine Rx rfl rfl (wx rfl rfl rfl (decide_eq_false c72)) ?_
            refine Rx rfl rfl (wx rfl rfl rfl (decide_eq_false c72)) ?_
            refine Rx rfl rfl (wx rfl rfl rfl (decide_eq_false c72)) ?_
            refine Rx rfl rfl (wx rfl rfl rfl (decide_eq_false c72)) ?_
            refine Rx rfl rfl (wx rfl rfl rfl (decide_eq_false c72)) ?_
            refine Rx rfl rfl (wx rfl rfl rfl (decide_eq_false c72)) ?_
            refine Rx rfl rfl (wx rfl rfl rfl (decide_eq_false c72)) ?_
            refine Ry rfl rfl wn (ypf (v := .bool r70) (et rfl rfl) (decide_eq_false c72) (eqv hr19 rfl)) ?_
            refine Rn QSn ?_
            exact j17 _ _ ⟨ej16_0, ej16_1, ej16_6, ej16_8, ej16_9, ej16_10, ej16_11, rfl, hst⟩
        clear hst
        rintro f w ⟨e71_0, e71_1, e71_6, e71_8, e71_9, e71_10, e71_11, e71_75, hst⟩
        refine k46 _ _ ?_
        have j20 : ∀ (x75 : Bool) (f : Nat → Value) (w : World), f 0 = h2.v → f 1 = .int .i64 x3 → f 6 = .bool x75 → f 8 = h39.v → f 9 = .int .i64 (wrc x3 32) → f 10 = .int .i64 x41 → f 11 = .int .u64 x69 → St w0 (ros) (row 100 (rI .u32) h39.v x40 :: rs) w → sparseref01_shr_j20 x69 x3 x40 x41 x75 = some r15_ → Q45 .normal (fr 85 f) w := by
          intro x75 f w ej20_0 ej20_1 ej20_6 ej20_8 ej20_9 ej20_10 ej20_11 hst hM
          refine k45 _ _ ?_
          refine wp_region_lit ?_
          refine Y wn rfl (ym (v := h39.v) (et rfl ej20_8)) ?_
          refine Y wn rfl (ym (v := .int .u64 x69) (et rfl ej20_11)) ?_
          refine Y wn rfl (ym (v := .int .i64 (wrc x3 32)) (et rfl ej20_9)) ?_
          obtain ⟨x76, gx76, hM⟩ := bs hM
          refine Y wn rfl (yshr (et rfl rfl) (et rfl rfl) gx76) ?_
          refine Y wn rfl (ycv (k' := .u32) (by kernel_rfl) (by kernel_rfl) (et rfl rfl)) ?_
          refine YH wn rfl (rLt (n := 1) (l := [wc .u32 x76]) hst SL_66 [.int .u32 (wc .u32 x76)] (bp1 (et rfl rfl)) rfl rfl (mks1 (cs := [.int .u32 (wc .u32 x76)]) rfl mkI mks0)) ?_
          clear hst
          intro h77 w hst
          obtain ⟨x79, gx79, hM⟩ := bs hM
          replace hst := hst.pk 2 [1, 0] rfl
          refine YH wn rfl (rAp hst SL_66 (et rfl rfl) (et rfl rfl) (rdO (mtR mhR)) gx79) ?_
          clear hst
          intro h78 w hst
          refine Y wn rfl (ya (v := h78.v) (et rfl rfl)) ?_
          refine wpList_nil ?_
          refine qb41 _ _ _ ?_
          refine k40 _ _ ?_
          refine wp_region_lit ?_
          refine Y wn rfl (ym (v := .int .i64 x41) (et rfl ej20_10)) ?_
          refine Y wn rfl (yadd (et rfl rfl) rfl) ?_
          refine Y wn rfl (ya (v := .int .i64 (wa .i64 x41 1)) (et rfl rfl)) ?_
          refine wpList_nil ?_
          obtain rfl := someI hM
          exact n15 _ _ _ rfl ⟨_, _, _, _, _, rfl, rfl, ej20_0, ej20_1, ej20_6, rfl, ej20_9, rfl, (hst.pk 2 [0] rfl)⟩
        rcases iteS hM with ⟨c80, hM⟩ | ⟨c80, hM⟩
        · refine condT (et rfl e71_75) c80 ?_
          refine wp_region_lit ?_
          refine Y wn rfl (ya (v := .bool true) rfl) ?_
          refine wpList_nil ?_
          exact j20 _ _ _ e71_0 e71_1 rfl e71_8 e71_9 e71_10 e71_11 hst hM
        · refine condF (et rfl e71_75) (bfalse c80) ?_
          refine wp_skip ?_
          exact j20 _ _ _ e71_0 e71_1 e71_6 e71_8 e71_9 e71_10 e71_11 hst hM
      rcases iteS hM15 with ⟨c81, hM15⟩ | ⟨c81, hM15⟩
      · refine condT (et rfl rfl) (decide_eq_true c81) ?_
        refine wp_region_lit ?_
        refine Y wn rfl (ym (v := .int .u64 (wc .u64 x67)) (et rfl rfl)) ?_
        refine Y wn rfl (ym (v := h2.v) (et rfl e15_0)) ?_
        refine Y wn rfl (ym (v := .int .i64 x41) (et rfl e15_10)) ?_
        refine Y wn rfl (yadd (et rfl rfl) rfl) ?_
        obtain ⟨x82, gx82, hM15⟩ := bs hM15
        refine Y wn rfl (yIa SL_66 (et rfl rfl) (et rfl rfl) hst (rdI q1) gx82) ?_
        refine Y wn rfl (yI O_100 (et rfl rfl) hst (rdI q1) gx82) ?_
        refine Y wn rfl (ycv (k' := .u64) (by kernel_rfl) (by kernel_rfl) (et rfl rfl)) ?_
        refine Y wn rfl (yshlc (et rfl rfl) rfl) ?_
        refine Y wn rfl (yor (et rfl rfl) (et rfl rfl)) ?_
        refine Y wn rfl (ya (v := .int .u64 (wor .u64 (wc .u64 x67) (wslc .u64 (wc .u64 x82) 32))) (et rfl rfl)) ?_
        refine wpList_nil ?_
        exact j16 _ _ _ e15_0 e15_1 e15_6 e15_8 e15_9 e15_10 rfl hst hM15
      · refine condF (et rfl rfl) (decide_eq_false c81) ?_
        refine wp_skip ?_
        exact j16 _ _ _ e15_0 e15_1 e15_6 e15_8 e15_9 e15_10 rfl hst hM15
    · refine condF (et rfl rfl) (decide_eq_false c66) ?_
      refine wp_exit ?_
      refine z38 _ _ _ rfl ?_
      obtain rfl := someI hM15
      refine zz15 _ _ _ _ rfl rfl ?_
      exact je15_0 _ _ _ _ _ e15_6 e15_8 hst (ho15 _ rfl)
  refine loopQ (fun s a w => ∃ (x8 : Bool) (x9 : Int) (f : Nat → Value), (x8, x9) = s ∧ a = fr 85 f ∧ f 0 = h2.v ∧ f 1 = .int .i64 x3 ∧ f 6 = .bool x8 ∧ f 7 = .int .i64 x9 ∧ St w0 (ros) (rs) w) go4 ⟨_, _, _, rfl, rfl, rfl, rfl, rfl, rfl, hst⟩ ?_
  clear hst
  rintro _ _ w r4_ ⟨x8, x9, f, rfl, rfl, e4_0, e4_1, e4_6, e4_7, hst⟩ hM4 ho4 Q100004 n4 zz4
  refine seqQ fun Q47 k47 z47 => ?_
  refine seqQ fun Q48 k48 z48 => ?_
  refine wp_region_lit ?_
  refine Y wn rfl (ym (v := .int .i64 x9) (et rfl e4_7)) ?_
  refine Y wn rfl (ym (v := .int .i64 x3) (et rfl e4_1)) ?_
  refine Y wn rfl (yquoc (et rfl rfl) rfl (by decide)) ?_
  refine Y wn rfl (ylss (et rfl rfl) (et rfl rfl)) ?_
  refine Y wn rfl (ym (v := .bool (decide (x9 < (wqc .i64 x3 32)))) (et rfl rfl)) ?_
  refine joinW 5 (fun f w => f 0 = h2.v ∧ f 1 = .int .i64 x3 ∧ f 6 = .bool x8 ∧ f 7 = .int .i64 x9 ∧ f 21 = .bool ((decide (x9 < (wqc .i64 x3 32))) && (decide (x9 < (x1.length : Int)))) ∧ St w0 (ros) (rs) w) (fun j21 => ?_) ?_
  · rcases Bool.eq_false_or_eq_true (decide (x9 < (wqc .i64 x3 32))) with c84 | c84
    · refine Y (wg rfl rfl rfl c84) rfl (ym (v := .int .i64 x9) (et rfl e4_7)) ?_
      refine Y (wg rfl rfl rfl c84) rfl (ym (v := h2.v) (et rfl e4_0)) ?_
      refine Y (wg rfl rfl rfl c84) rfl (yLen SL_66 (et rfl rfl) hst (rdI q1)) ?_
      refine Y (wg rfl rfl rfl c84) rfl (ylss (et rfl rfl) (et rfl rfl)) ?_
      refine Y wn rfl (ypt (v := .bool (decide (x9 < (x1.length : Int)))) (et rfl rfl) c84 (et rfl rfl)) ?_
      exact j21 _ _ ⟨e4_0, e4_1, e4_6, e4_7, (congrArg Value.bool (andT c84)), hst⟩
    · refine Gn (wx rfl rfl rfl c84) rfl ?_
      refine Gn (wx rfl rfl rfl c84) rfl ?_
      refine Gn (wx rfl rfl rfl c84) rfl ?_
      refine Gn (wx rfl rfl rfl c84) rfl ?_
      refine Y wn rfl (ypf (v := .bool false) (et rfl rfl) c84 rfl) ?_
      exact j21 _ _ ⟨e4_0, e4_1, e4_6, e4_7, (congrArg Value.bool (andF c84)), hst⟩
  clear hst
  rintro f w ⟨e83_0, e83_1, e83_6, e83_7, e83_21, hst⟩
  refine wpList_nil ?_
  refine k48 _ _ ?_
  rcases iteS hM4 with ⟨c85, hM4⟩ | ⟨c85, hM4⟩
  · refine condT (et rfl e83_21) c85 ?_
    refine wp_skip ?_
    refine k47 _ _ ?_
    refine seqQ fun Q49 k49 z49 => ?_
    refine blockQ fun Q50 qb50 => ?_
    refine wp_region_lit ?_
    refine Y wn rfl (ym (v := .bool x8) (et rfl e83_6)) ?_
    refine Y wn rfl (ym (v := .bool x8) (et rfl rfl)) ?_
    obtain ⟨r87, gr87, hM4⟩ := bs hM4
    refine joinW 6 (fun f w => f 0 = h2.v ∧ f 1 = .int .i64 x3 ∧ f 7 = .int .i64 x9 ∧ f 31 = .bool r87 ∧ St w0 (ros) (rs) w) (fun j22 => ?_) ?_
    · rcases iteS gr87 with ⟨c89, gr87⟩ | ⟨c89, gr87⟩
      · refine Gn (wx rfl rfl rfl c89) rfl ?_
        refine Gn (wx rfl rfl rfl c89) rfl ?_
        refine Gn (wx rfl rfl rfl c89) rfl ?_
        refine Gn (wx rfl rfl rfl c89) rfl ?_
        refine Gn (wx rfl rfl rfl c89) rfl ?_
        refine Y wn rfl (ypt (v := .bool true) (et rfl rfl) c89 rfl) ?_
        obtain rfl := someI gr87
        exact j22 _ _ ⟨e83_0, e83_1, e83_7, rfl, hst⟩
      · refine Y (wg rfl rfl rfl (bfalse c89)) rfl (ym (v := h2.v) (et rfl e83_0)) ?_
        refine Y (wg rfl rfl rfl (bfalse c89)) rfl (ym (v := .int .i64 x9) (et rfl e83_7)) ?_
        obtain ⟨x90, gx90, gr87⟩ := bs gr87
        refine Y (wg rfl rfl rfl (bfalse c89)) rfl (yIa SL_66 (et rfl rfl) (et rfl rfl) hst (rdI q1) gx90) ?_
        refine Y (wg rfl rfl rfl (bfalse c89)) rfl (yI O_100 (et rfl rfl) hst (rdI q1) gx90) ?_
        refine Y (wg rfl rfl rfl (bfalse c89)) rfl (yneq (et rfl rfl) rfl) ?_
        refine Y wn rfl (ypf (v := .bool (!(decide (x90 = 0)))) (et rfl rfl) (bfalse c89) (et rfl rfl)) ?_
        obtain rfl := someI gr87
        exact j22 _ _ ⟨e83_0, e83_1, e83_7, rfl, hst⟩
    clear hst
    rintro f w ⟨e88_0, e88_1, e88_7, e88_31, hst⟩
    refine Y wn rfl (ya (v := .bool r87) (et rfl e88_31)) ?_
    refine wpList_nil ?_
    refine qb50 _ _ _ ?_
    refine k49 _ _ ?_
    refine wp_region_lit ?_
    refine Y wn rfl (ym (v := .int .i64 x9) (et rfl e88_7)) ?_
    refine Y wn rfl (yadd (et rfl rfl) rfl) ?_
    refine Y wn rfl (ya (v := .int .i64 (wa .i64 x9 1)) (et rfl rfl)) ?_
    refine wpList_nil ?_
    obtain rfl := someI hM4
    exact n4 _ _ _ rfl ⟨_, _, _, rfl, rfl, e88_0, e88_1, rfl, rfl, hst⟩
  · refine condF (et rfl e83_21) (bfalse c85) ?_
    refine wp_exit ?_
    refine z47 _ _ _ rfl ?_
    obtain rfl := someI hM4
    refine zz4 _ _ _ _ rfl rfl ?_
    exact je4_0 _ _ _ e83_0 e83_1 e83_6 hst (ho4 _ rfl)

theorem sparseref01_Neg_ok {w0 : World} {ros : List Fact} {rs : List Res} {w : World} {x1 : Bool} {x2 : List Int} {h3 : Hdr} {out : Bool × (List Int)} (hM : sparseref01_Neg x1 x2 = some out) (q1 : imm (rI .u32) h3.v x2 ∈ ros) (hst : St w0 ros (rs) w) :
    Calls Tryd.prog 73 #[.agg #[.bool x1, h3.v]] w (fun e w => ∃ (h100002 : Hdr), e = .returned (.agg #[.bool out.1, h100002.v]) ∧ St w0 (ros) (row 100 (rI .u32) h100002.v out.2 :: rs) w) := by
  refine enterQ Tryd.func73 rfl Tryd.ntmps73 rfl fun Q hQ => ?_
  refine seqQ fun Q1 k1 z1 => ?_
  refine wp_region_lit ?_
  refine YB wn rfl (r_box (vals := [.bool x1, h3.v]) hst (et rfl rfl) rfl) ?_
  clear hst
  intro b4 w hst
  refine YB wn rfl (rAl hst ZT_68) ?_
  clear hst
  intro b5 w hst
  refine wpList_nil ?_
  refine k1 _ _ ?_
  refine seqQ fun Q2 k2 z2 => ?_
  refine wp_region_lit ?_
  refine Y wn rfl (yFb FL_68_0 (et rfl rfl)) ?_
  refine Y wn rfl (yLb (u := .bool x1) O_4 (et rfl rfl) hst (mtR mhR) rfl) ?_
  refine Y wn rfl (ynot (et rfl rfl)) ?_
  refine Y wn rfl (yFb FL_68_1 (et rfl rfl)) ?_
  refine Y wn rfl (yLb (u := h3.v) O_66 (et rfl rfl) hst (mtR mhR) rfl) ?_
  obtain ⟨r6, gr6, hM⟩ := bs hM
  refine Yc wn rfl (yCall FN_55 (a2 (et rfl rfl) (et rfl rfl))) (sparseref01_make1_ok (hM := gr6) (hst := hst) (q1 := q1)) ?_
  clear hst
  rintro _ w ⟨h7, rfl, hst⟩
  refine ⟨_, rfl, ?_⟩
  replace hst := hst.pk 2 [1, 0] rfl
  refine YT wn rfl (r_stbn (vals' := [.bool r6.1, h7.v]) (us := [.bool r6.1, h7.v]) hst ST_68 (et rfl rfl) (et rfl rfl) rfl rfl (one_of rfl) rfl) ?_
  clear hst
  intro w hst
  refine wpList_nil ?_
  refine k2 _ _ ?_
  refine wp_ret ?_
  obtain rfl := someI hM
  exact hQ _ _ _ (fin1r Tryd.results73 (rcs2 rfl rfl hst mhR ST_68 rfl) ⟨_, rfl, (hst.pk 3 [1] rfl)⟩)

theorem sparseref01_addMag_ok {w0 : World} {ros : List Fact} {rs : List Res} {w : World} {x1 : List Int} {x3 : List Int} {h2 : Hdr} {h4 : Hdr} {out : (List Int)} (hM : sparseref01_addMag x1 x3 = some out) (q1 : imm (rI .u32) h2.v x1 ∈ ros) (q2 : imm (rI .u32) h4.v x3 ∈ ros) (hst : St w0 ros (rs) w) :
    Calls Tryd.prog 70 #[h2.v, h4.v] w (fun e w => ∃ (h100001 : Hdr), e = .returned (h100001.v) ∧ St w0 (ros) (row 100 (rI .u32) h100001.v out :: rs) w) := by
  refine enterQ Tryd.func70 rfl Tryd.ntmps70 rfl fun Q hQ => ?_
  refine seqQ fun Q1 k1 z1 => ?_
  refine wp_region_lit ?_
  refine Y wn rfl (ya (v := hnil.v) rfl) ?_
  refine wpList_nil ?_
  refine k1 _ _ ?_
  refine seqQ fun Q2 k2 z2 => ?_
  refine wp_region_lit ?_
  refine Y wn rfl (ya (v := hnil.v) rfl) ?_
  refine wpList_nil ?_
  refine k2 _ _ ?_
  refine seqQ fun Q3 k3 z3 => ?_
  refine wp_region_lit ?_
  refine Y wn rfl (ya (v := .int .u64 0) rfl) ?_
  refine wpList_nil ?_
  refine k3 _ _ ?_
  refine seqQ fun Q4 k4 z4 => ?_
  refine seqQ fun Q5 k5 z5 => ?_
  refine wp_region_lit ?_
  refine Y wn rfl (ya (v := .int .i64 0) rfl) ?_
  refine wpList_nil ?_
  refine k5 _ _ ?_
  refine blockQ fun Q6 qb6 => ?_
  obtain ⟨o5, go5, hM⟩ := bs hM
  have je5_0 : ∀ (x38 : List Int) (x39 : Int) (h37 : Hdr) (f : Nat → Value) (w : World), f 5 = h37.v → f 6 = .int .u64 x39 → St w0 (ros) (row 100 (rI .u32) h37.v x38 :: rs) w → (x38, x39) = o5 → Q6 (.exit 0) (fr 51 f) w := by
    intro x38 x39 h37 f w eje5_0_5 eje5_0_6 hst ho
    subst ho
    refine qb6 _ _ _ ?_
    refine k4 _ _ ?_
    refine seqQ fun Q25 k25 z25 => ?_
    refine wp_region_lit ?_
    refine Y wn rfl (ym (v := h37.v) (et rfl eje5_0_5)) ?_
    refine Y wn rfl (ym (v := .int .u64 x39) (et rfl eje5_0_6)) ?_
    refine Y wn rfl (ycv (k' := .u32) (by kernel_rfl) (by kernel_rfl) (et rfl rfl)) ?_
    refine YH wn rfl (rLt (n := 1) (l := [wc .u32 x39]) hst SL_66 [.int .u32 (wc .u32 x39)] (bp1 (et rfl rfl)) rfl rfl (mks1 (cs := [.int .u32 (wc .u32 x39)]) rfl mkI mks0)) ?_
    clear hst
    intro h40 w hst
    obtain ⟨x42, gx42, hM⟩ := bs hM
    replace hst := hst.pk 2 [1, 0] rfl
    refine YH wn rfl (rAp hst SL_66 (et rfl rfl) (et rfl rfl) (rdO (mtR mhR)) gx42) ?_
    clear hst
    intro h41 w hst
    refine Y wn rfl (ya (v := h41.v) (et rfl rfl)) ?_
    refine wpList_nil ?_
    refine k25 _ _ ?_
    refine wp_ret ?_
    obtain rfl := someI hM
    exact hQ _ _ _ (fin1r Tryd.results70 ⟨rfl, rfl⟩ ⟨_, rfl, (hst.pk 2 [0] rfl)⟩)
  replace hst := hst.rowNh 100 (rI .u32)
  refine loopQ (fun s a w => ∃ (x18 : List Int) (x19 : Int) (x20 : Int) (f : Nat → Value) (h17 : Hdr), (x18, x19, x20) = s ∧ a = fr 51 f ∧ f 0 = h2.v ∧ f 1 = h4.v ∧ f 5 = h17.v ∧ f 6 = .int .u64 x19 ∧ f 7 = .int .i64 x20 ∧ St w0 (ros) (row 100 (rI .u32) h17.v x18 :: rs) w) go5 ⟨_, _, _, _, _, rfl, rfl, rfl, rfl, rfl, rfl, rfl, hst⟩ ?_
  clear hst
  rintro _ _ w r5_ ⟨x18, x19, x20, f, h17, rfl, rfl, e5_0, e5_1, e5_5, e5_6, e5_7, hst⟩ hM5 ho5 Q100005 n5 zz5
  refine seqQ fun Q26 k26 z26 => ?_
  refine seqQ fun Q27 k27 z27 => ?_
  refine wp_region_lit ?_
  refine Y wn rfl (ym (v := .int .i64 x20) (et rfl e5_7)) ?_
  refine Y wn rfl (ym (v := h2.v) (et rfl e5_0)) ?_
  refine Y wn rfl (yLen SL_66 (et rfl rfl) hst (rdI q1)) ?_
  refine Y wn rfl (ym (v := h4.v) (et rfl e5_1)) ?_
  refine Y wn rfl (yLen SL_66 (et rfl rfl) hst (rdI q2)) ?_
  refine Y wn rfl (ymax (et rfl rfl) (et rfl rfl)) ?_
  refine Y wn rfl (ylss (et rfl rfl) (et rfl rfl)) ?_
  refine wpList_nil ?_
  refine k27 _ _ ?_
  rcases iteS hM5 with ⟨c43, hM5⟩ | ⟨c43, hM5⟩
  · refine condT (et rfl rfl) (decide_eq_true c43) ?_
    refine wp_skip ?_
    refine k26 _ _ ?_
    refine seqQ fun Q28 k28 z28 => ?_
    refine blockQ fun Q29 qb29 => ?_
    refine seqQ fun Q30 k30 z30 => ?_
    refine seqQ fun Q31 k31 z31 => ?_
    refine wp_region_lit ?_
    refine Y wn rfl (ym (v := .int .i64 x20) (et rfl e5_7)) ?_
    refine Y wn rfl (ym (v := h2.v) (et rfl e5_0)) ?_
    refine Y wn rfl (yLen SL_66 (et rfl rfl) hst (rdI q1)) ?_
    refine Y wn rfl (ylss (et rfl rfl) (et rfl rfl)) ?_
    refine wpList_nil ?_
    refine k31 _ _ ?_
    have j6 : ∀ (x45 : Int) (f : Nat → Value) (w : World), f 0 = h2.v → f 1 = h4.v → f 5 = h17.v → f 6 = .int .u64 x45 → f 7 = .int .i64 x20 → St w0 (ros) (row 100 (rI .u32) h17.v x18 :: rs) w → sparseref01_addMag_j6 x20 x3 x18 x45 = some r5_ → Q30 .normal (fr 51 f) w := by
      intro x45 f w ej6_0 ej6_1 ej6_5 ej6_6 ej6_7 hst hM
      refine k30 _ _ ?_
      refine seqQ fun Q32 k32 z32 => ?_
      refine seqQ fun Q33 k33 z33 => ?_
      refine wp_region_lit ?_
      refine Y wn rfl (ym (v := .int .i64 x20) (et rfl ej6_7)) ?_
      refine Y wn rfl (ym (v := h4.v) (et rfl ej6_1)) ?_
      refine Y wn rfl (yLen SL_66 (et rfl rfl) hst (rdI q2)) ?_
      refine Y wn rfl (ylss (et rfl rfl) (et rfl rfl)) ?_
      refine wpList_nil ?_
      refine k33 _ _ ?_
      have j7 : ∀ (x47 : Int) (f : Nat → Value) (w : World), f 0 = h2.v → f 1 = h4.v → f 5 = h17.v → f 6 = .int .u64 x47 → f 7 = .int .i64 x20 → St w0 (ros) (row 100 (rI .u32) h17.v x18 :: rs) w → sparseref01_addMag_j7 x18 x20 x47 = some r5_ → Q32 .normal (fr 51 f) w := by
        intro x47 f w ej7_0 ej7_1 ej7_5 ej7_6 ej7_7 hst hM
        refine k32 _ _ ?_
        refine seqQ fun Q34 k34 z34 => ?_
        refine wp_region_lit ?_
        refine Y wn rfl (ym (v := h17.v) (et rfl ej7_5)) ?_
        refine Y wn rfl (ym (v := .int .u64 x47) (et rfl ej7_6)) ?_
        refine Y wn rfl (ycv (k' := .u32) (by kernel_rfl) (by kernel_rfl) (et rfl rfl)) ?_
        refine YH wn rfl (rLt (n := 1) (l := [wc .u32 x47]) hst SL_66 [.int .u32 (wc .u32 x47)] (bp1 (et rfl rfl)) rfl rfl (mks1 (cs := [.int .u32 (wc .u32 x47)]) rfl mkI mks0)) ?_
        clear hst
        intro h48 w hst
        obtain ⟨x50, gx50, hM⟩ := bs hM
        replace hst := hst.pk 2 [1, 0] rfl
        refine YH wn rfl (rAp hst SL_66 (et rfl rfl) (et rfl rfl) (rdO (mtR mhR)) gx50) ?_
        clear hst
        intro h49 w hst
        refine Y wn rfl (ya (v := h49.v) (et rfl rfl)) ?_
        refine wpList_nil ?_
        refine k34 _ _ ?_
        refine wp_region_lit ?_
        refine Y wn rfl (ym (v := .int .u64 x47) (et rfl ej7_6)) ?_
        refine Y wn rfl (yshrc (et rfl rfl) rfl) ?_
        refine Y wn rfl (ya (v := .int .u64 (wsrc .u64 x47 32)) (et rfl rfl)) ?_
        refine wpList_nil ?_
        refine qb29 _ _ _ ?_
        refine k28 _ _ ?_
        refine wp_region_lit ?_
        refine Y wn rfl (ym (v := .int .i64 x20) (et rfl ej7_7)) ?_
        refine Y wn rfl (yadd (et rfl rfl) rfl) ?_
        refine Y wn rfl (ya (v := .int .i64 (wa .i64 x20 1)) (et rfl rfl)) ?_
        refine wpList_nil ?_
        obtain rfl := someI hM
        exact n5 _ _ _ rfl ⟨_, _, _, _, _, rfl, rfl, ej7_0, ej7_1, rfl, rfl, rfl, (hst.pk 2 [0] rfl)⟩
      rcases iteS hM with ⟨c51, hM⟩ | ⟨c51, hM⟩
      · refine condT (et rfl rfl) (decide_eq_true c51) ?_
        refine wp_region_lit ?_
        refine Y wn rfl (ym (v := .int .u64 x45) (et rfl ej6_6)) ?_
        refine Y wn rfl (ym (v := h4.v) (et rfl ej6_1)) ?_
        refine Y wn rfl (ym (v := .int .i64 x20) (et rfl ej6_7)) ?_
        obtain ⟨x52, gx52, hM⟩ := bs hM
        refine Y wn rfl (yIa SL_66 (et rfl rfl) (et rfl rfl) hst (rdI q2) gx52) ?_
        refine Y wn rfl (yI O_100 (et rfl rfl) hst (rdI q2) gx52) ?_
        refine Y wn rfl (ycv (k' := .u64) (by kernel_rfl) (by kernel_rfl) (et rfl rfl)) ?_
        refine Y wn rfl (yadd (et rfl rfl) (et rfl rfl)) ?_
        refine Y wn rfl (ya (v := .int .u64 (wa .u64 x45 (wc .u64 x52))) (et rfl rfl)) ?_
        refine wpList_nil ?_
        exact j7 _ _ _ ej6_0 ej6_1 ej6_5 rfl ej6_7 hst hM
      · refine condF (et rfl rfl) (decide_eq_false c51) ?_
        refine wp_skip ?_
        exact j7 _ _ _ ej6_0 ej6_1 ej6_5 ej6_6 ej6_7 hst hM
    rcases iteS hM5 with ⟨c53, hM5⟩ | ⟨c53, hM5⟩
    · refine condT (et rfl rfl) (decide_eq_true c53) ?_
      refine wp_region_lit ?_
      refine Y wn rfl (ym (v := .int .u64 x19) (et rfl e5_6)) ?_
      refine Y wn rfl (ym (v := h2.v) (et rfl e5_0)) ?_
      refine Y wn rfl (ym (v := .int .i64 x20) (et rfl e5_7)) ?_
      obtain ⟨x54, gx54, hM5⟩ := bs hM5
      refine Y wn rfl (yIa SL_66 (et rfl rfl) (et rfl rfl) hst (rdI q1) gx54) ?_
      refine Y wn rfl (yI O_100 (et rfl rfl) hst (rdI q1) gx54) ?_
      refine Y wn rfl (ycv (k' := .u64) (by kernel_rfl) (by kernel_rfl) (et rfl rfl)) ?_
      refine Y wn rfl (yadd (et rfl rfl) (et rfl rfl)) ?_
      refine Y wn rfl (ya (v := .int .u64 (wa .u64 x19 (wc .u64 x54))) (et rfl rfl)) ?_
      refine wpList_nil ?_
      exact j6 _ _ _ e5_0 e5_1 e5_5 rfl e5_7 hst hM5
    · refine condF (et rfl rfl) (decide_eq_false c53) ?_
      refine wp_skip ?_
      exact j6 _ _ _ e5_0 e5_1 e5_5 e5_6 e5_7 hst hM5
  · refine condF (et rfl rfl) (decide_eq_false c43) ?_
    refine wp_exit ?_
    refine z26 _ _ _ rfl ?_
    obtain rfl := someI hM5
    refine zz5 _ _ _ _ rfl rfl ?_
    exact je5_0 _ _ _ _ _ e5_5 e5_6 hst (ho5 _ rfl)
end Go.Proofs.YtoelidgkfpmgnaaDoor
