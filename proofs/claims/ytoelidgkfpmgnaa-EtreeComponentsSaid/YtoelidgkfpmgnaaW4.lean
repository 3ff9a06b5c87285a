/- Walks: each function computes its model, printed. -/
import Derived.Test.YtoelidgkfpmgnaaW3
namespace Go.Proofs.Ytoelidgkfpmgnaa
open Go Sx M
set_option maxRecDepth 100000
set_option maxHeartbeats 400000
set_option linter.unusedVariables false
attribute [local irreducible] wpList Code.wp Calls DR QR QS LA LS St
theorem sparselaw19_EtreeComponents_ok {w0 : World} {ros : List Fact} {rs : List Res} {w : World} {x1 : Int} {x2 : List Int} {h3 : Hdr} {out : Bool} (hM : sparselaw19_EtreeComponents x1 x2 = some out) (q1 : imm (rI .i64) h3.v x2 ∈ ros) (hst : St w0 ros (rs) w) :
    Calls Try.prog 8 #[.int .i64 x1, h3.v] w (fun e w => e = .returned (.bool out) ∧ St w0 (ros) (rs) w) := by
  refine enterQ Try.func8 rfl Try.ntmps8 rfl fun Q hQ => ?_
  refine seqQ fun Q1 k1 z1 => ?_
  refine wp_region_lit ?_
  refine Y wn rfl (ya (v := .bool false) rfl) ?_
  refine wpList_nil ?_
  refine k1 _ _ ?_
  refine seqQ fun Q2 k2 z2 => ?_
  refine seqQ fun Q3 k3 z3 => ?_
  refine wp_region_lit ?_
  refine Y wn rfl (ym (v := h3.v) (et rfl rfl)) ?_
  refine Y wn rfl (yLen SL_22 (et rfl rfl) hst (rdI q1)) ?_
  refine Y wn rfl (ygtr (et rfl rfl) rfl) ?_
  refine wpList_nil ?_
  refine k3 _ _ ?_
  rcases iteS hM with ⟨c4, hM⟩ | ⟨c4, hM⟩
  · refine condT (et rfl rfl) (decide_eq_true c4) ?_
    refine seqQ fun Q4 k4 z4 => ?_
    refine wp_region_lit ?_
    obtain ⟨r5, gr5, hM⟩ := bs hM
    refine Yc wn rfl (yCall FN_10 a0) (sparselaw19_awake_ok (hM := gr5) (hst := hst) ) ?_
    clear hst
    rintro _ w ⟨rfl, hst⟩
    refine ⟨_, rfl, ?_⟩
    refine Y wn rfl (ya (v := .bool r5) (et rfl rfl)) ?_
    refine wpList_nil ?_
    refine k4 _ _ ?_
    refine wp_ret ?_
    refine z2 _ _ _ rfl ?_
    obtain rfl := someI hM
    exact hQ _ _ _ (fin1r Try.results8 ⟨rfl, rfl⟩ ⟨rfl, hst⟩)
  · refine condF (et rfl rfl) (decide_eq_false c4) ?_
    refine wp_skip ?_
    refine k2 _ _ ?_
    refine seqQ fun Q5 k5 z5 => ?_
    refine wp_region_lit ?_
    refine Y wn rfl (ym (v := .int .i64 x1) (et rfl rfl)) ?_
    obtain ⟨r6, gr6, hM⟩ := bs hM
    refine Yc wn rfl (yCall FN_11 (a2 (et rfl rfl) rfl)) (sparsekit_Place_ok (hM := gr6) (hst := hst) ) ?_
    clear hst
    rintro _ w ⟨rfl, hst⟩
    refine ⟨_, rfl, ?_⟩
    refine Y wn rfl (ya (v := .int .i64 r6) (et rfl rfl)) ?_
    refine wpList_nil ?_
    refine k5 _ _ ?_
    refine seqQ fun Q6 k6 z6 => ?_
    refine wp_region_lit ?_
    refine Y wn rfl (ym (v := .int .i64 r6) (et rfl rfl)) ?_
    refine Y wn rfl (ym (v := h3.v) (et rfl rfl)) ?_
    obtain ⟨r7, gr7, hM⟩ := bs hM
    refine Yc wn rfl (yCall FN_12 (a2 (et rfl rfl) (et rfl rfl))) (sparsemake_Graph_ok (hM := gr7) (hst := hst) (q1 := q1)) ?_
    clear hst
    rintro _ w ⟨h8, rfl, hst⟩
    refine ⟨_, rfl, ?_⟩
    refine YB wn rfl (rAl hst ZT_27) ?_
    clear hst
    intro b9 w hst
    refine YT wn rfl (r_stbn (vals' := [h8.v]) (us := [h8.v]) hst ST_27 (et rfl rfl) (et rfl rfl) rfl rfl (one_of rfl) rfl) ?_
    clear hst
    intro w hst
    refine wpList_nil ?_
    refine k6 _ _ ?_
    refine seqQ fun Q7 k7 z7 => ?_
    refine wp_region_lit ?_
    refine Y wn rfl (yLbs (us := [h8.v]) ST_27 (et rfl rfl) hst mhR rfl rfl) ?_
    obtain ⟨r10, gr10, hM⟩ := bs hM
    replace hst := hst.pk 2 [1, 0] rfl
    replace hst := hst.fz
    refine Yc wn rfl (yCall FN_13 (a1 (et rfl rfl))) (etree_Parent_ok (hM := gr10) (hst := hst) (q1 := mhF)) ?_
    clear hst
    rintro _ w ⟨h11, rfl, hst⟩
    refine ⟨_, rfl, ?_⟩
    refine Y wn rfl (ym (v := .tuple #[h11.v, .int .i64 r10.2]) (et rfl rfl)) ?_
    refine Y wn rfl (yx (v := h11.v) (et rfl rfl) rfl) ?_
    refine Y wn rfl (yx (v := .int .i64 r10.2) (et rfl rfl) rfl) ?_
    refine Y wn rfl (ya (v := h11.v) (et rfl rfl)) ?_
    refine Y wn rfl (ya (v := .int .i64 r10.2) (et rfl rfl)) ?_
    refine wpList_nil ?_
    refine k7 _ _ ?_
    refine seqQ fun Q8 k8 z8 => ?_
    refine wp_region_lit ?_
    refine Y wn rfl (yLbs (us := [h8.v]) ST_27 (et rfl rfl) hst (mtR mhR) rfl rfl) ?_
    obtain ⟨r12, gr12, hM⟩ := bs hM
    refine Yc wn rfl (yCall FN_33 (a1 (et rfl rfl))) (graph_Components_ok (hM := gr12) (hst := hst) (q1 := mhF)) ?_
    clear hst
    rintro _ w ⟨h13, rfl, hst⟩
    refine ⟨_, rfl, ?_⟩
    refine Y wn rfl (ya (v := h13.v) (et rfl rfl)) ?_
    refine wpList_nil ?_
    refine k8 _ _ ?_
    refine seqQ fun Q9 k9 z9 => ?_
    refine seqQ fun Q10 k10 z10 => ?_
    refine wp_region_lit ?_
    refine Y wn rfl (ym (v := .int .i64 r10.2) (et rfl rfl)) ?_
    refine Y wn rfl (yneq (et rfl rfl) rfl) ?_
    refine Y wn rfl (ym (v := .bool (!(decide (r10.2 = 0)))) (et rfl rfl)) ?_
    refine joinW 5 (fun f w => f 0 = .int .i64 r6 ∧ f 6 = h11.v ∧ f 8 = h13.v ∧ f 37 = .bool ((!(decide (r10.2 = 0))) || (!(decide ((r10.1.length : Int) = r6)))) ∧ St w0 (ros) (row 3 (rI .i64) h11.v r10.1 :: row 22 (rS (rI .i64)) h13.v r12 :: rs) w) (fun j1 => ?_) ?_
    · rcases Bool.eq_false_or_eq_true (!(decide (r10.2 = 0))) with c15 | c15
      · refine Gn (wx rfl rfl rfl c15) rfl ?_
        refine Gn (wx rfl rfl rfl c15) rfl ?_
        refine Gn (wx rfl rfl rfl c15) rfl ?_
        refine Gn (wx rfl rfl rfl c15) rfl ?_
        refine Y wn rfl (ypt (v := .bool true) (et rfl rfl) c15 rfl) ?_
        exact j1 _ _ ⟨rfl, rfl, rfl, (congrArg Value.bool (orT c15)), ((hst.pk 3 [1, 0] rfl).facts (allT allI))⟩
      · refine Y (wg rfl rfl rfl c15) rfl (ym (v := h11.v) (et rfl rfl)) ?_
        refine Y (wg rfl rfl rfl c15) rfl (yLen SL_22 (et rfl rfl) hst (rdO (mtR mhR))) ?_
        refine Y (wg rfl rfl rfl c15) rfl (ym (v := .int .i64 r6) (et rfl rfl)) ?_
        refine Y (wg rfl rfl rfl c15) rfl (yneq (et rfl rfl) (et rfl rfl)) ?_
        refine Y wn rfl (ypf (v := .bool (!(decide ((r10.1.length : Int) = r6)))) (et rfl rfl) c15 (et rfl rfl)) ?_
        exact j1 _ _ ⟨rfl, rfl, rfl, (congrArg Value.bool (orF c15)), ((hst.pk 3 [1, 0] rfl).facts (allT allI))⟩
    clear hst
    rintro f w ⟨e14_0, e14_6, e14_8, e14_37, hst⟩
    refine Y wn rfl (ym (v := .bool ((!(decide (r10.2 = 0))) || (!(decide ((r10.1.length : Int) = r6))))) (et rfl e14_37)) ?_
    obtain ⟨r17, gr17, hM⟩ := bs hM
    refine joinW 4 (fun f w => f 0 = .int .i64 r6 ∧ f 6 = h11.v ∧ f 8 = h13.v ∧ f 42 = .bool r17 ∧ St w0 (imm (rI .i64) h11.v r10.1 :: ros) (row 22 (rS (rI .i64)) h13.v r12 :: rs) w) (fun j2 => ?_) ?_
    · rcases iteS gr17 with ⟨c19, gr17⟩ | ⟨c19, gr17⟩
      · refine Gn (wx rfl rfl rfl c19) rfl ?_
        refine Gn (wx rfl rfl rfl c19) rfl ?_
        refine Gn (wx rfl rfl rfl c19) rfl ?_
        refine Y wn rfl (ypt (v := .bool true) (et rfl rfl) c19 rfl) ?_
        obtain rfl := someI gr17
        replace hst := hst.fz
        exact j2 _ _ ⟨e14_0, e14_6, e14_8, rfl, hst⟩
      · refine Y (wg rfl rfl rfl (bfalse c19)) rfl (ym (v := h11.v) (et rfl e14_6)) ?_
        obtain ⟨r20, gr20, gr17⟩ := bs gr17
        replace hst := hst.fz
        refine Yc (wg rfl rfl rfl (bfalse c19)) rfl (yCall FN_15 (a1 (et rfl rfl))) (sparseref19_Check_ok (hM := gr20) (hst := hst) (q1 := mhF)) ?_
        clear hst
        rintro _ w ⟨rfl, hst⟩
        refine ⟨_, rfl, ?_⟩
        refine Y (wg rfl rfl rfl (bfalse c19)) rfl (yneq (et rfl rfl) rfl) ?_
        refine Y wn rfl (ypf (v := .bool (!(decide (r20 = 0)))) (et rfl rfl) (bfalse c19) (et rfl rfl)) ?_
        obtain rfl := someI gr17
        exact j2 _ _ ⟨e14_0, e14_6, e14_8, rfl, hst⟩
    clear hst
    rintro f w ⟨e18_0, e18_6, e18_8, e18_42, hst⟩
    refine wpList_nil ?_
    refine k10 _ _ ?_
    rcases iteS hM with ⟨c21, hM⟩ | ⟨c21, hM⟩
    · refine condT (et rfl e18_42) c21 ?_
      refine seqQ fun Q11 k11 z11 => ?_
      refine wp_region_lit ?_
      refine Y wn rfl (ya (v := .bool false) rfl) ?_
      refine wpList_nil ?_
      refine k11 _ _ ?_
      refine wp_ret ?_
      refine z9 _ _ _ rfl ?_
      obtain rfl := someI hM
      exact hQ _ _ _ (fin1r Try.results8 ⟨rfl, rfl⟩ ⟨rfl, ((hst.pk 1 [] rfl).facts (allT allI))⟩)
    · refine condF (et rfl e18_42) (bfalse c21) ?_
      refine wp_skip ?_
      refine k9 _ _ ?_
      refine seqQ fun Q12 k12 z12 => ?_
      refine wp_region_lit ?_
      refine Y wn rfl (ya (v := .int .i64 0) rfl) ?_
      refine wpList_nil ?_
      refine k12 _ _ ?_
      refine seqQ fun Q13 k13 z13 => ?_
      refine wp_region_lit ?_
      refine Y wn rfl (ym (v := .int .i64 r6) (et rfl e18_0)) ?_
      obtain ⟨x24, gx24, hM⟩ := bs hM
      refine YH wn rfl (rMk hst SL_22 (et rfl rfl) gx24) ?_
      clear hst
      intro h22 w hst
      refine Y wn rfl (ya (v := h22.v) (et rfl rfl)) ?_
      refine wpList_nil ?_
      refine k13 _ _ ?_
      refine seqQ fun Q14 k14 z14 => ?_
      refine seqQ fun Q15 k15 z15 => ?_
      refine wp_region_lit ?_
      refine Y wn rfl (ya (v := .int .i64 0) rfl) ?_
      refine wpList_nil ?_
      refine k15 _ _ ?_
      refine blockQ fun Q16 q16 => ?_
      obtain ⟨o7, go7, hM⟩ := bs hM
      have je7_0 : ∀ (x83 : Int) (x84 : List Int) (f : Nat → Value) (w : World), f 0 = .int .i64 r6 → f 8 = h13.v → f 9 = .int .i64 x83 → f 10 = h22.v → St w0 (ros) (row 22 (rS (rI .i64)) h13.v r12 :: row 3 (rI .i64) h22.v x84 :: rs) w → (x83, x84) = o7 → Q16 (.exit 0) (fr 141 f) w := by
        intro x83 x84 f w eje7_0_0 eje7_0_8 eje7_0_9 eje7_0_10 hst ho
        subst ho
        refine q16 _ _ _ ?_
        refine k14 _ _ ?_
        refine seqQ fun Q51 k51 z51 => ?_
        refine seqQ fun Q52 k52 z52 => ?_
        refine wp_region_lit ?_
        refine Y wn rfl (ym (v := h13.v) (et rfl eje7_0_8)) ?_
        refine Y wn rfl (yLen SL_25 (et rfl rfl) hst (rdO mhR)) ?_
        refine Y wn rfl (ym (v := .int .i64 x83) (et rfl eje7_0_9)) ?_
        refine Y wn rfl (yneq (et rfl rfl) (et rfl rfl)) ?_
        refine wpList_nil ?_
        refine k52 _ _ ?_
        rcases iteS hM with ⟨c85, hM⟩ | ⟨c85, hM⟩
        · refine condF (et rfl rfl) (nF (decide_eq_true c85)) ?_
          refine wp_skip ?_
          refine k51 _ _ ?_
          refine seqQ fun Q53 k53 z53 => ?_
          refine seqQ fun Q54 k54 z54 => ?_
          refine wp_region_lit ?_
          refine Y wn rfl (ya (v := .int .i64 0) rfl) ?_
          refine wpList_nil ?_
          refine k54 _ _ ?_
          refine blockQ fun Q55 q55 => ?_
          obtain ⟨o52, go52, hM⟩ := bs hM
          have je52_0 : ∀ (f : Nat → Value) (w : World), St w0 (ros) (rs) w → .inl () = o52 → Q55 (.exit 4) (fr 141 f) w := by
            intro f w hst ho
            subst ho
            refine q55 _ _ _ ?_
            refine k53 _ _ ?_
            refine seqQ fun Q104 k104 z104 => ?_
            refine wp_region_lit ?_
            obtain ⟨r286, gr286, hM⟩ := bs hM
            refine Yc wn rfl (yCall FN_10 a0) (sparselaw19_awake_ok (hM := gr286) (hst := hst) ) ?_
            clear hst
            rintro _ w ⟨rfl, hst⟩
            refine ⟨_, rfl, ?_⟩
            refine Y wn rfl (ya (v := .bool r286) (et rfl rfl)) ?_
            refine wpList_nil ?_
            refine k104 _ _ ?_
            refine wp_ret ?_
            obtain rfl := someI hM
            exact hQ _ _ _ (fin1r Try.results8 ⟨rfl, rfl⟩ ⟨rfl, hst⟩)
          have je52_1 : ∀ (f : Nat → Value) (w : World), f 4 = .bool false → St w0 (ros) (rs) w → .inr () = o52 → Q55 .ret (fr 141 f) w := by
            intro f w eje52_1_4 hst ho
            subst ho
            refine q55 _ _ _ ?_
            refine z53 _ _ _ rfl ?_
            obtain rfl := someI hM
            exact hQ _ _ _ (fin1r Try.results8 ⟨rfl, eje52_1_4⟩ ⟨rfl, hst⟩)
          refine loopQ (fun s a w => ∃ (x185 : Int) (f : Nat → Value), x185 = s ∧ a = fr 141 f ∧ f 0 = .int .i64 r6 ∧ f 8 = h13.v ∧ f 10 = h22.v ∧ f 12 = .int .i64 x185 ∧ St w0 (ros) (row 22 (rS (rI .i64)) h13.v r12 :: row 3 (rI .i64) h22.v x84 :: rs) w) go52 ⟨_, _, rfl, rfl, eje7_0_0, eje7_0_8, eje7_0_10, rfl, hst⟩ ?_
          clear hst
          rintro _ _ w r52_ ⟨x185, f, rfl, rfl, e52_0, e52_8, e52_10, e52_12, hst⟩ hM52 ho52 Q100052 n52 zz52
          refine seqQ fun Q105 k105 z105 => ?_
          refine seqQ fun Q106 k106 z106 => ?_
          refine wp_region_lit ?_
          refine Y wn rfl (ym (v := .int .i64 x185) (et rfl e52_12)) ?_
          refine Y wn rfl (ym (v := h13.v) (et rfl e52_8)) ?_
          refine Y wn rfl (yLen SL_25 (et rfl rfl) hst (rdO mhR)) ?_
          refine Y wn rfl (ylss (et rfl rfl) (et rfl rfl)) ?_
          refine wpList_nil ?_
          refine k106 _ _ ?_
          rcases iteS hM52 with ⟨c287, hM52⟩ | ⟨c287, hM52⟩
          · refine condT (et rfl rfl) (decide_eq_true c287) ?_
            refine wp_skip ?_
            refine k105 _ _ ?_
            refine seqQ fun Q107 k107 z107 => ?_
            refine blockQ fun Q108 q108 => ?_
            refine seqQ fun Q109 k109 z109 => ?_
            refine wp_region_lit ?_
            refine Y wn rfl (ya (v := .int .i64 0) rfl) ?_
            refine wpList_nil ?_
            refine k109 _ _ ?_
            refine blockQ fun Q110 q110 => ?_
            obtain ⟨o67, go67, hM52⟩ := bs hM52
            have je67_0 : ∀ (f : Nat → Value) (w : World), f 0 = .int .i64 r6 → f 8 = h13.v → f 10 = h22.v → f 12 = .int .i64 x185 → St w0 (ros) (row 22 (rS (rI .i64)) h13.v r12 :: row 3 (rI .i64) h22.v x84 :: rs) w → .inl () = o67 → Q110 (.exit 6) (fr 141 f) w := by
              intro f w eje67_0_0 eje67_0_8 eje67_0_10 eje67_0_12 hst ho
              subst ho
              refine q110 _ _ _ ?_
              refine q108 _ _ _ ?_
              refine k107 _ _ ?_
              refine wp_region_lit ?_
              refine Y wn rfl (ym (v := .int .i64 x185) (et rfl eje67_0_12)) ?_
              refine Y wn rfl (yadd (et rfl rfl) rfl) ?_
              refine Y wn rfl (ya (v := .int .i64 (wa .i64 x185 1)) (et rfl rfl)) ?_
              refine wpList_nil ?_
              obtain rfl := someI hM52
              exact n52 _ _ _ rfl ⟨_, _, rfl, rfl, eje67_0_0, eje67_0_8, eje67_0_10, rfl, hst⟩
            have je67_1 : ∀ (f : Nat → Value) (w : World), f 4 = .bool false → St w0 (ros) (rs) w → .inr () = o67 → Q110 .ret (fr 141 f) w := by
              intro f w eje67_1_4 hst ho
              subst ho
              refine q110 _ _ _ ?_
              refine q108 _ _ _ ?_
              refine z107 _ _ _ rfl ?_
              obtain rfl := someI hM52
              refine zz52 _ _ _ _ rfl rfl ?_
              exact je52_1 _ _ eje67_1_4 hst (ho52 _ rfl)
            refine loopQ (fun s a w => ∃ (x320 : Int) (f : Nat → Value), x320 = s ∧ a = fr 141 f ∧ f 0 = .int .i64 r6 ∧ f 8 = h13.v ∧ f 10 = h22.v ∧ f 12 = .int .i64 x185 ∧ f 13 = .int .i64 x320 ∧ St w0 (ros) (row 22 (rS (rI .i64)) h13.v r12 :: row 3 (rI .i64) h22.v x84 :: rs) w) go67 ⟨_, _, rfl, rfl, e52_0, e52_8, e52_10, e52_12, rfl, hst⟩ ?_
            clear hst
            rintro _ _ w r67_ ⟨x320, f, rfl, rfl, e67_0, e67_8, e67_10, e67_12, e67_13, hst⟩ hM67 ho67 Q100067 n67 zz67
            refine seqQ fun Q123 k123 z123 => ?_
            refine seqQ fun Q124 k124 z124 => ?_
            refine wp_region_lit ?_
            refine Y wn rfl (ym (v := .int .i64 x320) (et rfl e67_13)) ?_
            refine Y wn rfl (ym (v := h13.v) (et rfl e67_8)) ?_
            refine Y wn rfl (ym (v := .int .i64 x185) (et rfl e67_12)) ?_
            obtain ⟨x354, gx354, hM67⟩ := bs hM67
            refine Y wn rfl (yIa SL_25 (et rfl rfl) (et rfl rfl) hst (rdO mhR) gx354) ?_
            obtain ⟨h355, ch355, hst⟩ := rLs hst (rdO mhR) gx354
            refine Y wn rfl (yCe O_22 (et rfl rfl) ch355 rfl) ?_
            refine Y wn rfl (yLen SL_22 (et rfl rfl) hst (rdI mhF)) ?_
            refine Y wn rfl (ylss (et rfl rfl) (et rfl rfl)) ?_
            refine wpList_nil ?_
            refine k124 _ _ ?_
            rcases iteS hM67 with ⟨c356, hM67⟩ | ⟨c356, hM67⟩
            · refine condT (et rfl rfl) (decide_eq_true c356) ?_
              refine wp_skip ?_
              refine k123 _ _ ?_
              refine seqQ fun Q125 k125 z125 => ?_
              refine blockQ fun Q126 q126 => ?_
              refine seqQ fun Q127 k127 z127 => ?_
              obtain ⟨x357, gx357, hM67⟩ := bs hM67
              obtain ⟨x359, gx359, hM67⟩ := bs hM67
              obtain ⟨r360, gr360, hM67⟩ := bs hM67
              obtain ⟨r361, gr361, hM67⟩ := bs hM67
              refine joinN (n := 141) (fun f w => f 0 = .int .i64 r6 ∧ f 8 = h13.v ∧ f 10 = h22.v ∧ f 12 = .int .i64 x185 ∧ f 13 = .int .i64 x320 ∧ f 139 = .bool r361 ∧ St w0 (ros) (row 22 (rS (rI .i64)) h13.v r12 :: row 3 (rI .i64) h22.v x84 :: rs) w) (fun j68 => ?_) ?_
              · rcases iteS gr360 with ⟨c363, gr360⟩ | ⟨c363, gr360⟩
                · have hr69 := someI gr360
                  rcases iteS gr361 with ⟨c364, gr361⟩ | ⟨c364, gr361⟩
                  · have hr70 := someI gr361
                    refine wp_drawR [0, 0, 3, 7, 0, 31, 63, 127, 255, 511, 511, 2047, 4095, 511, 16383, 32767, 511, 131071, 262143, 524287, 1048575, 1048575, 1048575, 7340031, 15728639, 1048575, 66060287, 133169151, 268435455, 536870911, 1048575, 1048575, 1048575, 6443499519, 15033434111, 32213303295, 66573041663, 136366260223, 273805213695, 549755813887, 1099511627775] [] 0 folM (by kernel_rfl) (by kernel_rfl) (by kernel_rfl) ?_
                    replace hst := hst.drew
                    refine DRz (l1 := [0, 1, 2, 3, 4, 5, 6, 7, 8, 9, 10, 11, 12, 13, 14, 15, 16, 17, 18, 19, 20, 21, 22, 23, 24, 25, 26, 27, 28, 29, 30, 31, 32, 33, 34, 35, 36, 37, 38, 39, 40]) (l2 := []) (by kernel_rfl) (by kernel_rfl) ?_
                    refine Ry rfl rfl wn (ym (v := h13.v) (et rfl e67_8)) ?_
                    refine Ry rfl rfl wn (ym (v := .int .i64 x185) (et rfl e67_12)) ?_
                    refine Ry rfl rfl wn (yIa SL_25 (et rfl rfl) (et rfl rfl) hst (rdO mhR) gx357) ?_
                    obtain ⟨h358, ch358, hst⟩ := rLs hst (rdO mhR) gx357
                    refine Ry rfl rfl wn (yCe O_22 (et rfl rfl) ch358 rfl) ?_
                    refine Ry rfl rfl wn (ym (v := .int .i64 x320) (et rfl e67_13)) ?_
                    refine Ry rfl rfl wn (yIa SL_22 (et rfl rfl) (et rfl rfl) hst (rdI mhF) gx359) ?_
                    refine Ry rfl rfl wn (yI O_3 (et rfl rfl) hst (rdI mhF) gx359) ?_
                    refine Ry rfl rfl wn (ylss (et rfl rfl) rfl) ?_
                    refine Ry rfl rfl wn (ym (v := .bool (decide (x359 < 0))) (et rfl rfl)) ?_
                    refine Rx rfl rfl (wx rfl rfl rfl (decide_eq_true c363)) ?_
                    refine Rx rfl rfl (wx rfl rfl rfl (decide_eq_true c363)) ?_
                    refine Rx rfl rfl (wx rfl rfl rfl (decide_eq_true c363)) ?_
                    refine Rx rfl rfl (wx rfl rfl rfl (decide_eq_true c363)) ?_
                    refine Rx rfl rfl (wx rfl rfl rfl (decide_eq_true c363)) ?_
                    refine Rx rfl rfl (wx rfl rfl rfl (decide_eq_true c363)) ?_
                    refine Rx rfl rfl (wx rfl rfl rfl (decide_eq_true c363)) ?_
                    refine Rx rfl rfl (wx rfl rfl rfl (decide_eq_true c363)) ?_
                    refine Rx rfl rfl (wx rfl rfl rfl (decide_eq_true c363)) ?_
                    refine Ry rfl rfl wn (ypt (v := .bool r360) (et rfl rfl) (decide_eq_true c363) (eqv hr69 rfl)) ?_
                    refine Ry rfl rfl wn (ym (v := .bool r360) (et rfl rfl)) ?_
                    refine Rx rfl rfl (wx rfl rfl rfl c364) ?_
                    refine Rx rfl rfl (wx rfl rfl rfl c364) ?_
                    refine Rx rfl rfl (wx rfl rfl rfl c364) ?_
                    refine Rx rfl rfl (wx rfl rfl rfl c364) ?_
                    refine Rx rfl rfl (wx rfl rfl rfl c364) ?_
                    refine Rx rfl rfl (wx rfl rfl rfl c364) ?_
                    refine Rx rfl rfl (wx rfl rfl rfl c364) ?_
                    refine Rx rfl rfl (wx rfl rfl rfl c364) ?_
                    refine Rx rfl rfl (wx rfl rfl rfl c364) ?_
                    refine Rx rfl rfl (wx rfl rfl rfl c364) ?_
                    refine Rx rfl rfl (wx rfl rfl rfl c364) ?_
                    refine Rx rfl rfl (wx rfl rfl rfl c364) ?_
                    refine Rx rfl rfl (wx rfl rfl rfl c364) ?_
                    refine Rx rfl rfl (wx rfl rfl rfl c364) ?_
                    refine Rx rfl rfl (wx rfl rfl rfl c364) ?_
                    refine Rx rfl rfl (wx rfl rfl rfl c364) ?_
                    refine Rx rfl rfl (wx rfl rfl rfl c364) ?_
                    refine Rx rfl rfl (wx rfl rfl rfl c364) ?_
                    refine Rx rfl rfl (wx rfl rfl rfl c364) ?_
                    refine Rx rfl rfl (wx rfl rfl rfl c364) ?_
                    refine Ry rfl rfl wn (ypt (v := .bool r361) (et rfl rfl) c364 (eqv hr70 rfl)) ?_
                    refine Rn QSn ?_
                    exact j68 _ _ ⟨e67_0, e67_8, e67_10, e67_12, e67_13, rfl, (hst.facts (allT (allT allI)))⟩
                  · obtain ⟨x365, gx365, gr361⟩ := bs gr361
                    obtain ⟨x367, gx367, gr361⟩ := bs gr361
                    obtain ⟨x368, gx368, gr361⟩ := bs gr361
                    obtain ⟨x369, gx369, gr361⟩ := bs gr361
                    obtain ⟨x371, gx371, gr361⟩ := bs gr361
                    obtain ⟨x372, gx372, gr361⟩ := bs gr361
                    have hr71 := someI gr361
                    refine wp_drawR [0, 0, 3, 7, 0, 31, 63, 127, 255, 511, 511, 2047, 4095, 511, 16383, 32767, 511, 131071, 262143, 524287, 1048575, 1048575, 1048575, 7340031, 15728639, 1048575, 66060287, 133169151, 268435455, 536870911, 1048575, 1048575, 1048575, 6443499519, 15033434111, 32213303295, 66573041663, 136366260223, 273805213695, 549755813887, 1099511627775] [] 0 folM (by kernel_rfl) (by kernel_rfl) (by kernel_rfl) ?_
                    replace hst := hst.drew
                    refine DRz (l1 := [0, 1, 2, 3, 4, 5, 6, 7, 8, 9, 10, 11, 12, 13, 14, 15, 16, 17, 18, 19, 20, 21, 22, 23, 24, 25, 26, 27, 28, 29, 30, 31, 32, 33, 34, 35, 36, 37, 38, 39, 40]) (l2 := []) (by kernel_rfl) (by kernel_rfl) ?_
                    refine Ry rfl rfl wn (ym (v := h13.v) (et rfl e67_8)) ?_
                    refine Ry rfl rfl wn (ym (v := .int .i64 x185) (et rfl e67_12)) ?_
                    refine Ry rfl rfl wn (yIa SL_25 (et rfl rfl) (et rfl rfl) hst (rdO mhR) gx357) ?_
                    obtain ⟨h358, ch358, hst⟩ := rLs hst (rdO mhR) gx357
                    refine Ry rfl rfl wn (yCe O_22 (et rfl rfl) ch358 rfl) ?_
                    refine Ry rfl rfl wn (ym (v := .int .i64 x320) (et rfl e67_13)) ?_
                    refine Ry rfl rfl wn (yIa SL_22 (et rfl rfl) (et rfl rfl) hst (rdI mhF) gx359) ?_
                    refine Ry rfl rfl wn (yI O_3 (et rfl rfl) hst (rdI mhF) gx359) ?_
                    refine Ry rfl rfl wn (ylss (et rfl rfl) rfl) ?_
                    refine Ry rfl rfl wn (ym (v := .bool (decide (x359 < 0))) (et rfl rfl)) ?_
                    refine Rx rfl rfl (wx rfl rfl rfl (decide_eq_true c363)) ?_
                    refine Rx rfl rfl (wx rfl rfl rfl (decide_eq_true c363)) ?_
                    refine Rx rfl rfl (wx rfl rfl rfl (decide_eq_true c363)) ?_
                    refine Rx rfl rfl (wx rfl rfl rfl (decide_eq_true c363)) ?_
                    refine Rx rfl rfl (wx rfl rfl rfl (decide_eq_true c363)) ?_
                    refine Rx rfl rfl (wx rfl rfl rfl (decide_eq_true c363)) ?_
                    refine Rx rfl rfl (wx rfl rfl rfl (decide_eq_true c363)) ?_
                    refine Rx rfl rfl (wx rfl rfl rfl (decide_eq_true c363)) ?_
                    refine Rx rfl rfl (wx rfl rfl rfl (decide_eq_true c363)) ?_
                    refine Ry rfl rfl wn (ypt (v := .bool r360) (et rfl rfl) (decide_eq_true c363) (eqv hr69 rfl)) ?_
                    refine Ry rfl rfl wn (ym (v := .bool r360) (et rfl rfl)) ?_
                    refine Ry rfl rfl (wg rfl rfl rfl (bfalse c364)) (ym (v := h22.v) (et rfl e67_10)) ?_
                    refine Ry rfl rfl (wg rfl rfl rfl (bfalse c364)) (ym (v := h13.v) (et rfl e67_8)) ?_
                    refine Ry rfl rfl (wg rfl rfl rfl (bfalse c364)) (ym (v := .int .i64 x185) (et rfl e67_12)) ?_
                    refine Ry rfl rfl (wg rfl rfl rfl (bfalse c364)) (yIa SL_25 (et rfl rfl) (et rfl rfl) hst (rdO mhR) gx365) ?_
                    obtain ⟨h366, ch366, hst⟩ := rLs hst (rdO mhR) gx365
                    refine Ry rfl rfl (wg rfl rfl rfl (bfalse c364)) (yCe O_22 (et rfl rfl) ch366 rfl) ?_
                    refine Ry rfl rfl (wg rfl rfl rfl (bfalse c364)) (ym (v := .int .i64 x320) (et rfl e67_13)) ?_
                    refine Ry rfl rfl (wg rfl rfl rfl (bfalse c364)) (yIa SL_22 (et rfl rfl) (et rfl rfl) hst (rdI mhF) gx367) ?_
                    refine Ry rfl rfl (wg rfl rfl rfl (bfalse c364)) (yI O_3 (et rfl rfl) hst (rdI mhF) gx367) ?_
                    refine Ry rfl rfl (wg rfl rfl rfl (bfalse c364)) (yIa SL_22 (et rfl rfl) (et rfl rfl) hst (rdO (mtR mhR)) gx368) ?_
                    refine Ry rfl rfl (wg rfl rfl rfl (bfalse c364)) (yI O_3 (et rfl rfl) hst (rdO (mtR mhR)) gx368) ?_
                    refine Ry rfl rfl (wg rfl rfl rfl (bfalse c364)) (ym (v := h22.v) (et rfl e67_10)) ?_
                    refine Ry rfl rfl (wg rfl rfl rfl (bfalse c364)) (ym (v := h13.v) (et rfl e67_8)) ?_
                    refine Ry rfl rfl (wg rfl rfl rfl (bfalse c364)) (ym (v := .int .i64 x185) (et rfl e67_12)) ?_
                    refine Ry rfl rfl (wg rfl rfl rfl (bfalse c364)) (yIa SL_25 (et rfl rfl) (et rfl rfl) hst (rdO mhR) gx369) ?_
                    obtain ⟨h370, ch370, hst⟩ := rLs hst (rdO mhR) gx369
                    refine Ry rfl rfl (wg rfl rfl rfl (bfalse c364)) (yCe O_22 (et rfl rfl) ch370 rfl) ?_
                    refine Ry rfl rfl (wg rfl rfl rfl (bfalse c364)) (yIa SL_22 (et rfl rfl) rfl hst (rdI mhF) gx371) ?_
                    refine Ry rfl rfl (wg rfl rfl rfl (bfalse c364)) (yI O_3 (et rfl rfl) hst (rdI mhF) gx371) ?_
                    refine Ry rfl rfl (wg rfl rfl rfl (bfalse c364)) (yIa SL_22 (et rfl rfl) (et rfl rfl) hst (rdO (mtR mhR)) gx372) ?_
                    refine Ry rfl rfl (wg rfl rfl rfl (bfalse c364)) (yI O_3 (et rfl rfl) hst (rdO (mtR mhR)) gx372) ?_
                    refine Ry rfl rfl (wg rfl rfl rfl (bfalse c364)) (yneq (et rfl rfl) (et rfl rfl)) ?_
                    refine Ry rfl rfl wn (ypf (v := .bool r361) (et rfl rfl) (bfalse c364) (eqv hr71 (et rfl rfl))) ?_
                    refine Rn QSn ?_
                    exact j68 _ _ ⟨e67_0, e67_8, e67_10, e67_12, e67_13, rfl, (hst.facts (allT (allT (allT (allT allI)))))⟩
                · obtain ⟨x373, gx373, gr360⟩ := bs gr360
                  obtain ⟨x375, gx375, gr360⟩ := bs gr360
                  have hr72 := someI gr360
                  rcases iteS gr361 with ⟨c376, gr361⟩ | ⟨c376, gr361⟩
                  · have hr73 := someI gr361
                    refine wp_drawR [0, 0, 3, 7, 0, 31, 63, 127, 255, 511, 511, 2047, 4095, 511, 16383, 32767, 511, 131071, 262143, 524287, 1048575, 1048575, 1048575, 7340031, 15728639, 1048575, 66060287, 133169151, 268435455, 536870911, 1048575, 1048575, 1048575, 6443499519, 15033434111, 32213303295, 66573041663, 136366260223, 273805213695, 549755813887, 1099511627775] [] 0 folM (by kernel_rfl) (by kernel_rfl) (by kernel_rfl) ?_
                    replace hst := hst.drew
                    refine DRz (l1 := [0, 1, 2, 3, 4, 5, 6, 7, 8, 9, 10, 11, 12, 13, 14, 15, 16, 17, 18, 19, 20, 21, 22, 23, 24, 25, 26, 27, 28, 29, 30, 31, 32, 33, 34, 35, 36, 37, 38, 39, 40]) (l2 := []) (by kernel_rfl) (by kernel_rfl) ?_
                    refine Ry rfl rfl wn (ym (v := h13.v) (et rfl e67_8)) ?_
                    refine Ry rfl rfl wn (ym (v := .int .i64 x185) (et rfl e67_12)) ?_
                    refine Ry rfl rfl wn (yIa SL_25 (et rfl rfl) (et rfl rfl) hst (rdO mhR) gx357) ?_
                    obtain ⟨h358, ch358, hst⟩ := rLs hst (rdO mhR) gx357
                    refine Ry rfl rfl wn (yCe O_22 (et rfl rfl) ch358 rfl) ?_
                    refine Ry rfl rfl wn (ym (v := .int .i64 x320) (et rfl e67_13)) ?_
                    refine Ry rfl rfl wn (yIa SL_22 (et rfl rfl) (et rfl rfl) hst (rdI mhF) gx359) ?_
                    refine Ry rfl rfl wn (yI O_3 (et rfl rfl) hst (rdI mhF) gx359) ?_
                    refine Ry rfl rfl wn (ylss (et rfl rfl) rfl) ?_
                    refine Ry rfl rfl wn (ym (v := .bool (decide (x359 < 0))) (et rfl rfl)) ?_
                    refine Ry rfl rfl (wg rfl rfl rfl (decide_eq_false c363)) (ym (v := h13.v) (et rfl e67_8)) ?_
                    refine Ry rfl rfl (wg rfl rfl rfl (decide_eq_false c363)) (ym (v := .int .i64 x185) (et rfl e67_12)) ?_
                    refine Ry rfl rfl (wg rfl rfl rfl (decide_eq_false c363)) (yIa SL_25 (et rfl rfl) (et rfl rfl) hst (rdO mhR) gx373) ?_
                    obtain ⟨h374, ch374, hst⟩ := rLs hst (rdO mhR) gx373
                    refine Ry rfl rfl (wg rfl rfl rfl (decide_eq_false c363)) (yCe O_22 (et rfl rfl) ch374 rfl) ?_
                    refine Ry rfl rfl (wg rfl rfl rfl (decide_eq_false c363)) (ym (v := .int .i64 x320) (et rfl e67_13)) ?_
                    refine Ry rfl rfl (wg rfl rfl rfl (decide_eq_false c363)) (yIa SL_22 (et rfl rfl) (et rfl rfl) hst (rdI mhF) gx375) ?_
                    refine Ry rfl rfl (wg rfl rfl rfl (decide_eq_false c363)) (yI O_3 (et rfl rfl) hst (rdI mhF) gx375) ?_
                    refine Ry rfl rfl (wg rfl rfl rfl (decide_eq_false c363)) (ym (v := .int .i64 r6) (et rfl e67_0)) ?_
                    refine Ry rfl rfl (wg rfl rfl rfl (decide_eq_false c363)) (ygeq (et rfl rfl) (et rfl rfl)) ?_
                    refine Ry rfl rfl wn (ypf (v := .bool r360) (et rfl rfl) (decide_eq_false c363) (eqv hr72 (et rfl rfl))) ?_
                    refine Ry rfl rfl wn (ym (v := .bool r360) (et rfl rfl)) ?_
                    refine Rx rfl rfl (wx rfl rfl rfl c376) ?_
                    refine Rx rfl rfl (wx rfl rfl rfl c376) ?_
                    refine Rx rfl rfl (wx rfl rfl rfl c376) ?_
                    refine Rx rfl rfl (wx rfl rfl rfl c376) ?_
                    refine Rx rfl rfl (wx rfl rfl rfl c376) ?_
                    refine Rx rfl rfl (wx rfl rfl rfl c376) ?_
                    refine Rx rfl rfl (wx rfl rfl rfl c376) ?_
                    refine Rx rfl rfl (wx rfl rfl rfl c376) ?_
                    refine Rx rfl rfl (wx rfl rfl rfl c376) ?_
                    refine Rx rfl rfl (wx rfl rfl rfl c376) ?_
                    refine Rx rfl rfl (wx rfl rfl rfl c376) ?_
                    refine Rx rfl rfl (wx rfl rfl rfl c376) ?_
                    refine Rx rfl rfl (wx rfl rfl rfl c376) ?_
                    refine Rx rfl rfl (wx rfl rfl rfl c376) ?_
                    refine Rx rfl rfl (wx rfl rfl rfl c376) ?_
                    refine Rx rfl rfl (wx rfl rfl rfl c376) ?_
                    refine Rx rfl rfl (wx rfl rfl rfl c376) ?_
                    refine Rx rfl rfl (wx rfl rfl rfl c376) ?_
                    refine Rx rfl rfl (wx rfl rfl rfl c376) ?_
                    refine Rx rfl rfl (wx rfl rfl rfl c376) ?_
                    refine Ry rfl rfl wn (ypt (v := .bool r361) (et rfl rfl) c376 (eqv hr73 rfl)) ?_
                    refine Rn QSn ?_
                    exact j68 _ _ ⟨e67_0, e67_8, e67_10, e67_12, e67_13, rfl, (hst.facts (allT (allT (allT allI))))⟩
                  · obtain ⟨x377, gx377, gr361⟩ := bs gr361
                    obtain ⟨x379, gx379, gr361⟩ := bs gr361
                    obtain ⟨x380, gx380, gr361⟩ := bs gr361
                    obtain ⟨x381, gx381, gr361⟩ := bs gr361
                    obtain ⟨x383, gx383, gr361⟩ := bs gr361
                    obtain ⟨x384, gx384, gr361⟩ := bs gr361
                    have hr74 := someI gr361
                    refine wp_drawR [0, 0, 3, 7, 0, 31, 63, 127, 255, 511, 511, 2047, 4095, 511, 16383, 32767, 511, 131071, 262143, 524287, 1048575, 1048575, 1048575, 7340031, 15728639, 1048575, 66060287, 133169151, 268435455, 536870911, 1048575, 1048575, 1048575, 6443499519, 15033434111, 32213303295, 66573041663, 136366260223, 273805213695, 549755813887, 1099511627775] [] 0 folM (by kernel_rfl) (by kernel_rfl) (by kernel_rfl) ?_
                    replace hst := hst.drew
                    refine DRz (l1 := [0, 1, 2, 3, 4, 5, 6, 7, 8, 9, 10, 11, 12, 13, 14, 15, 16, 17, 18, 19, 20, 21, 22, 23, 24, 25, 26, 27, 28, 29, 30, 31, 32, 33, 34, 35, 36, 37, 38, 39, 40]) (l2 := []) (by kernel_rfl) (by kernel_rfl) ?_
                    refine Ry rfl rfl wn (ym (v := h13.v) (et rfl e67_8)) ?_
                    refine Ry rfl rfl wn (ym (v := .int .i64 x185) (et rfl e67_12)) ?_
                    refine Ry rfl rfl wn (yIa SL_25 (et rfl rfl) (et rfl rfl) hst (rdO mhR) gx357) ?_
                    obtain ⟨h358, ch358, hst⟩ := rLs hst (rdO mhR) gx357
                    refine Ry rfl rfl wn (yCe O_22 (et rfl rfl) ch358 rfl) ?_
                    refine Ry rfl rfl wn (ym (v := .int .i64 x320) (et rfl e67_13)) ?_
                    refine Ry rfl rfl wn (yIa SL_22 (et rfl rfl) (et rfl rfl) hst (rdI mhF) gx359) ?_
                    refine Ry rfl rfl wn (yI O_3 (et rfl rfl) hst (rdI mhF) gx359) ?_
                    refine Ry rfl rfl wn (ylss (et rfl rfl) rfl) ?_
                    refine Ry rfl rfl wn (ym (v := .bool (decide (x359 < 0))) (et rfl rfl)) ?_
                    refine Ry rfl rfl (wg rfl rfl rfl (decide_eq_false c363)) (ym (v := h13.v) (et rfl e67_8)) ?_
                    refine Ry rfl rfl (wg rfl rfl rfl (decide_eq_false c363)) (ym (v := .int .i64 x185) (et rfl e67_12)) ?_
                    refine Ry rfl rfl (wg rfl rfl rfl (decide_eq_false c363)) (yIa SL_25 (et rfl rfl) (et rfl rfl) hst (rdO mhR) gx373) ?_
                    obtain ⟨h374, ch374, hst⟩ := rLs hst (rdO mhR) gx373
                    refine Ry rfl rfl (wg rfl rfl rfl (decide_eq_false c363)) (yCe O_22 (et rfl rfl) ch374 rfl) ?_
                    refine Ry rfl rfl (wg rfl rfl rfl (decide_eq_false c363)) (ym (v := .int .i64 x320) (et rfl e67_13)) ?_
                    refine Ry rfl rfl (wg rfl rfl rfl (decide_eq_false c363)) (yIa SL_22 (et rfl rfl) (et rfl rfl) hst (rdI mhF) gx375) ?_
                    refine Ry rfl rfl (wg rfl rfl rfl (decide_eq_false c363)) (yI O_3 (et rfl rfl) hst (rdI mhF) gx375) ?_
                    refine Ry rfl rfl (wg rfl rfl rfl (decide_eq_false c363)) (ym (v := .int .i64 r6) (et rfl e67_0)) ?_
                    refine Ry rfl rfl (wg rfl rfl rfl (decide_eq_false c363)) (ygeq (et rfl rfl) (et rfl rfl)) ?_
                    refine Ry rfl rfl wn (ypf (v := .bool r360) (et rfl rfl) (decide_eq_false c363) (eqv hr72 (et rfl rfl))) ?_
                    refine Ry rfl rfl wn (ym (v := .bool r360) (et rfl rfl)) ?_
                    refine Ry rfl rfl (wg rfl rfl rfl (bfalse c376)) (ym (v := h22.v) (et rfl e67_10)) ?_
                    refine Ry rfl rfl (wg rfl rfl rfl (bfalse c376)) (ym (v := h13.v) (et rfl e67_8)) ?_
                    refine Ry rfl rfl (wg rfl rfl rfl (bfalse c376)) (ym (v := .int .i64 x185) (et rfl e67_12)) ?_
                    refine Ry rfl rfl (wg rfl rfl rfl (bfalse c376)) (yIa SL_25 (et rfl rfl) (et rfl rfl) hst (rdO mhR) gx377) ?_
                    obtain ⟨h378, ch378, hst⟩ := rLs hst (rdO mhR) gx377
                    refine Ry rfl rfl (wg rfl rfl rfl (bfalse c376)) (yCe O_22 (et rfl rfl) ch378 rfl) ?_
                    refine Ry rfl rfl (wg rfl rfl rfl (bfalse c376)) (ym (v := .int .i64 x320) (et rfl e67_13)) ?_
                    refine Ry rfl rfl (wg rfl rfl rfl (bfalse c376)) (yIa SL_22 (et rfl rfl) (et rfl rfl) hst (rdI mhF) gx379) ?_
                    refine Ry rfl rfl (wg rfl rfl rfl (bfalse c376)) (yI O_3 (et rfl rfl) hst (rdI mhF) gx379) ?_
                    refine Ry rfl rfl (wg rfl rfl rfl (bfalse c376)) (yIa SL_22 (et rfl rfl) (et rfl rfl) hst (rdO (mtR mhR)) gx380) ?_
                    refine Ry rfl rfl (wg rfl rfl rfl (bfalse c376)) (yI O_3 (et rfl rfl) hst (rdO (mtR mhR)) gx380) ?_
                    refine Ry rfl rfl (wg rfl rfl rfl (bfalse c376)) (ym (v := h22.v) (et rfl e67_10)) ?_
                    refine Ry rfl rfl (wg rfl rfl rfl (bfalse c376)) (ym (v := h13.v) (et rfl e67_8)) ?_
                    refine Ry rfl rfl (wg rfl rfl rfl (bfalse c376)) (ym (v := .int .i64 x185) (et rfl e67_12)) ?_
                    refine Ry rfl rfl (wg rfl rfl rfl (bfalse c376)) (yIa SL_25 (et rfl rfl) (et rfl rfl) hst (rdO mhR) gx381) ?_
                    obtain ⟨h382, ch382, hst⟩ := rLs hst (rdO mhR) gx381
                    refine Ry rfl rfl (wg rfl rfl rfl (bfalse c376)) (yCe O_22 (et rfl rfl) ch382 rfl) ?_
                    refine Ry rfl rfl (wg rfl rfl rfl (bfalse c376)) (yIa SL_22 (et rfl rfl) rfl hst (rdI mhF) gx383) ?_
                    refine Ry rfl rfl (wg rfl rfl rfl (bfalse c376)) (yI O_3 (et rfl rfl) hst (rdI mhF) gx383) ?_
                    refine Ry rfl rfl (wg rfl rfl rfl (bfalse c376)) (yIa SL_22 (et rfl rfl) (et rfl rfl) hst (rdO (mtR mhR)) gx384) ?_
                    refine Ry rfl rfl (wg rfl rfl rfl (bfalse c376)) (yI O_3 (et rfl rfl) hst (rdO (mtR mhR)) gx384) ?_
                    refine Ry rfl rfl (wg rfl rfl rfl (bfalse c376)) (yneq (et rfl rfl) (et rfl rfl)) ?_
                    refine Ry rfl rfl wn (ypf (v := .bool r361) (et rfl rfl) (bfalse c376) (eqv hr74 (et rfl rfl))) ?_
                    refine Rn QSn ?_
                    exact j68 _ _ ⟨e67_0, e67_8, e67_10, e67_12, e67_13, rfl, (hst.facts (allT (allT (allT (allT (allT allI))))))⟩
              clear hst
              rintro f w ⟨e362_0, e362_8, e362_10, e362_12, e362_13, e362_139, hst⟩
              refine k127 _ _ ?_
              rcases iteS hM67 with ⟨c385, hM67⟩ | ⟨c385, hM67⟩
              · refine condT (et rfl e362_139) c385 ?_
                refine seqQ fun Q128 k128 z128 => ?_
                refine wp_region_lit ?_
                refine Y wn rfl (ya (v := .bool false) rfl) ?_
                refine wpList_nil ?_
                refine k128 _ _ ?_
                refine wp_ret ?_
                refine q126 _ _ _ ?_
                refine z125 _ _ _ rfl ?_
                obtain rfl := someI hM67
                refine zz67 _ _ _ _ rfl rfl ?_
                exact je67_1 _ _ rfl (hst.pk 2 [] rfl) (ho67 _ rfl)
              · refine condF (et rfl e362_139) (bfalse c385) ?_
                refine wp_skip ?_
                refine q126 _ _ _ ?_
                refine k125 _ _ ?_
                refine wp_region_lit ?_
                refine Y wn rfl (ym (v := .int .i64 x320) (et rfl e362_13)) ?_
                refine Y wn rfl (yadd (et rfl rfl) rfl) ?_
                refine Y wn rfl (ya (v := .int .i64 (wa .i64 x320 1)) (et rfl rfl)) ?_
                refine wpList_nil ?_
                obtain rfl := someI hM67
                exact n67 _ _ _ rfl ⟨_, _, rfl, rfl, e362_0, e362_8, e362_10, e362_12, rfl, hst⟩
            · refine condF (et rfl rfl) (decide_eq_false c356) ?_
              refine wp_exit ?_
              refine z123 _ _ _ rfl ?_
              obtain rfl := someI hM67
              refine zz67 _ _ _ _ rfl rfl ?_
              exact je67_0 _ _ e67_0 e67_8 e67_10 e67_12 (hst.facts (allT allI)) (ho67 _ rfl)
          · refine condF (et rfl rfl) (decide_eq_false c287) ?_
            refine wp_exit ?_
            refine z105 _ _ _ rfl ?_
            obtain rfl := someI hM52
            refine zz52 _ _ _ _ rfl rfl ?_
            exact je52_0 _ _ (hst.pk 2 [] rfl) (ho52 _ rfl)
        · refine condT (et rfl rfl) (nT (decide_eq_false c85)) ?_
          refine seqQ fun Q129 k129 z129 => ?_
          refine wp_region_lit ?_
          refine Y wn rfl (ya (v := .bool false) rfl) ?_
          refine wpList_nil ?_
          refine k129 _ _ ?_
          refine wp_ret ?_
          refine z51 _ _ _ rfl ?_
          obtain rfl := someI hM
          exact hQ _ _ _ (fin1r Try.results8 ⟨rfl, rfl⟩ ⟨rfl, (hst.pk 2 [] rfl)⟩)
      refine loopQ (fun s a w => ∃ (x51 : Int) (x52 : List Int) (x53 : Int) (f : Nat → Value), (x51, x52, x53) = s ∧ a = fr 141 f ∧ f 0 = .int .i64 r6 ∧ f 6 = h11.v ∧ f 8 = h13.v ∧ f 9 = .int .i64 x51 ∧ f 10 = h22.v ∧ f 11 = .int .i64 x53 ∧ St w0 (imm (rI .i64) h11.v r10.1 :: ros) (row 22 (rS (rI .i64)) h13.v r12 :: row 3 (rI .i64) h22.v x52 :: rs) w) go7 ⟨_, _, _, _, rfl, rfl, e18_0, e18_6, e18_8, rfl, rfl, rfl, (hst.pk 2 [1, 0] rfl)⟩ ?_
      clear hst
      rintro _ _ w r7_ ⟨x51, x52, x53, f, rfl, rfl, e7_0, e7_6, e7_8, e7_9, e7_10, e7_11, hst⟩ hM7 ho7 Q100007 n7 zz7
      refine seqQ fun Q130 k130 z130 => ?_
      refine seqQ fun Q131 k131 z131 => ?_
      refine wp_region_lit ?_
      refine Y wn rfl (ym (v := .int .i64 x53) (et rfl e7_11)) ?_
      refine Y wn rfl (ym (v := .int .i64 r6) (et rfl e7_0)) ?_
      refine Y wn rfl (ylss (et rfl rfl) (et rfl rfl)) ?_
      refine wpList_nil ?_
      refine k131 _ _ ?_
      rcases iteS hM7 with ⟨c386, hM7⟩ | ⟨c386, hM7⟩
      · refine condT (et rfl rfl) (decide_eq_true c386) ?_
        refine wp_skip ?_
        refine k130 _ _ ?_
        refine seqQ fun Q132 k132 z132 => ?_
        refine blockQ fun Q133 q133 => ?_
        refine seqQ fun Q134 k134 z134 => ?_
        refine wp_region_lit ?_
        refine Y wn rfl (ym (v := h22.v) (et rfl e7_10)) ?_
        refine Y wn rfl (ym (v := .int .i64 x53) (et rfl e7_11)) ?_
        refine Y wn rfl (ym (v := .int .i64 x53) (et rfl e7_11)) ?_
        obtain ⟨x387, gx387, hM7⟩ := bs hM7
        refine Y wn rfl (yIs SL_22 (et rfl rfl) (et rfl rfl) hst (rdO (mtR mhR)) gx387) ?_
        replace hst := hst.pk 2 [1, 0] rfl
        refine YT wn rfl (r_sti (cs := [.int .i64 x53]) hst O_3 rfl (et rfl rfl) (et rfl rfl) rfl mkI gx387) ?_
        clear hst
        intro w hst
        refine wpList_nil ?_
        refine k134 _ _ ?_
        refine seqQ fun Q135 k135 z135 => ?_
        refine blockQ fun Q136 q136 => ?_
        obtain ⟨o75, go75, hM7⟩ := bs hM7
        have je75_0 : ∀ (x402 : List Int) (f : Nat → Value) (w : World), f 0 = .int .i64 r6 → f 6 = h11.v → f 8 = h13.v → f 9 = .int .i64 x51 → f 10 = h22.v → f 11 = .int .i64 x53 → St w0 (imm (rI .i64) h11.v r10.1 :: ros) (row 22 (rS (rI .i64)) h13.v r12 :: row 3 (rI .i64) h22.v x402 :: rs) w → x402 = o75 → Q136 (.exit 2) (fr 141 f) w := by
          intro x402 f w eje75_0_0 eje75_0_6 eje75_0_8 eje75_0_9 eje75_0_10 eje75_0_11 hst ho
          subst ho
          refine q136 _ _ _ ?_
          refine k135 _ _ ?_
          refine seqQ fun Q143 k143 z143 => ?_
          refine wp_region_lit ?_
          refine Y wn rfl (ym (v := h22.v) (et rfl eje75_0_10)) ?_
          refine Y wn rfl (ym (v := .int .i64 x53) (et rfl eje75_0_11)) ?_
          obtain ⟨x403, gx403, hM7⟩ := bs hM7
          refine Y wn rfl (yIa SL_22 (et rfl rfl) (et rfl rfl) hst (rdO (mtR mhR)) gx403) ?_
          refine Y wn rfl (yI O_3 (et rfl rfl) hst (rdO (mtR mhR)) gx403) ?_
          refine Y wn rfl (ym (v := .int .i64 x53) (et rfl eje75_0_11)) ?_
          refine Y wn rfl (yeql (et rfl rfl) (et rfl rfl)) ?_
          refine wpList_nil ?_
          refine k143 _ _ ?_
          have j76 : ∀ (x404 : Int) (f : Nat → Value) (w : World), f 0 = .int .i64 r6 → f 6 = h11.v → f 8 = h13.v → f 9 = .int .i64 x404 → f 10 = h22.v → f 11 = .int .i64 x53 → St w0 (imm (rI .i64) h11.v r10.1 :: ros) (row 22 (rS (rI .i64)) h13.v r12 :: row 3 (rI .i64) h22.v x402 :: rs) w → sparselaw19_EtreeComponents_j76 x402 x53 x404 = some r7_ → Q133 .normal (fr 141 f) w := by
            intro x404 f w ej76_0 ej76_6 ej76_8 ej76_9 ej76_10 ej76_11 hst hM
            refine q133 _ _ _ ?_
            refine k132 _ _ ?_
            refine wp_region_lit ?_
            refine Y wn rfl (ym (v := .int .i64 x53) (et rfl ej76_11)) ?_
            refine Y wn rfl (yadd (et rfl rfl) rfl) ?_
            refine Y wn rfl (ya (v := .int .i64 (wa .i64 x53 1)) (et rfl rfl)) ?_
            refine wpList_nil ?_
            obtain rfl := someI hM
            exact n7 _ _ _ rfl ⟨_, _, _, _, rfl, rfl, ej76_0, ej76_6, ej76_8, ej76_9, ej76_10, rfl, hst⟩
          rcases iteS hM7 with ⟨c405, hM7⟩ | ⟨c405, hM7⟩
          · refine condT (et rfl rfl) (decide_eq_true c405) ?_
            refine wp_region_lit ?_
            refine Y wn rfl (ym (v := .int .i64 x51) (et rfl eje75_0_9)) ?_
            refine Y wn rfl (yadd (et rfl rfl) rfl) ?_
            refine Y wn rfl (ya (v := .int .i64 (wa .i64 x51 1)) (et rfl rfl)) ?_
            refine wpList_nil ?_
            exact j76 _ _ _ eje75_0_0 eje75_0_6 eje75_0_8 rfl eje75_0_10 eje75_0_11 hst hM7
          · refine condF (et rfl rfl) (decide_eq_false c405) ?_
            refine wp_skip ?_
            exact j76 _ _ _ eje75_0_0 eje75_0_6 eje75_0_8 eje75_0_9 eje75_0_10 eje75_0_11 hst hM7
        refine loopQ (fun s a w => ∃ (x394 : List Int) (f : Nat → Value), x394 = s ∧ a = fr 141 f ∧ f 0 = .int .i64 r6 ∧ f 6 = h11.v ∧ f 8 = h13.v ∧ f 9 = .int .i64 x51 ∧ f 10 = h22.v ∧ f 11 = .int .i64 x53 ∧ St w0 (imm (rI .i64) h11.v r10.1 :: ros) (row 22 (rS (rI .i64)) h13.v r12 :: row 3 (rI .i64) h22.v x394 :: rs) w) go75 ⟨_, _, rfl, rfl, e7_0, e7_6, e7_8, e7_9, e7_10, e7_11, (hst.pk 2 [1, 0] rfl)⟩ ?_
        clear hst
        rintro _ _ w r75_ ⟨x394, f, rfl, rfl, e75_0, e75_6, e75_8, e75_9, e75_10, e75_11, hst⟩ hM75 ho75 Q100075 n75 zz75
        refine seqQ fun Q144 k144 z144 => ?_
        refine seqQ fun Q145 k145 z145 => ?_
        refine wp_region_lit ?_
        refine Y wn rfl (ym (v := h11.v) (et rfl e75_6)) ?_
        refine Y wn rfl (ym (v := h22.v) (et rfl e75_10)) ?_
        refine Y wn rfl (ym (v := .int .i64 x53) (et rfl e75_11)) ?_
        obtain ⟨x406, gx406, hM75⟩ := bs hM75
        refine Y wn rfl (yIa SL_22 (et rfl rfl) (et rfl rfl) hst (rdO (mtR mhR)) gx406) ?_
        refine Y wn rfl (yI O_3 (et rfl rfl) hst (rdO (mtR mhR)) gx406) ?_
        obtain ⟨x407, gx407, hM75⟩ := bs hM75
        refine Y wn rfl (yIa SL_22 (et rfl rfl) (et rfl rfl) hst (rdI mhF) gx407) ?_
        refine Y wn rfl (yI O_3 (et rfl rfl) hst (rdI mhF) gx407) ?_
        refine Y wn rfl (ygeq (et rfl rfl) rfl) ?_
        refine wpList_nil ?_
        refine k145 _ _ ?_
        rcases iteS hM75 with ⟨c408, hM75⟩ | ⟨c408, hM75⟩
        · refine condT (et rfl rfl) (decide_eq_true c408) ?_
          refine wp_skip ?_
          refine k144 _ _ ?_
          refine blockQ fun Q146 q146 => ?_
          refine wp_region_lit ?_
          refine Y wn rfl (ym (v := h22.v) (et rfl e75_10)) ?_
          refine Y wn rfl (ym (v := .int .i64 x53) (et rfl e75_11)) ?_
          refine Y wn rfl (ym (v := h11.v) (et rfl e75_6)) ?_
          refine Y wn rfl (ym (v := h22.v) (et rfl e75_10)) ?_
          refine Y wn rfl (ym (v := .int .i64 x53) (et rfl e75_11)) ?_
          obtain ⟨x409, gx409, hM75⟩ := bs hM75
          refine Y wn rfl (yIa SL_22 (et rfl rfl) (et rfl rfl) hst (rdO (mtR mhR)) gx409) ?_
          refine Y wn rfl (yI O_3 (et rfl rfl) hst (rdO (mtR mhR)) gx409) ?_
          obtain ⟨x410, gx410, hM75⟩ := bs hM75
          refine Y wn rfl (yIa SL_22 (et rfl rfl) (et rfl rfl) hst (rdI mhF) gx410) ?_
          refine Y wn rfl (yI O_3 (et rfl rfl) hst (rdI mhF) gx410) ?_
          obtain ⟨x411, gx411, hM75⟩ := bs hM75
          refine Y wn rfl (yIs SL_22 (et rfl rfl) (et rfl rfl) hst (rdO (mtR mhR)) gx411) ?_
          replace hst := hst.pk 2 [1, 0] rfl
          refine YT wn rfl (r_sti (cs := [.int .i64 x410]) hst O_3 rfl (et rfl rfl) (et rfl rfl) rfl mkI gx411) ?_
          clear hst
          intro w hst
          refine wpList_nil ?_
          refine q146 _ _ _ ?_
          obtain rfl := someI hM75
          exact n75 _ _ _ rfl ⟨_, _, rfl, rfl, e75_0, e75_6, e75_8, e75_9, e75_10, e75_11, (hst.pk 2 [1, 0] rfl)⟩
        · refine condF (et rfl rfl) (decide_eq_false c408) ?_
          refine wp_exit ?_
          refine z144 _ _ _ rfl ?_
          obtain rfl := someI hM75
          refine zz75 _ _ _ _ rfl rfl ?_
          exact je75_0 _ _ _ e75_0 e75_6 e75_8 e75_9 e75_10 e75_11 hst (ho75 _ rfl)
      · refine condF (et rfl rfl) (decide_eq_false c386) ?_
        refine wp_exit ?_
        refine z130 _ _ _ rfl ?_
        obtain rfl := someI hM7
        refine zz7 _ _ _ _ rfl rfl ?_
        exact je7_0 _ _ _ _ e7_0 e7_8 e7_9 e7_10 (hst.facts (allT allI)) (ho7 _ rfl)
end Go.Proofs.Ytoelidgkfpmgnaa
