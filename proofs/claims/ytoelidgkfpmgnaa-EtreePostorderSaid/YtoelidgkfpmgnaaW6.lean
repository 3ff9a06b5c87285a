/- Walks: each function computes its model, printed. -/
import Derived.Test.YtoelidgkfpmgnaaW5
namespace Go.Proofs.Ytoelidgkfpmgnaa
open Go Sx M
set_option maxRecDepth 100000
set_option maxHeartbeats 400000
set_option linter.unusedVariables false
attribute [local irreducible] wpList Code.wp Calls DR QR QS LA LS St
theorem slices_Compact_int_ok {w0 : World} {ros : List Fact} {rs : List Res} {w : World} {x1 : List Int} {h2 : Hdr} {out : Unit} (hM : slices_Compact_int x1 = some out) (hst : St w0 ros (row 3 (rI .i64) h2.v x1 :: rs) w) :
    Calls Try.prog 100 #[h2.v] w (fun e w => e = .returned (h2.v) ∧ St w0 (ros) (row 3 (rI .i64) h2.v x1 :: rs) w) := by
  refine enterQ Try.func100 rfl Try.ntmps100 rfl fun Q hQ => ?_
  refine seqQ fun Q1 k1 z1 => ?_
  refine wp_region_lit ?_
  refine Y wn rfl (ya (v := hnil.v) rfl) ?_
  refine wpList_nil ?_
  refine k1 _ _ ?_
  refine seqQ fun Q2 k2 z2 => ?_
  refine seqQ fun Q3 k3 z3 => ?_
  refine wp_region_lit ?_
  refine Y wn rfl (ym (v := h2.v) (et rfl rfl)) ?_
  refine Y wn rfl (yLen SL_22 (et rfl rfl) hst (rdO mhR)) ?_
  refine Y wn rfl (ylss (et rfl rfl) rfl) ?_
  refine wpList_nil ?_
  refine k3 _ _ ?_
  rcases iteS hM with ⟨c3, hM⟩ | ⟨c3, hM⟩
  · refine condT (et rfl rfl) (decide_eq_true c3) ?_
    refine seqQ fun Q4 k4 z4 => ?_
    refine wp_region_lit ?_
    refine Y wn rfl (ym (v := h2.v) (et rfl rfl)) ?_
    refine Y wn rfl (ya (v := h2.v) (et rfl rfl)) ?_
    refine wpList_nil ?_
    refine k4 _ _ ?_
    refine wp_ret ?_
    refine z2 _ _ _ rfl ?_
    obtain rfl := someI hM
    exact hQ _ _ _ (fin1r Try.results100 ⟨rfl, rfl⟩ ⟨rfl, hst⟩)
  · refine condF (et rfl rfl) (decide_eq_false c3) ?_
    refine wp_skip ?_
    refine k2 _ _ ?_
    refine seqQ fun Q5 k5 z5 => ?_
    refine seqQ fun Q6 k6 z6 => ?_
    refine wp_region_lit ?_
    refine Y wn rfl (ya (v := .int .i64 1) rfl) ?_
    refine wpList_nil ?_
    refine k6 _ _ ?_
    refine blockQ fun Q7 qb7 => ?_
    obtain ⟨o7, go7, hM⟩ := bs hM
    have je7_0 : ∀ (f : Nat → Value) (w : World), f 0 = h2.v → St w0 (ros) (row 3 (rI .i64) h2.v x1 :: rs) w → () = o7 → Q7 (.exit 0) (fr 61 f) w := by
      intro f w eje7_0_0 hst ho
      subst ho
      refine qb7 _ _ _ ?_
      refine k5 _ _ ?_
      refine seqQ fun Q56 k56 z56 => ?_
      refine wp_region_lit ?_
      refine Y wn rfl (ym (v := h2.v) (et rfl eje7_0_0)) ?_
      refine Y wn rfl (ya (v := h2.v) (et rfl rfl)) ?_
      refine wpList_nil ?_
      refine k56 _ _ ?_
      refine wp_ret ?_
      obtain rfl := someI hM
      exact hQ _ _ _ (fin1r Try.results100 ⟨rfl, rfl⟩ ⟨rfl, hst⟩)
    refine loopQ (fun s a w => ∃ (x28 : Int) (f : Nat → Value), x28 = s ∧ a = fr 61 f ∧ f 0 = h2.v ∧ f 3 = .int .i64 x28 ∧ St w0 (ros) (row 3 (rI .i64) h2.v x1 :: rs) w) go7 ⟨_, _, rfl, rfl, rfl, rfl, hst⟩ ?_
    clear hst
    rintro _ _ w r7_ ⟨x28, f, rfl, rfl, e7_0, e7_3, hst⟩ hM7 ho7 Q100007 n7 zz7
    refine seqQ fun Q57 k57 z57 => ?_
    refine seqQ fun Q58 k58 z58 => ?_
    refine wp_region_lit ?_
    refine Y wn rfl (ym (v := .int .i64 x28) (et rfl e7_3)) ?_
    refine Y wn rfl (ym (v := h2.v) (et rfl e7_0)) ?_
    refine Y wn rfl (yLen SL_22 (et rfl rfl) hst (rdO mhR)) ?_
    refine Y wn rfl (ylss (et rfl rfl) (et rfl rfl)) ?_
    refine wpList_nil ?_
    refine k58 _ _ ?_
    rcases iteS hM7 with ⟨c54, hM7⟩ | ⟨c54, hM7⟩
    · refine condT (et rfl rfl) (decide_eq_true c54) ?_
      refine wp_skip ?_
      refine k57 _ _ ?_
      refine seqQ fun Q59 k59 z59 => ?_
      refine blockQ fun Q60 qb60 => ?_
      refine seqQ fun Q61 k61 z61 => ?_
      obtain ⟨x55, gx55, hM7⟩ := bs hM7
      obtain ⟨x56, gx56, hM7⟩ := bs hM7
      refine wp_drawR [0, 0, 3, 7, 0, 0, 32, 112, 240, 511] [] 0 folM (by kernel_rfl) (by kernel_rfl) (by kernel_rfl) ?_
      replace hst := hst.drew
      refine DRz (l1 := [0, 1, 2, 3, 4, 5, 6, 7, 8, 9]) (l2 := []) (by kernel_rfl) (by kernel_rfl) ?_
      refine Ry rfl rfl wn (ym (v := h2.v) (et rfl e7_0)) ?_
      refine Ry rfl rfl wn (ym (v := .int .i64 x28) (et rfl e7_3)) ?_
      refine Ry rfl rfl wn (yIa SL_22 (et rfl rfl) (et rfl rfl) hst (rdO mhR) gx55) ?_
      refine Ry rfl rfl wn (yI O_3 (et rfl rfl) hst (rdO mhR) gx55) ?_
      refine Ry rfl rfl wn (ym (v := h2.v) (et rfl e7_0)) ?_
      refine Ry rfl rfl wn (ym (v := .int .i64 x28) (et rfl e7_3)) ?_
      refine Ry rfl rfl wn (ysub (et rfl rfl) rfl) ?_
      refine Ry rfl rfl wn (yIa SL_22 (et rfl rfl) (et rfl rfl) hst (rdO mhR) gx56) ?_
      refine Ry rfl rfl wn (yI O_3 (et rfl rfl) hst (rdO mhR) gx56) ?_
      refine Ry rfl rfl wn (yeql (et rfl rfl) (et rfl rfl)) ?_
      refine Rn QSn ?_
      refine k61 _ _ ?_
      rcases iteS hM7 with ⟨c57, hM7⟩ | ⟨c57, hM7⟩
      · refine condT (et rfl rfl) (decide_eq_true c57) ?_
        cases hM7
      · refine condF (et rfl rfl) (decide_eq_false c57) ?_
        refine wp_skip ?_
        refine qb60 _ _ _ ?_
        refine k59 _ _ ?_
        refine wp_region_lit ?_
        refine Y wn rfl (ym (v := .int .i64 x28) (et rfl e7_3)) ?_
        refine Y wn rfl (yadd (et rfl rfl) rfl) ?_
        refine Y wn rfl (ya (v := .int .i64 (wa .i64 x28 1)) (et rfl rfl)) ?_
        refine wpList_nil ?_
        obtain rfl := someI hM7
        exact n7 _ _ _ rfl ⟨_, _, rfl, rfl, e7_0, rfl, hst⟩
    · refine condF (et rfl rfl) (decide_eq_false c54) ?_
      refine wp_exit ?_
      refine z57 _ _ _ rfl ?_
      obtain rfl := someI hM7
      refine zz7 _ _ _ _ rfl rfl ?_
      exact je7_0 _ _ e7_0 hst (ho7 _ rfl)

theorem graph_twice_ok {w0 : World} {ros : List Fact} {rs : List Res} {w : World} {x1 : List Int} {h2 : Hdr} {out : Bool} (hM : graph_twice x1 = some out) (q1 : imm (rI .i64) h2.v x1 ∈ ros) (hst : St w0 ros (rs) w) :
    Calls Try.prog 79 #[h2.v] w (fun e w => e = .returned (.bool out) ∧ St w0 (ros) (rs) w) := by
  refine enterQ Try.func79 rfl Try.ntmps79 rfl fun Q hQ => ?_
  refine seqQ fun Q1 k1 z1 => ?_
  refine wp_region_lit ?_
  refine Y wn rfl (ya (v := .bool false) rfl) ?_
  refine wpList_nil ?_
  refine k1 _ _ ?_
  refine seqQ fun Q2 k2 z2 => ?_
  refine wp_region_lit ?_
  refine Y wn rfl (ym (v := h2.v) (et rfl rfl)) ?_
  obtain ⟨r3, gr3, hM⟩ := bs hM
  refine Yc wn rfl (yCall FN_102 (a1 (et rfl rfl))) (slices_Values_int_ok (hM := gr3) (hst := hst) (q1 := q1)) ?_
  clear hst
  rintro _ w ⟨b4, rfl, hst⟩
  refine ⟨_, rfl, ?_⟩
  obtain ⟨r5, gr5, hM⟩ := bs hM
  refine Yc wn rfl (yCall FN_101 (a1 (et rfl rfl))) (slices_Sorted_int_ok (hM := gr5) (hst := hst) (q1 := q1)) ?_
  clear hst
  rintro _ w ⟨h6, rfl, hst⟩
  refine ⟨_, rfl, ?_⟩
  obtain ⟨r7, gr7, hM⟩ := bs hM
  replace hst := hst.pk 2 [1, 0] rfl
  refine Yc wn rfl (yCall FN_100 (a1 (et rfl rfl))) (slices_Compact_int_ok (hM := gr7) (hst := hst) ) ?_
  clear hst
  rintro _ w ⟨rfl, hst⟩
  refine ⟨_, rfl, ?_⟩
  refine Y wn rfl (yLen SL_22 (et rfl rfl) hst (rdO mhR)) ?_
  refine Y wn rfl (ym (v := h2.v) (et rfl rfl)) ?_
  refine Y wn rfl (yLen SL_22 (et rfl rfl) hst (rdI q1)) ?_
  refine Y wn rfl (ylss (et rfl rfl) (et rfl rfl)) ?_
  refine Y wn rfl (ya (v := .bool (decide ((r5.length : Int) < (x1.length : Int)))) (et rfl rfl)) ?_
  refine wpList_nil ?_
  refine k2 _ _ ?_
  refine wp_ret ?_
  obtain rfl := someI hM
  exact hQ _ _ _ (fin1r Try.results79 ⟨rfl, rfl⟩ ⟨rfl, (hst.pk 2 [] rfl)⟩)

theorem graph_Permuted_ok {w0 : World} {ros : List Fact} {rs : List Res} {w : World} {x1 : List (List Int)} {x3 : List Int} {h2 : Hdr} {h4 : Hdr} {out : Int} (hM : graph_Permuted x1 x3 = some out) (q1 : imm (rS (rI .i64)) h2.v x1 ∈ ros) (q2 : imm (rI .i64) h4.v x3 ∈ ros) (hst : St w0 ros (rs) w) :
    Calls Try.prog 56 #[.agg #[h2.v], h4.v] w (fun e w => e = .returned (.int .i64 out) ∧ St w0 (ros) (rs) w) := by
  refine enterQ Try.func56 rfl Try.ntmps56 rfl fun Q hQ => ?_
  refine seqQ fun Q1 k1 z1 => ?_
  refine wp_region_lit ?_
  refine YB wn rfl (r_box (vals := [h2.v]) hst (et rfl rfl) rfl) ?_
  clear hst
  intro b5 w hst
  refine Y wn rfl (ya (v := .int .i64 0) rfl) ?_
  refine wpList_nil ?_
  refine k1 _ _ ?_
  refine seqQ fun Q2 k2 z2 => ?_
  refine wp_region_lit ?_
  refine Y wn rfl (yLbs (us := [h2.v]) ST_27 (et rfl rfl) hst mhR rfl rfl) ?_
  obtain ⟨r6, gr6, hM⟩ := bs hM
  refine Yc wn rfl (yCall FN_37 (a1 (et rfl rfl))) (graph_Check_ok (hM := gr6) (hst := hst) (q1 := q1)) ?_
  clear hst
  rintro _ w ⟨rfl, hst⟩
  refine ⟨_, rfl, ?_⟩
  refine Y wn rfl (ya (v := .int .i64 r6) (et rfl rfl)) ?_
  refine wpList_nil ?_
  refine k2 _ _ ?_
  refine seqQ fun Q3 k3 z3 => ?_
  refine blockQ fun Q4 qb4 => ?_
  refine seqQ fun Q5 k5 z5 => ?_
  refine wp_region_lit ?_
  refine Y wn rfl (ym (v := .int .i64 r6) (et rfl rfl)) ?_
  refine Y wn rfl (yneq (et rfl rfl) rfl) ?_
  refine Y wn rfl (ya (v := .bool (!(decide (r6 = 0)))) (et rfl rfl)) ?_
  refine wpList_nil ?_
  refine k5 _ _ ?_
  rcases iteS hM with ⟨c7, hM⟩ | ⟨c7, hM⟩
  · refine condF (et rfl rfl) (nF (decide_eq_true c7)) ?_
    refine seqQ fun Q6 k6 z6 => ?_
    refine wp_region_lit ?_
    refine Y wn rfl (ym (v := h4.v) (et rfl rfl)) ?_
    refine Y wn rfl (yLen SL_22 (et rfl rfl) hst (rdI q2)) ?_
    refine Y wn rfl (yFb FL_27_0 (et rfl rfl)) ?_
    refine Y wn rfl (yLb (u := h2.v) O_25 (et rfl rfl) hst mhR rfl) ?_
    refine Y wn rfl (yLen SL_25 (et rfl rfl) hst (rdI q1)) ?_
    refine Y wn rfl (yneq (et rfl rfl) (et rfl rfl)) ?_
    refine Y wn rfl (ya (v := .bool (!(decide ((x3.length : Int) = (x1.length : Int))))) (et rfl rfl)) ?_
    refine wpList_nil ?_
    refine k6 _ _ ?_
    rcases iteS hM with ⟨c8, hM⟩ | ⟨c8, hM⟩
    · refine condF (et rfl rfl) (nF (decide_eq_true c8)) ?_
      refine seqQ fun Q7 k7 z7 => ?_
      refine wp_region_lit ?_
      refine Y wn rfl (ym (v := h4.v) (et rfl rfl)) ?_
      refine Y wn rfl (ymf (vf := #[]) (vc := #[.pointer (some ⟨b5, 0, none⟩)]) a0 (a1 (et rfl rfl))) ?_
      obtain ⟨r9, gr9, hM⟩ := bs hM
      refine Yc wn rfl (yCall FN_76 (a2 (et rfl rfl) (et rfl rfl))) (slices_ContainsFunc_int_ok (hM := gr9) (hst := hst) (q1 := q2) (q2 := q1)) ?_
      clear hst
      rintro _ w ⟨rfl, hst⟩
      refine ⟨_, rfl, ?_⟩
      refine Y wn rfl (ym (v := .bool r9) (et rfl rfl)) ?_
      obtain ⟨r11, gr11, hM⟩ := bs hM
      refine joinW 3 (fun f w => f 26 = .bool r11 ∧ St w0 (ros) (rs) w) (fun j1 => ?_) ?_
      · rcases iteS gr11 with ⟨c13, gr11⟩ | ⟨c13, gr11⟩
        · refine Gn (wx rfl rfl rfl c13) rfl ?_
          refine Gn (wx rfl rfl rfl c13) rfl ?_
          refine Y wn rfl (ypt (v := .bool true) (et rfl rfl) c13 rfl) ?_
          obtain rfl := someI gr11
          exact j1 _ _ ⟨rfl, (hst.pk 1 [] rfl)⟩
        · refine Y (wg rfl rfl rfl (bfalse c13)) rfl (ym (v := h4.v) (et rfl rfl)) ?_
          obtain ⟨r14, gr14, gr11⟩ := bs gr11
          refine Yc (wg rfl rfl rfl (bfalse c13)) rfl (yCall FN_79 (a1 (et rfl rfl))) (graph_twice_ok (hM := gr14) (hst := hst) (q1 := q2)) ?_
          clear hst
          rintro _ w ⟨rfl, hst⟩
          refine ⟨_, rfl, ?_⟩
          refine Y wn rfl (ypf (v := .bool r14) (et rfl rfl) (bfalse c13) (et rfl rfl)) ?_
          obtain rfl := someI gr11
          exact j1 _ _ ⟨rfl, (hst.pk 1 [] rfl)⟩
      clear hst
      rintro f w ⟨e12_26, hst⟩
      refine Y wn rfl (ya (v := .bool r11) (et rfl e12_26)) ?_
      refine wpList_nil ?_
      refine k7 _ _ ?_
      rcases iteS hM with ⟨c15, hM⟩ | ⟨c15, hM⟩
      · refine condT (et rfl rfl) c15 ?_
        refine seqQ fun Q8 k8 z8 => ?_
        refine wp_region_lit ?_
        refine Y wn rfl (ya (v := .int .i64 90) rfl) ?_
        refine wpList_nil ?_
        refine k8 _ _ ?_
        refine wp_ret ?_
        refine qb4 _ _ _ ?_
        refine z3 _ _ _ rfl ?_
        obtain rfl := someI hM
        exact hQ _ _ _ (fin1r Try.results56 ⟨rfl, rfl⟩ ⟨rfl, hst⟩)
      · refine condF (et rfl rfl) (bfalse c15) ?_
        refine wp_skip ?_
        refine qb4 _ _ _ ?_
        refine k3 _ _ ?_
        refine seqQ fun Q9 k9 z9 => ?_
        refine wp_region_lit ?_
        refine Y wn rfl (ya (v := .int .i64 0) rfl) ?_
        refine wpList_nil ?_
        refine k9 _ _ ?_
        refine wp_ret ?_
        obtain rfl := someI hM
        exact hQ _ _ _ (fin1r Try.results56 ⟨rfl, rfl⟩ ⟨rfl, hst⟩)
    · refine condT (et rfl rfl) (nT (decide_eq_false c8)) ?_
      refine seqQ fun Q10 k10 z10 => ?_
      refine wp_region_lit ?_
      refine Y wn rfl (ya (v := .int .i64 2) rfl) ?_
      refine wpList_nil ?_
      refine k10 _ _ ?_
      refine wp_ret ?_
      refine qb4 _ _ _ ?_
      refine z3 _ _ _ rfl ?_
      obtain rfl := someI hM
      exact hQ _ _ _ (fin1r Try.results56 ⟨rfl, rfl⟩ ⟨rfl, (hst.pk 1 [] rfl)⟩)
  · refine condT (et rfl rfl) (nT (decide_eq_false c7)) ?_
    refine seqQ fun Q11 k11 z11 => ?_
    refine wp_region_lit ?_
    refine Y wn rfl (ym (v := .int .i64 r6) (et rfl rfl)) ?_
    refine Y wn rfl (ya (v := .int .i64 r6) (et rfl rfl)) ?_
    refine wpList_nil ?_
    refine k11 _ _ ?_
    refine wp_ret ?_
    refine qb4 _ _ _ ?_
    refine z3 _ _ _ rfl ?_
    obtain rfl := someI hM
    exact hQ _ _ _ (fin1r Try.results56 ⟨rfl, rfl⟩ ⟨rfl, (hst.pk 1 [] rfl)⟩)

theorem graph_NewSets_ok {w0 : World} {ros : List Fact} {rs : List Res} {w : World} {x1 : Int} {out : (List (List Bool))} (hM : graph_NewSets x1 = some out) (hst : St w0 ros (rs) w) :
    Calls Try.prog 80 #[.int .i64 x1] w (fun e w => ∃ (h100001 : Hdr) (y100002 : List Hdr), e = .returned (h100001.v) ∧ St w0 (ros) (row 54 rH h100001.v y100002 :: fam 4 rB y100002 out :: rs) w) := by
  refine enterQ Try.func80 rfl Try.ntmps80 rfl fun Q hQ => ?_
  refine seqQ fun Q1 k1 z1 => ?_
  refine wp_region_lit ?_
  refine Y wn rfl (ya (v := hnil.v) rfl) ?_
  refine wpList_nil ?_
  refine k1 _ _ ?_
  refine seqQ fun Q2 k2 z2 => ?_
  refine wp_region_lit ?_
  refine Y wn rfl (ym (v := .int .i64 x1) (et rfl rfl)) ?_
  obtain ⟨x4, gx4, hM⟩ := bs hM
  obtain ⟨m3, em3, gm3⟩ := mkL_rep gx4 hnil
  refine YH wn rfl (rMk hst SLH_101 (et rfl rfl) gm3) ?_
  clear hst
  intro h2 w hst
  replace hst := (hst.fReps 4 rB m3).pk 2 [1, 0] rfl
  rw [← em3] at hst
  refine Y wn rfl (ya (v := h2.v) (et rfl rfl)) ?_
  refine wpList_nil ?_
  refine k2 _ _ ?_
  refine seqQ fun Q3 k3 z3 => ?_
  refine seqQ fun Q4 k4 z4 => ?_
  refine wp_region_lit ?_
  refine Y wn rfl (ym (v := h2.v) (et rfl rfl)) ?_
  refine Y wn rfl (yLenF SLH_101 (et rfl rfl) hst (rdO mhR) (mtR mhR)) ?_
  refine Y wn rfl (ym (v := .int .i64 0) rfl) ?_
  refine wpList_nil ?_
  refine k4 _ _ ?_
  refine blockQ fun Q5 qb5 => ?_
  obtain ⟨o1, go1, hM⟩ := bs hM
  have je1_0 : ∀ (x24 : List (List Bool)) (y23 : List Hdr) (f : Nat → Value) (w : World), f 3 = h2.v → St w0 (ros) (row 54 rH h2.v y23 :: fam 4 rB y23 x24 :: rs) w → x24 = o1 → Q5 (.exit 0) (fr 19 f) w := by
    intro x24 y23 f w eje1_0_3 hst ho
    subst ho
    refine qb5 _ _ _ ?_
    refine k3 _ _ ?_
    refine seqQ fun Q16 k16 z16 => ?_
    refine wp_region_lit ?_
    refine Y wn rfl (ym (v := h2.v) (et rfl eje1_0_3)) ?_
    refine Y wn rfl (ya (v := h2.v) (et rfl rfl)) ?_
    refine wpList_nil ?_
    refine k16 _ _ ?_
    refine wp_ret ?_
    obtain rfl := someI hM
    exact hQ _ _ _ (fin1r Try.results80 ⟨rfl, rfl⟩ ⟨_, _, rfl, hst⟩)
  refine loopQ (fun s a w => ∃ (x12 : List (List Bool)) (x13 : Int) (f : Nat → Value) (y11 : List Hdr), (x12, x13) = s ∧ a = fr 19 f ∧ f 0 = .int .i64 x1 ∧ f 3 = h2.v ∧ f 8 = .int .i64 (x4.length : Int) ∧ f 9 = .int .i64 x13 ∧ St w0 (ros) (row 54 rH h2.v y11 :: fam 4 rB y11 x12 :: rs) w) go1 ⟨_, _, _, _, rfl, rfl, rfl, rfl, rfl, rfl, hst⟩ ?_
  clear hst
  rintro _ _ w r1_ ⟨x12, x13, f, y11, rfl, rfl, e1_0, e1_3, e1_8, e1_9, hst⟩ hM1 ho1 Q100001 n1 zz1
  refine seqQ fun Q17 k17 z17 => ?_
  refine wp_region_lit ?_
  refine Y wn rfl (ylss (et rfl e1_9) (et rfl e1_8)) ?_
  refine wpList_nil ?_
  refine k17 _ _ ?_
  refine seqQ fun Q18 k18 z18 => ?_
  rcases iteS hM1 with ⟨c25, hM1⟩ | ⟨c25, hM1⟩
  · refine condT (et rfl rfl) (decide_eq_true c25) ?_
    refine wp_skip ?_
    refine k18 _ _ ?_
    refine seqQ fun Q19 k19 z19 => ?_
    refine blockQ fun Q20 qb20 => ?_
    refine seqQ fun Q21 k21 z21 => ?_
    refine wp_region_lit ?_
    refine Y wn rfl (ym (v := .int .i64 x13) (et rfl e1_9)) ?_
    refine Y wn rfl (ya (v := .int .i64 x13) (et rfl rfl)) ?_
    refine wpList_nil ?_
    refine k21 _ _ ?_
    refine wp_region_lit ?_
    refine Y wn rfl (ym (v := h2.v) (et rfl e1_3)) ?_
    refine Y wn rfl (ym (v := .int .i64 x13) (et rfl rfl)) ?_
    refine Y wn rfl (ym (v := .int .i64 x1) (et rfl e1_0)) ?_
    obtain ⟨x28, gx28, hM1⟩ := bs hM1
    refine YH wn rfl (rMk hst SL_54 (et rfl rfl) gx28) ?_
    clear hst
    intro h26 w hst
    obtain ⟨x29, gx29, hM1⟩ := bs hM1
    obtain ⟨y30, gy30⟩ := setI_len (u := h26) gx29 (hst.famL (mtR (mtR mhR)))
    refine Y wn rfl (yIs SLH_101 (et rfl rfl) (et rfl rfl) hst (rdO (mtR mhR)) gy30) ?_
    replace hst := hst.pk 2 [1, 0] rfl
    refine YT wn rfl (r_sti (cs := [h26.v]) hst O_54 rfl (et rfl rfl) (et rfl rfl) rfl (mkF rfl) gy30) ?_
    clear hst
    intro w hst
    replace hst := hst.pk 3 [1, 1, 0] rfl
    replace hst := hst.fput gy30 gx29
    refine wpList_nil ?_
    refine qb20 _ _ _ ?_
    refine k19 _ _ ?_
    refine wp_region_lit ?_
    refine Y wn rfl (yadd (et rfl e1_9) rfl) ?_
    refine Y wn rfl (ym (v := .int .i64 (wa .i64 x13 1)) (et rfl rfl)) ?_
    refine wpList_nil ?_
    obtain rfl := someI hM1
    exact n1 _ _ _ rfl ⟨_, _, _, _, rfl, rfl, e1_0, e1_3, e1_8, rfl, (hst.pk 2 [1, 0] rfl)⟩
  · refine condF (et rfl rfl) (decide_eq_false c25) ?_
    refine wp_exit ?_
    refine z18 _ _ _ rfl ?_
    obtain rfl := someI hM1
    refine zz1 _ _ _ _ rfl rfl ?_
    exact je1_0 _ _ _ _ e1_3 hst (ho1 _ rfl)

theorem graph_Sets_Join_ok {w0 : World} {ros : List Fact} {rs : List Res} {w : World} {x1 : List (List Bool)} {x4 : Int} {x5 : Int} {h2 : Hdr} {y3 : List Hdr} {out : (List (List Bool))} (hM : graph_Sets_Join x1 x4 x5 = some out) (hst : St w0 ros (row 54 rH h2.v y3 :: fam 4 rB y3 x1 :: rs) w) :
    Calls Try.prog 81 #[h2.v, .int .i64 x4, .int .i64 x5] w (fun e w => e = .returned (.tuple #[]) ∧ St w0 (ros) (row 54 rH h2.v y3 :: fam 4 rB y3 out :: rs) w) := by
  refine enterQ Try.func81 rfl Try.ntmps81 rfl fun Q hQ => ?_
  refine seqQ fun Q1 k1 z1 => ?_
  refine wp_region_lit ?_
  refine Y wn rfl (ym (v := .int .i64 x4) (et rfl rfl)) ?_
  refine Y wn rfl (ym (v := .int .i64 x5) (et rfl rfl)) ?_
  refine Y wn rfl (yneq (et rfl rfl) (et rfl rfl)) ?_
  refine wpList_nil ?_
  refine k1 _ _ ?_
  have j1 : ∀ (x15 : List (List Bool)) (f : Nat → Value) (w : World), St w0 (ros) (row 54 rH h2.v y3 :: fam 4 rB y3 x15 :: rs) w → graph_Sets_Join_j1 x15 = some out → Q .normal (fr 21 f) w := by
    intro x15 f w hst hM
    obtain rfl := someI hM
    exact hQ _ _ _ (fin0n Try.results81 ⟨rfl, hst⟩)
  rcases iteS hM with ⟨c16, hM⟩ | ⟨c16, hM⟩
  · refine condF (et rfl rfl) (nF (decide_eq_true c16)) ?_
    refine wp_skip ?_
    exact j1 _ _ _ hst hM
  · refine condT (et rfl rfl) (nT (decide_eq_false c16)) ?_
    obtain ⟨x17, gx17, hM⟩ := bs hM
    obtain ⟨x19, gx19, hM⟩ := bs hM
    obtain ⟨x21, gx21, hM⟩ := bs hM
    obtain ⟨x22, gx22, hM⟩ := bs hM
    obtain ⟨x23, gx23, hM⟩ := bs hM
    obtain ⟨x24, gx24, hM⟩ := bs hM
    obtain ⟨x25, gx25, hM⟩ := bs hM
    refine wp_drawR [0, 0, 3, 7, 0, 0, 0, 96, 224, 0, 511, 1535, 4095, 8191] [11, 13] 2 folM (by kernel_rfl) (by kernel_rfl) (by kernel_rfl) ?_
    replace hst := hst.drew
    refine DRn (l1 := [0, 1, 2, 3, 4, 5, 6, 7, 8, 9, 10]) (l2 := []) (lc := [11]) (by kernel_rfl) (by kernel_rfl) (by kernel_rfl) ?_
    refine Ry rfl rfl wn (ym (v := h2.v) (et rfl rfl)) ?_
    refine Ry rfl rfl wn (ym (v := .int .i64 x4) (et rfl rfl)) ?_
    obtain ⟨h18, gh18⟩ := hst.famI (mtR mhR) gx17
    refine Ry rfl rfl wn (yIa SLH_101 (et rfl rfl) (et rfl rfl) hst (rdO mhR) gh18) ?_
    refine Ry rfl rfl wn (yF1 O_54 (et rfl rfl) hst (rdO mhR) gh18 rfl) ?_
    refine Ry rfl rfl wn (ym (v := .int .i64 x5) (et rfl rfl)) ?_
    refine Ry rfl rfl wn (ym (v := h2.v) (et rfl rfl)) ?_
    refine Ry rfl rfl wn (ym (v := .int .i64 x5) (et rfl rfl)) ?_
    obtain ⟨h20, gh20⟩ := hst.famI (mtR mhR) gx19
    refine Ry rfl rfl wn (yIa SLH_101 (et rfl rfl) (et rfl rfl) hst (rdO mhR) gh20) ?_
    refine Ry rfl rfl wn (yF1 O_54 (et rfl rfl) hst (rdO mhR) gh20 rfl) ?_
    refine Ry rfl rfl wn (ym (v := .int .i64 x4) (et rfl rfl)) ?_
    refine Ry rfl rfl wn (yIs SL_54 (et rfl rfl) (et rfl rfl) hst (rdF (mtR mhR) gh18 gx17) gx21) ?_
    refine Rn QSn ?_
    refine Lc rfl ?_ LAn
    replace hst := hst.pk 2 [1, 0] rfl
    refine LT wn (r_sti (cs := [.bool true]) (hst.foc gh18 gx17) O_4 rfl (et rfl rfl) rfl rfl mkB gx21) ?_
    clear hst
    intro w hst
    replace hst := hst.unfoc' gh18 gx22
    refine DRn (l1 := [12]) (l2 := [9]) (lc := [13]) (by kernel_rfl) (by kernel_rfl) (by kernel_rfl) ?_
    refine Ry rfl rfl wn (yIs SL_54 (et rfl rfl) (et rfl rfl) hst (rdF mhR gh20 gx23) gx24) ?_
    refine Rn (Sy rfl rfl wn (ym (v := .int .i64 x4) (et rfl rfl)) rfl QSn) ?_
    refine Lc rfl ?_ LAn
    refine LT wn (r_sti (cs := [.bool true]) (hst.foc gh20 gx23) O_4 rfl (et rfl rfl) rfl rfl mkB gx24) ?_
    clear hst
    intro w hst
    replace hst := hst.unfoc' gh20 gx25
    refine DRz (l1 := []) (l2 := []) (by kernel_rfl) (by kernel_rfl) ?_
    refine Rn QSn ?_
    exact j1 _ _ _ (hst.pk 2 [1, 0] rfl) hM

theorem graph_Sets_List_ok {w0 : World} {ros : List Fact} {rs : List Res} {w : World} {x1 : List (List Bool)} {x3 : Int} {h2 : Hdr} {out : (List Int)} (hM : graph_Sets_List x1 x3 = some out) (q1 : imm (rS rB) h2.v x1 ∈ ros) (hst : St w0 ros (rs) w) :
    Calls Try.prog 103 #[h2.v, .int .i64 x3] w (fun e w => ∃ (h100001 : Hdr), e = .returned (h100001.v) ∧ St w0 (ros) (row 3 (rI .i64) h100001.v out :: rs) w) := by
  refine enterQ Try.func103 rfl Try.ntmps103 rfl fun Q hQ => ?_
  refine seqQ fun Q1 k1 z1 => ?_
  refine wp_region_lit ?_
  refine Y wn rfl (ya (v := hnil.v) rfl) ?_
  refine wpList_nil ?_
  refine k1 _ _ ?_
  refine seqQ fun Q2 k2 z2 => ?_
  refine wp_region_lit ?_
  refine Y wn rfl (ya (v := hnil.v) rfl) ?_
  refine wpList_nil ?_
  refine k2 _ _ ?_
  refine seqQ fun Q3 k3 z3 => ?_
  refine seqQ fun Q4 k4 z4 => ?_
  refine wp_region_lit ?_
  refine Y wn rfl (ym (v := h2.v) (et rfl rfl)) ?_
  refine Y wn rfl (ym (v := .int .i64 x3) (et rfl rfl)) ?_
  obtain ⟨x4, gx4, hM⟩ := bs hM
  refine Y wn rfl (yIa SL_101 (et rfl rfl) (et rfl rfl) hst (rdI q1) gx4) ?_
  obtain ⟨h5, hst⟩ := iLs hst q1 gx4
  refine Y wn rfl (yCt O_54 (et rfl rfl) hst (mtF mhF) rfl) ?_
  refine Y wn rfl (yLen SL_54 (et rfl rfl) hst (rdI mhF)) ?_
  refine Y wn rfl (ym (v := .int .i64 0) rfl) ?_
  refine wpList_nil ?_
  refine k4 _ _ ?_
  refine blockQ fun Q5 qb5 => ?_
  obtain ⟨o3, go3, hM⟩ := bs hM
  have je3_0 : ∀ (x35 : List Int) (h34 : Hdr) (f : Nat → Value) (w : World), f 5 = h34.v → St w0 (ros) (row 3 (rI .i64) h34.v x35 :: rs) w → x35 = o3 → Q5 (.exit 0) (fr 25 f) w := by
    intro x35 h34 f w eje3_0_5 hst ho
    subst ho
    refine qb5 _ _ _ ?_
    refine k3 _ _ ?_
    refine seqQ fun Q18 k18 z18 => ?_
    refine wp_region_lit ?_
    refine Y wn rfl (ym (v := h34.v) (et rfl eje3_0_5)) ?_
    refine Y wn rfl (ya (v := h34.v) (et rfl rfl)) ?_
    refine wpList_nil ?_
    refine k18 _ _ ?_
    refine wp_ret ?_
    obtain rfl := someI hM
    exact hQ _ _ _ (fin1r Try.results103 ⟨rfl, rfl⟩ ⟨_, rfl, hst⟩)
  replace hst := hst.rowNh 3 (rI .i64)
  refine loopQ (fun s a w => ∃ (x18 : List Int) (x19 : Int) (f : Nat → Value) (h17 : Hdr), (x18, x19) = s ∧ a = fr 25 f ∧ f 5 = h17.v ∧ f 11 = h5.v ∧ f 12 = .int .i64 (x4.length : Int) ∧ f 13 = .int .i64 x19 ∧ St w0 (imm rB h5.v x4 :: ros) (row 3 (rI .i64) h17.v x18 :: rs) w) go3 ⟨_, _, _, _, rfl, rfl, rfl, rfl, rfl, rfl, (hst.facts (allC mhF (allT (allT allI))))⟩ ?_
  clear hst
  rintro _ _ w r3_ ⟨x18, x19, f, h17, rfl, rfl, e3_5, e3_11, e3_12, e3_13, hst⟩ hM3 ho3 Q100003 n3 zz3
  refine seqQ fun Q19 k19 z19 => ?_
  refine wp_region_lit ?_
  refine Y wn rfl (ylss (et rfl e3_13) (et rfl e3_12)) ?_
  refine wpList_nil ?_
  refine k19 _ _ ?_
  refine seqQ fun Q20 k20 z20 => ?_
  rcases iteS hM3 with ⟨c36, hM3⟩ | ⟨c36, hM3⟩
  · refine condT (et rfl rfl) (decide_eq_true c36) ?_
    refine wp_skip ?_
    refine k20 _ _ ?_
    refine seqQ fun Q21 k21 z21 => ?_
    refine blockQ fun Q22 qb22 => ?_
    refine seqQ fun Q23 k23 z23 => ?_
    refine wp_region_lit ?_
    refine Y wn rfl (ym (v := .int .i64 x19) (et rfl e3_13)) ?_
    obtain ⟨x37, gx37, hM3⟩ := bs hM3
    refine Y wn rfl (yIa SL_54 (et rfl e3_11) (et rfl e3_13) hst (rdI mhF) gx37) ?_
    refine Y wn rfl (yB O_4 (et rfl rfl) hst (rdI mhF) gx37) ?_
    refine Y wn rfl (ya (v := .int .i64 x19) (et rfl rfl)) ?_
    refine Y wn rfl (ya (v := .bool x37) (et rfl rfl)) ?_
    refine wpList_nil ?_
    refine k23 _ _ ?_
    refine seqQ fun Q24 k24 z24 => ?_
    refine wp_region_lit ?_
    refine Y wn rfl (ym (v := .bool x37) (et rfl rfl)) ?_
    refine wpList_nil ?_
    refine k24 _ _ ?_
    have j4 : ∀ (x42 : List Int) (h41 : Hdr) (f : Nat → Value) (w : World), f 5 = h41.v → f 11 = h5.v → f 12 = .int .i64 (x4.length : Int) → f 13 = .int .i64 x19 → St w0 (imm rB h5.v x4 :: ros) (row 3 (rI .i64) h41.v x42 :: rs) w → graph_Sets_List_j4 x19 x42 = some r3_ → Q22 .normal (fr 25 f) w := by
      intro x42 h41 f w ej4_5 ej4_11 ej4_12 ej4_13 hst hM
      refine qb22 _ _ _ ?_
      refine k21 _ _ ?_
      refine wp_region_lit ?_
      refine Y wn rfl (yadd (et rfl ej4_13) rfl) ?_
      refine Y wn rfl (ym (v := .int .i64 (wa .i64 x19 1)) (et rfl rfl)) ?_
      refine wpList_nil ?_
      obtain rfl := someI hM
      exact n3 _ _ _ rfl ⟨_, _, _, _, rfl, rfl, ej4_5, ej4_11, ej4_12, rfl, hst⟩
    rcases iteS hM3 with ⟨c43, hM3⟩ | ⟨c43, hM3⟩
    · refine condT (et rfl rfl) c43 ?_
      refine wp_region_lit ?_
      refine Y wn rfl (ym (v := h17.v) (et rfl e3_5)) ?_
      refine Y wn rfl (ym (v := .int .i64 x19) (et rfl rfl)) ?_
      refine YH wn rfl (rLt (n := 1) (l := [x19]) hst SL_22 [.int .i64 x19] (bp1 (et rfl rfl)) rfl rfl (mks1 (cs := [.int .i64 x19]) rfl mkI mks0)) ?_
      clear hst
      intro h44 w hst
      obtain ⟨x46, gx46, hM3⟩ := bs hM3
      replace hst := hst.pk 2 [1, 0] rfl
      refine YH wn rfl (rAp hst SL_22 (et rfl rfl) (et rfl rfl) (rdO (mtR mhR)) gx46) ?_
      clear hst
      intro h45 w hst
      refine Y wn rfl (ya (v := h45.v) (et rfl rfl)) ?_
      refine wpList_nil ?_
      exact j4 _ _ _ _ rfl e3_11 e3_12 e3_13 (hst.pk 2 [0] rfl) hM3
    · refine condF (et rfl rfl) (bfalse c43) ?_
      refine wp_skip ?_
      exact j4 _ _ _ _ e3_5 e3_11 e3_12 e3_13 hst hM3
  · refine condF (et rfl rfl) (decide_eq_false c36) ?_
    refine wp_exit ?_
    refine z20 _ _ _ rfl ?_
    obtain rfl := someI hM3
    refine zz3 _ _ _ _ rfl rfl ?_
    exact je3_0 _ _ _ _ e3_5 (hst.facts (allT allI)) (ho3 _ rfl)

theorem graph_Sets_Graph_ok {w0 : World} {ros : List Fact} {rs : List Res} {w : World} {x1 : List (List Bool)} {h2 : Hdr} {out : (List (List Int))} (hM : graph_Sets_Graph x1 = some out) (q1 : imm (rS rB) h2.v x1 ∈ ros) (hst : St w0 ros (rs) w) :
    Calls Try.prog 82 #[h2.v] w (fun e w => ∃ (h100001 : Hdr), e = .returned (.agg #[h100001.v]) ∧ St w0 (ros) (row 22 (rS (rI .i64)) h100001.v out :: rs) w) := by
  refine enterQ Try.func82 rfl Try.ntmps82 rfl fun Q hQ => ?_
  refine seqQ fun Q1 k1 z1 => ?_
  refine wp_region_lit ?_
  refine YB wn rfl (rAl hst ZT_27) ?_
  clear hst
  intro b3 w hst
  refine wpList_nil ?_
  refine k1 _ _ ?_
  refine seqQ fun Q2 k2 z2 => ?_
  refine wp_region_lit ?_
  refine Y wn rfl (ym (v := h2.v) (et rfl rfl)) ?_
  refine Y wn rfl (yLen SL_101 (et rfl rfl) hst (rdI q1)) ?_
  obtain ⟨x6, gx6, hM⟩ := bs hM
  refine YH wn rfl (rMk hst SL_25 (et rfl rfl) gx6) ?_
  clear hst
  intro h4 w hst
  refine Y wn rfl (ybuild (us := [h4.v]) [(0, h4.v)] SO_27 (bp1 (et rfl rfl)) rfl) ?_
  refine YB wn rfl (rAl hst ZT_27) ?_
  clear hst
  intro b7 w hst
  refine YT wn rfl (r_stbn (vals' := [h4.v]) (us := [h4.v]) hst ST_27 (et rfl rfl) (et rfl rfl) rfl rfl (one_of rfl) rfl) ?_
  clear hst
  intro w hst
  refine wpList_nil ?_
  refine k2 _ _ ?_
  refine seqQ fun Q3 k3 z3 => ?_
  refine seqQ fun Q4 k4 z4 => ?_
  refine wp_region_lit ?_
  refine Y wn rfl (ym (v := h2.v) (et rfl rfl)) ?_
  refine Y wn rfl (yLen SL_101 (et rfl rfl) hst (rdI q1)) ?_
  refine Y wn rfl (ym (v := .int .i64 0) rfl) ?_
  refine wpList_nil ?_
  refine k4 _ _ ?_
  refine blockQ fun Q5 qb5 => ?_
  obtain ⟨o1, go1, hM⟩ := bs hM
  have je1_0 : ∀ (x20 : List (List Int)) (f : Nat → Value) (w : World), f 2 = .pointer (some ⟨b3, 0, none⟩) → f 3 = .pointer (some ⟨b7, 0, none⟩) → St w0 (ros) (box b3 27 [hnil.v] :: row 22 (rS (rI .i64)) h4.v x20 :: box b7 27 [h4.v] :: rs) w → x20 = o1 → Q5 (.exit 0) (fr 23 f) w := by
    intro x20 f w eje1_0_2 eje1_0_3 hst ho
    subst ho
    refine qb5 _ _ _ ?_
    refine k3 _ _ ?_
    refine seqQ fun Q16 k16 z16 => ?_
    refine wp_region_lit ?_
    refine Y wn rfl (yLbs (us := [h4.v]) ST_27 (et rfl eje1_0_3) hst (mtR (mtR mhR)) rfl rfl) ?_
    refine YT wn rfl (r_stbn (vals' := [h4.v]) (us := [h4.v]) hst ST_27 (et rfl eje1_0_2) (et rfl rfl) rfl rfl (one_of rfl) rfl) ?_
    clear hst
    intro w hst
    refine wpList_nil ?_
    refine k16 _ _ ?_
    refine wp_ret ?_
    obtain rfl := someI hM
    exact hQ _ _ _ (fin1r Try.results82 (rcs2 rfl eje1_0_2 hst mhR ST_27 rfl) ⟨_, rfl, (hst.pk 3 [1] rfl)⟩)
  refine loopQ (fun s a w => ∃ (x12 : List (List Int)) (x13 : Int) (f : Nat → Value), (x12, x13) = s ∧ a = fr 23 f ∧ f 0 = h2.v ∧ f 2 = .pointer (some ⟨b3, 0, none⟩) ∧ f 3 = .pointer (some ⟨b7, 0, none⟩) ∧ f 10 = .int .i64 (x1.length : Int) ∧ f 11 = .int .i64 x13 ∧ St w0 (ros) (box b3 27 [hnil.v] :: row 22 (rS (rI .i64)) h4.v x12 :: box b7 27 [h4.v] :: rs) w) go1 ⟨_, _, _, rfl, rfl, rfl, rfl, rfl, rfl, rfl, (hst.pk 3 [2, 1, 0] rfl)⟩ ?_
  clear hst
  rintro _ _ w r1_ ⟨x12, x13, f, rfl, rfl, e1_0, e1_2, e1_3, e1_10, e1_11, hst⟩ hM1 ho1 Q100001 n1 zz1
  refine seqQ fun Q17 k17 z17 => ?_
  refine wp_region_lit ?_
  refine Y wn rfl (ylss (et rfl e1_11) (et rfl e1_10)) ?_
  refine wpList_nil ?_
  refine k17 _ _ ?_
  refine seqQ fun Q18 k18 z18 => ?_
  rcases iteS hM1 with ⟨c21, hM1⟩ | ⟨c21, hM1⟩
  · refine condT (et rfl rfl) (decide_eq_true c21) ?_
    refine wp_skip ?_
    refine k18 _ _ ?_
    refine seqQ fun Q19 k19 z19 => ?_
    refine blockQ fun Q20 qb20 => ?_
    refine seqQ fun Q21 k21 z21 => ?_
    refine wp_region_lit ?_
    refine Y wn rfl (ym (v := .int .i64 x13) (et rfl e1_11)) ?_
    refine Y wn rfl (ya (v := .int .i64 x13) (et rfl rfl)) ?_
    refine wpList_nil ?_
    refine k21 _ _ ?_
    obtain ⟨r22, gr22, hM1⟩ := bs hM1
    obtain ⟨x24, gx24, hM1⟩ := bs hM1
    refine wp_drawR [0, 1, 0, 0, 0, 24, 63, 127] [5, 7] 2 folM (by kernel_rfl) (by kernel_rfl) (by kernel_rfl) ?_
    replace hst := hst.drew
    refine DRn (l1 := [0, 1, 2, 3, 4]) (l2 := []) (lc := [5]) (by kernel_rfl) (by kernel_rfl) (by kernel_rfl) ?_
    refine Ry rfl rfl wn (yFb FL_27_0 (et rfl e1_3)) ?_
    refine Ry rfl rfl wn (yLb (u := h4.v) O_25 (et rfl rfl) hst (mtR (mtR mhR)) rfl) ?_
    refine Ry rfl rfl wn (ym (v := .int .i64 x13) (et rfl rfl)) ?_
    refine Ry rfl rfl wn (ym (v := h2.v) (et rfl e1_0)) ?_
    refine Ry rfl rfl wn (ym (v := .int .i64 x13) (et rfl rfl)) ?_
    refine Rn QSn ?_
    refine Lc rfl ?_ LAn
    refine Lk wn (yCall FN_103 (a2 (et rfl rfl) (et rfl rfl))) (graph_Sets_List_ok (hM := gr22) (hst := hst) (q1 := q1)) ?_
    clear hst
    rintro _ w ⟨h23, rfl, hst⟩
    refine ⟨_, rfl, ?_⟩
    refine DRn (l1 := [6]) (l2 := [0, 1, 2]) (lc := [7]) (by kernel_rfl) (by kernel_rfl) (by kernel_rfl) ?_
    refine Ry rfl rfl wn (yIs SL_25 (et rfl rfl) (et rfl rfl) hst (rdO (mtR (mtR mhR))) gx24) ?_
    refine Rn (Sy rfl rfl wn (yFb FL_27_0 (et rfl e1_3)) rfl (Sy rfl rfl wn (yLb (u := h4.v) O_25 (et rfl rfl) hst (mtR (mtR (mtR mhR))) rfl) rfl (Sy rfl rfl wn (ym (v := .int .i64 x13) (et rfl rfl)) rfl QSn))) ?_
    refine Lc rfl ?_ LAn
    replace hst := hst.fz
    replace hst := hst.pk 2 [1, 0] rfl
    refine LT wn (r_sti (cs := [h23.v]) hst O_22 rfl (et rfl rfl) (et rfl rfl) rfl (mkS mhF) gx24) ?_
    clear hst
    intro w hst
    refine DRz (l1 := []) (l2 := []) (by kernel_rfl) (by kernel_rfl) ?_
    refine Rn QSn ?_
    refine qb20 _ _ _ ?_
    refine k19 _ _ ?_
    refine wp_region_lit ?_
    refine Y wn rfl (yadd (et rfl e1_11) rfl) ?_
    refine Y wn rfl (ym (v := .int .i64 (wa .i64 x13 1)) (et rfl rfl)) ?_
    refine wpList_nil ?_
    obtain rfl := someI hM1
    exact n1 _ _ _ rfl ⟨_, _, _, rfl, rfl, e1_0, e1_2, e1_3, e1_10, rfl, ((hst.pk 3 [1, 0, 0] rfl).facts (allT allI))⟩
  · refine condF (et rfl rfl) (decide_eq_false c21) ?_
    refine wp_exit ?_
    refine z18 _ _ _ rfl ?_
    obtain rfl := someI hM1
    refine zz1 _ _ _ _ rfl rfl ?_
    exact je1_0 _ _ _ e1_2 e1_3 hst (ho1 _ rfl)

theorem graph_induced_ok {w0 : World} {ros : List Fact} {rs : List Res} {w : World} {x1 : List (List Int)} {x3 : List Int} {h2 : Hdr} {h4 : Hdr} {out : (List (List Int))} (hM : graph_induced x1 x3 = some out) (q1 : imm (rS (rI .i64)) h2.v x1 ∈ ros) (q2 : imm (rI .i64) h4.v x3 ∈ ros) (hst : St w0 ros (rs) w) :
    Calls Try.prog 57 #[.agg #[h2.v], h4.v] w (fun e w => ∃ (h100001 : Hdr), e = .returned (.agg #[h100001.v]) ∧ St w0 (ros) (row 22 (rS (rI .i64)) h100001.v out :: rs) w) := by
  refine enterQ Try.func57 rfl Try.ntmps57 rfl fun Q hQ => ?_
  refine seqQ fun Q1 k1 z1 => ?_
  refine wp_region_lit ?_
  refine YB wn rfl (r_box (vals := [h2.v]) hst (et rfl rfl) rfl) ?_
  clear hst
  intro b5 w hst
  refine YB wn rfl (rAl hst ZT_27) ?_
  clear hst
  intro b6 w hst
  refine wpList_nil ?_
  refine k1 _ _ ?_
  refine seqQ fun Q2 k2 z2 => ?_
  refine wp_region_lit ?_
  refine Y wn rfl (ym (v := h4.v) (et rfl rfl)) ?_
  refine Y wn rfl (yLen SL_22 (et rfl rfl) hst (rdI q2)) ?_
  obtain ⟨r7, gr7, hM⟩ := bs hM
  refine Yc wn rfl (yCall FN_80 (a1 (et rfl rfl))) (graph_NewSets_ok (hM := gr7) (hst := hst) ) ?_
  clear hst
  rintro _ w ⟨h8, y9, rfl, hst⟩
  refine ⟨_, rfl, ?_⟩
  refine Y wn rfl (ya (v := h8.v) (et rfl rfl)) ?_
  refine wpList_nil ?_
  refine k2 _ _ ?_
  refine seqQ fun Q3 k3 z3 => ?_
  refine seqQ fun Q4 k4 z4 => ?_
  refine wp_region_lit ?_
  refine Y wn rfl (ym (v := h4.v) (et rfl rfl)) ?_
  refine Y wn rfl (yLen SL_22 (et rfl rfl) hst (rdI q2)) ?_
  refine Y wn rfl (ym (v := .int .i64 0) rfl) ?_
  refine wpList_nil ?_
  refine k4 _ _ ?_
  refine blockQ fun Q5 qb5 => ?_
  obtain ⟨o9, go9, hM⟩ := bs hM
  have je9_0 : ∀ (x72 : List (List Bool)) (f : Nat → Value) (w : World), f 4 = .pointer (some ⟨b6, 0, none⟩) → f 5 = h8.v → St w0 (ros) (box b6 27 [hnil.v] :: row 54 rH h8.v y9 :: fam 4 rB y9 x72 :: rs) w → x72 = o9 → Q5 (.exit 0) (fr 41 f) w := by
    intro x72 f w eje9_0_4 eje9_0_5 hst ho
    subst ho
    refine qb5 _ _ _ ?_
    refine k3 _ _ ?_
    refine seqQ fun Q56 k56 z56 => ?_
    refine wp_region_lit ?_
    refine Y wn rfl (ym (v := h8.v) (et rfl eje9_0_5)) ?_
    obtain ⟨r73, gr73, hM⟩ := bs hM
    replace hst := hst.pk 3 [1, 1, 0] rfl
    replace hst := hst.ffz
    refine Yc wn rfl (yCall FN_82 (a1 (et rfl rfl))) (graph_Sets_Graph_ok (hM := gr73) (hst := hst) (q1 := mhF)) ?_
    clear hst
    rintro _ w ⟨h74, rfl, hst⟩
    refine ⟨_, rfl, ?_⟩
    replace hst := hst.pk 2 [1, 0] rfl
    refine YT wn rfl (r_stbn (vals' := [h74.v]) (us := [h74.v]) hst ST_27 (et rfl eje9_0_4) (et rfl rfl) rfl rfl (one_of rfl) rfl) ?_
    clear hst
    intro w hst
    refine wpList_nil ?_
    refine k56 _ _ ?_
    refine wp_ret ?_
    obtain rfl := someI hM
    exact hQ _ _ _ (fin1r Try.results57 (rcs2 rfl eje9_0_4 hst mhR ST_27 rfl) ⟨_, rfl, ((hst.pk 2 [1] rfl).facts (allT allI))⟩)
  refine loopQ (fun s a w => ∃ (x39 : List (List Bool)) (x40 : Int) (f : Nat → Value), (x39, x40) = s ∧ a = fr 41 f ∧ f 1 = h4.v ∧ f 2 = .pointer (some ⟨b5, 0, none⟩) ∧ f 4 = .pointer (some ⟨b6, 0, none⟩) ∧ f 5 = h8.v ∧ f 13 = h4.v ∧ f 14 = .int .i64 (x3.length : Int) ∧ f 15 = .int .i64 x40 ∧ St w0 (ros) (box b5 27 [h2.v] :: box b6 27 [hnil.v] :: row 54 rH h8.v y9 :: fam 4 rB y9 x39 :: rs) w) go9 ⟨_, _, _, rfl, rfl, rfl, rfl, rfl, rfl, rfl, rfl, rfl, (hst.pk 4 [3, 2, 0, 0] rfl)⟩ ?_
  clear hst
  rintro _ _ w r9_ ⟨x39, x40, f, rfl, rfl, e9_1, e9_2, e9_4, e9_5, e9_13, e9_14, e9_15, hst⟩ hM9 ho9 Q100009 n9 zz9
  refine seqQ fun Q57 k57 z57 => ?_
  refine wp_region_lit ?_
  refine Y wn rfl (ylss (et rfl e9_15) (et rfl e9_14)) ?_
  refine wpList_nil ?_
  refine k57 _ _ ?_
  refine seqQ fun Q58 k58 z58 => ?_
  rcases iteS hM9 with ⟨c75, hM9⟩ | ⟨c75, hM9⟩
  · refine condT (et rfl rfl) (decide_eq_true c75) ?_
    refine wp_skip ?_
    refine k58 _ _ ?_
    refine seqQ fun Q59 k59 z59 => ?_
    refine blockQ fun Q60 qb60 => ?_
    refine seqQ fun Q61 k61 z61 => ?_
    refine wp_region_lit ?_
    refine Y wn rfl (ym (v := .int .i64 x40) (et rfl e9_15)) ?_
    obtain ⟨x76, gx76, hM9⟩ := bs hM9
    refine Y wn rfl (yIa SL_22 (et rfl e9_13) (et rfl e9_15) hst (rdI q2) gx76) ?_
    refine Y wn rfl (yI O_3 (et rfl rfl) hst (rdI q2) gx76) ?_
    refine Y wn rfl (ya (v := .int .i64 x40) (et rfl rfl)) ?_
    refine Y wn rfl (ya (v := .int .i64 x76) (et rfl rfl)) ?_
    refine wpList_nil ?_
    refine k61 _ _ ?_
    refine seqQ fun Q62 k62 z62 => ?_
    refine wp_region_lit ?_
    refine Y wn rfl (ym (v := h4.v) (et rfl e9_1)) ?_
    refine Y wn rfl (ym (v := .int .i64 x40) (et rfl rfl)) ?_
    obtain ⟨x77, gx77, hM9⟩ := bs hM9
    refine Y wn rfl (ySl (k1 := .i64) SL_22 (et rfl rfl) hst (rdI q2) (.inr ⟨rfl, rfl⟩) (.inl (congrArg some (et rfl rfl))) gx77) ?_
    replace hst := hst.sub q2 gx77
    refine Y wn rfl (yLen SL_22 (et rfl rfl) hst (rdI mhF)) ?_
    refine Y wn rfl (ym (v := .int .i64 0) rfl) ?_
    refine wpList_nil ?_
    refine k62 _ _ ?_
    refine blockQ fun Q63 qb63 => ?_
    obtain ⟨o12, go12, hM9⟩ := bs hM9
    have je12_0 : ∀ (x96 : List (List Bool)) (f : Nat → Value) (w : World), f 1 = h4.v → f 2 = .pointer (some ⟨b5, 0, none⟩) → f 4 = .pointer (some ⟨b6, 0, none⟩) → f 5 = h8.v → f 13 = h4.v → f 14 = .int .i64 (x3.length : Int) → f 15 = .int .i64 x40 → St w0 (ros) (box b5 27 [h2.v] :: box b6 27 [hnil.v] :: row 54 rH h8.v y9 :: fam 4 rB y9 x96 :: rs) w → x96 = o12 → Q63 (.exit 2) (fr 41 f) w := by
      intro x96 f w eje12_0_1 eje12_0_2 eje12_0_4 eje12_0_5 eje12_0_13 eje12_0_14 eje12_0_15 hst ho
      subst ho
      refine qb63 _ _ _ ?_
      refine qb60 _ _ _ ?_
      refine k59 _ _ ?_
      refine wp_region_lit ?_
      refine Y wn rfl (yadd (et rfl eje12_0_15) rfl) ?_
      refine Y wn rfl (ym (v := .int .i64 (wa .i64 x40 1)) (et rfl rfl)) ?_
      refine wpList_nil ?_
      obtain rfl := someI hM9
      exact n9 _ _ _ rfl ⟨_, _, _, rfl, rfl, eje12_0_1, eje12_0_2, eje12_0_4, eje12_0_5, eje12_0_13, eje12_0_14, rfl, hst⟩
    refine loopQ (fun s a w => ∃ (x85 : List (List Bool)) (x86 : Int) (f : Nat → Value), (x85, x86) = s ∧ a = fr 41 f ∧ f 1 = h4.v ∧ f 2 = .pointer (some ⟨b5, 0, none⟩) ∧ f 4 = .pointer (some ⟨b6, 0, none⟩) ∧ f 5 = h8.v ∧ f 6 = .int .i64 x40 ∧ f 7 = .int .i64 x76 ∧ f 13 = h4.v ∧ f 14 = .int .i64 (x3.length : Int) ∧ f 15 = .int .i64 x40 ∧ f 22 = (subH h4 1 0 x40).v ∧ f 23 = .int .i64 (x77.length : Int) ∧ f 24 = .int .i64 x86 ∧ St w0 (imm (rI .i64) (subH h4 1 0 x40).v x77 :: ros) (box b5 27 [h2.v] :: box b6 27 [hnil.v] :: row 54 rH h8.v y9 :: fam 4 rB y9 x85 :: rs) w) go12 ⟨_, _, _, rfl, rfl, e9_1, e9_2, e9_4, e9_5, rfl, rfl, e9_13, e9_14, e9_15, rfl, rfl, rfl, hst⟩ ?_
    clear hst
    rintro _ _ w r12_ ⟨x85, x86, f, rfl, rfl, e12_1, e12_2, e12_4, e12_5, e12_6, e12_7, e12_13, e12_14, e12_15, e12_22, e12_23, e12_24, hst⟩ hM12 ho12 Q100012 n12 zz12
    refine seqQ fun Q76 k76 z76 => ?_
    refine wp_region_lit ?_
    refine Y wn rfl (ylss (et rfl e12_24) (et rfl e12_23)) ?_
    refine wpList_nil ?_
    refine k76 _ _ ?_
    refine seqQ fun Q77 k77 z77 => ?_
    rcases iteS hM12 with ⟨c97, hM12⟩ | ⟨c97, hM12⟩
    · refine condT (et rfl rfl) (decide_eq_true c97) ?_
      refine wp_skip ?_
      refine k77 _ _ ?_
      refine seqQ fun Q78 k78 z78 => ?_
      refine blockQ fun Q79 qb79 => ?_
      refine seqQ fun Q80 k80 z80 => ?_
      refine wp_region_lit ?_
      refine Y wn rfl (ym (v := .int .i64 x86) (et rfl e12_24)) ?_
      obtain ⟨x98, gx98, hM12⟩ := bs hM12
      refine Y wn rfl (yIa SL_22 (et rfl e12_22) (et rfl e12_24) hst (rdI mhF) gx98) ?_
      refine Y wn rfl (yI O_3 (et rfl rfl) hst (rdI mhF) gx98) ?_
      refine Y wn rfl (ya (v := .int .i64 x86) (et rfl rfl)) ?_
      refine Y wn rfl (ya (v := .int .i64 x98) (et rfl rfl)) ?_
      refine wpList_nil ?_
      refine k80 _ _ ?_
      refine seqQ fun Q81 k81 z81 => ?_
      refine wp_region_lit ?_
      refine Y wn rfl (yLbs (us := [h2.v]) ST_27 (et rfl e12_2) hst mhR rfl rfl) ?_
      refine Y wn rfl (ym (v := .int .i64 x76) (et rfl e12_7)) ?_
      refine Y wn rfl (ym (v := .int .i64 x98) (et rfl rfl)) ?_
      obtain ⟨r99, gr99, hM12⟩ := bs hM12
      refine Yc wn rfl (yCall FN_60 (a3 (et rfl rfl) (et rfl rfl) (et rfl rfl))) (graph_joined_ok (hM := gr99) (hst := hst) (q1 := (mtF q1))) ?_
      clear hst
      rintro _ w ⟨rfl, hst⟩
      refine ⟨_, rfl, ?_⟩
      refine wpList_nil ?_
      refine k81 _ _ ?_
      have j13 : ∀ (x101 : List (List Bool)) (f : Nat → Value) (w : World), f 1 = h4.v → f 2 = .pointer (some ⟨b5, 0, none⟩) → f 4 = .pointer (some ⟨b6, 0, none⟩) → f 5 = h8.v → f 6 = .int .i64 x40 → f 7 = .int .i64 x76 → f 13 = h4.v → f 14 = .int .i64 (x3.length : Int) → f 15 = .int .i64 x40 → f 22 = (subH h4 1 0 x40).v → f 23 = .int .i64 (x77.length : Int) → f 24 = .int .i64 x86 → St w0 (imm (rI .i64) (subH h4 1 0 x40).v x77 :: ros) (box b5 27 [h2.v] :: box b6 27 [hnil.v] :: row 54 rH h8.v y9 :: fam 4 rB y9 x101 :: rs) w → graph_induced_j13 x86 x101 = some r12_ → Q79 .normal (fr 41 f) w := by
        intro x101 f w ej13_1 ej13_2 ej13_4 ej13_5 ej13_6 ej13_7 ej13_13 ej13_14 ej13_15 ej13_22 ej13_23 ej13_24 hst hM
        refine qb79 _ _ _ ?_
        refine k78 _ _ ?_
        refine wp_region_lit ?_
        refine Y wn rfl (yadd (et rfl ej13_24) rfl) ?_
        refine Y wn rfl (ym (v := .int .i64 (wa .i64 x86 1)) (et rfl rfl)) ?_
        refine wpList_nil ?_
        obtain rfl := someI hM
        exact n12 _ _ _ rfl ⟨_, _, _, rfl, rfl, ej13_1, ej13_2, ej13_4, ej13_5, ej13_6, ej13_7, ej13_13, ej13_14, ej13_15, ej13_22, ej13_23, rfl, hst⟩
      rcases iteS hM12 with ⟨c102, hM12⟩ | ⟨c102, hM12⟩
      · refine condT (et rfl rfl) c102 ?_
        refine wp_region_lit ?_
        refine Y wn rfl (ym (v := h8.v) (et rfl e12_5)) ?_
        refine Y wn rfl (ym (v := .int .i64 x40) (et rfl e12_6)) ?_
        refine Y wn rfl (ym (v := .int .i64 x86) (et rfl rfl)) ?_
        obtain ⟨r103, gr103, hM12⟩ := bs hM12
        replace hst := hst.pk 4 [2, 2, 0, 0] rfl
        refine Yc wn rfl (yCall FN_81 (a3 (et rfl rfl) (et rfl rfl) (et rfl rfl))) (graph_Sets_Join_ok (hM := gr103) (hst := hst) ) ?_
        clear hst
        rintro _ w ⟨rfl, hst⟩
        refine ⟨_, rfl, ?_⟩
        refine wpList_nil ?_
        exact j13 _ _ _ e12_1 e12_2 e12_4 e12_5 e12_6 e12_7 e12_13 e12_14 e12_15 e12_22 e12_23 e12_24 (hst.pk 4 [2, 2, 0, 0] rfl) hM12
      · refine condF (et rfl rfl) (bfalse c102) ?_
        refine wp_skip ?_
        exact j13 _ _ _ e12_1 e12_2 e12_4 e12_5 e12_6 e12_7 e12_13 e12_14 e12_15 e12_22 e12_23 e12_24 hst hM12
    · refine condF (et rfl rfl) (decide_eq_false c97) ?_
      refine wp_exit ?_
      refine z77 _ _ _ rfl ?_
      obtain rfl := someI hM12
      refine zz12 _ _ _ _ rfl rfl ?_
      exact je12_0 _ _ _ e12_1 e12_2 e12_4 e12_5 e12_13 e12_14 e12_15 (hst.facts (allT allI)) (ho12 _ rfl)
  · refine condF (et rfl rfl) (decide_eq_false c75) ?_
    refine wp_exit ?_
    refine z58 _ _ _ rfl ?_
    obtain rfl := someI hM9
    refine zz9 _ _ _ _ rfl rfl ?_
    exact je9_0 _ _ _ e9_4 e9_5 (hst.pk 4 [1, 1, 1] rfl) (ho9 _ rfl)

theorem graph_Relabel_ok {w0 : World} {ros : List Fact} {rs : List Res} {w : World} {x1 : List (List Int)} {x3 : List Int} {h2 : Hdr} {h4 : Hdr} {out : (List (List Int)) × Int} (hM : graph_Relabel x1 x3 = some out) (q1 : imm (rS (rI .i64)) h2.v x1 ∈ ros) (q2 : imm (rI .i64) h4.v x3 ∈ ros) (hst : St w0 ros (rs) w) :
    Calls Try.prog 34 #[.agg #[h2.v], h4.v] w (fun e w => ∃ (h100001 : Hdr), e = .returned (.tuple #[.agg #[h100001.v], .int .i64 out.2]) ∧ St w0 (ros) (row 22 (rS (rI .i64)) h100001.v out.1 :: rs) w) := by
  refine enterQ Try.func34 rfl Try.ntmps34 rfl fun Q hQ => ?_
  refine seqQ fun Q1 k1 z1 => ?_
  refine wp_region_lit ?_
  refine YB wn rfl (r_box (vals := [h2.v]) hst (et rfl rfl) rfl) ?_
  clear hst
  intro b5 w hst
  refine YB wn rfl (rAl hst ZT_27) ?_
  clear hst
  intro b6 w hst
  refine Y wn rfl (ya (v := .int .i64 0) rfl) ?_
  refine wpList_nil ?_
  refine k1 _ _ ?_
  refine seqQ fun Q2 k2 z2 => ?_
  refine wp_region_lit ?_
  refine Y wn rfl (yLbs (us := [h2.v]) ST_27 (et rfl rfl) hst (mtR mhR) rfl rfl) ?_
  refine Y wn rfl (ym (v := h4.v) (et rfl rfl)) ?_
  obtain ⟨r7, gr7, hM⟩ := bs hM
  refine Yc wn rfl (yCall FN_56 (a2 (et rfl rfl) (et rfl rfl))) (graph_Permuted_ok (hM := gr7) (hst := hst) (q1 := q1) (q2 := q2)) ?_
  clear hst
  rintro _ w ⟨rfl, hst⟩
  refine ⟨_, rfl, ?_⟩
  refine Y wn rfl (ya (v := .int .i64 r7) (et rfl rfl)) ?_
  refine wpList_nil ?_
  refine k2 _ _ ?_
  refine seqQ fun Q3 k3 z3 => ?_
  refine seqQ fun Q4 k4 z4 => ?_
  refine wp_region_lit ?_
  refine Y wn rfl (ym (v := .int .i64 r7) (et rfl rfl)) ?_
  refine Y wn rfl (yneq (et rfl rfl) rfl) ?_
  refine wpList_nil ?_
  refine k4 _ _ ?_
  rcases iteS hM with ⟨c8, hM⟩ | ⟨c8, hM⟩
  · refine condF (et rfl rfl) (nF (decide_eq_true c8)) ?_
    refine wp_skip ?_
    refine k3 _ _ ?_
    refine seqQ fun Q5 k5 z5 => ?_
    refine wp_region_lit ?_
    refine Y wn rfl (yLbs (us := [h2.v]) ST_27 (et rfl rfl) hst (mtR mhR) rfl rfl) ?_
    refine Y wn rfl (ym (v := h4.v) (et rfl rfl)) ?_
    obtain ⟨r9, gr9, hM⟩ := bs hM
    refine Yc wn rfl (yCall FN_57 (a2 (et rfl rfl) (et rfl rfl))) (graph_induced_ok (hM := gr9) (hst := hst) (q1 := q1) (q2 := q2)) ?_
    clear hst
    rintro _ w ⟨h10, rfl, hst⟩
    refine ⟨_, rfl, ?_⟩
    replace hst := hst.pk 2 [1, 0] rfl
    refine YT wn rfl (r_stbn (vals' := [h10.v]) (us := [h10.v]) hst ST_27 (et rfl rfl) (et rfl rfl) rfl rfl (one_of rfl) rfl) ?_
    clear hst
    intro w hst
    refine Y wn rfl (ya (v := .int .i64 0) rfl) ?_
    refine wpList_nil ?_
    refine k5 _ _ ?_
    refine wp_ret ?_
    obtain rfl := someI hM
    exact hQ _ _ _ (fin2r Try.results34 (rcs2 rfl rfl hst mhR ST_27 rfl) ⟨rfl, rfl⟩ ⟨_, rfl, (hst.pk 3 [1] rfl)⟩)
  · refine condT (et rfl rfl) (nT (decide_eq_false c8)) ?_
    refine seqQ fun Q6 k6 z6 => ?_
    refine wp_region_lit ?_
    refine Y wn rfl (ybuild (us := [hnil.v]) [] SO_27 bp0 rfl) ?_
    refine Y wn rfl (ym (v := .int .i64 r7) (et rfl rfl)) ?_
    refine YT wn rfl (r_stbn (vals' := [hnil.v]) (us := [hnil.v]) hst ST_27 (et rfl rfl) (et rfl rfl) rfl rfl (one_of rfl) rfl) ?_
    clear hst
    intro w hst
    refine Y wn rfl (ya (v := .int .i64 r7) (et rfl rfl)) ?_
    refine wpList_nil ?_
    refine k6 _ _ ?_
    refine wp_ret ?_
    refine z3 _ _ _ rfl ?_
    obtain rfl := someI hM
    replace hst := hst.rowNh 22 (rS (rI .i64))
    exact hQ _ _ _ (fin2r Try.results34 (rcs2 rfl rfl hst (mtR mhR) ST_27 rfl) ⟨rfl, rfl⟩ ⟨_, rfl, (hst.pk 3 [0] rfl)⟩)

theorem sparseref16_Degrees_ok {w0 : World} {ros : List Fact} {rs : List Res} {w : World} {x1 : List (List Int)} {x3 : List Int} {h2 : Hdr} {h4 : Hdr} {out : (List Int) × Int} (hM : sparseref16_Degrees x1 x3 = some out) (q1 : imm (rS (rI .i64)) h2.v x1 ∈ ros) (q2 : imm (rI .i64) h4.v x3 ∈ ros) (hst : St w0 ros (rs) w) :
    Calls Try.prog 58 #[.agg #[h2.v], h4.v] w (fun e w => ∃ (h100001 : Hdr), e = .returned (.tuple #[h100001.v, .int .i64 out.2]) ∧ St w0 (ros) (row 3 (rI .i64) h100001.v out.1 :: rs) w) := by
  refine enterQ Try.func58 rfl Try.ntmps58 rfl fun Q hQ => ?_
  refine seqQ fun Q1 k1 z1 => ?_
  refine wp_region_lit ?_
  refine YB wn rfl (r_box (vals := [h2.v]) hst (et rfl rfl) rfl) ?_
  clear hst
  intro b5 w hst
  refine Y wn rfl (ya (v := hnil.v) rfl) ?_
  refine Y wn rfl (ya (v := .int .i64 0) rfl) ?_
  refine wpList_nil ?_
  refine k1 _ _ ?_
  refine seqQ fun Q2 k2 z2 => ?_
  refine seqQ fun Q3 k3 z3 => ?_
  refine wp_region_lit ?_
  refine Y wn rfl (yLbs (us := [h2.v]) ST_27 (et rfl rfl) hst mhR rfl rfl) ?_
  obtain ⟨r6, gr6, hM⟩ := bs hM
  refine Yc wn rfl (yCall FN_43 (a1 (et rfl rfl))) (sparseref12_Check_ok (hM := gr6) (hst := hst) (q1 := q1)) ?_
  clear hst
  rintro _ w ⟨rfl, hst⟩
  refine ⟨_, rfl, ?_⟩
  refine Y wn rfl (ya (v := .int .i64 r6) (et rfl rfl)) ?_
  refine wpList_nil ?_
  refine k3 _ _ ?_
  refine seqQ fun Q4 k4 z4 => ?_
  refine wp_region_lit ?_
  refine Y wn rfl (ym (v := .int .i64 r6) (et rfl rfl)) ?_
  refine Y wn rfl (yneq (et rfl rfl) rfl) ?_
  refine wpList_nil ?_
  refine k4 _ _ ?_
  rcases iteS hM with ⟨c7, hM⟩ | ⟨c7, hM⟩
  · refine condF (et rfl rfl) (nF (decide_eq_true c7)) ?_
    refine wp_skip ?_
    refine k2 _ _ ?_
    refine seqQ fun Q5 k5 z5 => ?_
    refine seqQ fun Q6 k6 z6 => ?_
    refine wp_region_lit ?_
    refine Y wn rfl (ym (v := h4.v) (et rfl rfl)) ?_
    refine Y wn rfl (yLen SL_22 (et rfl rfl) hst (rdI q2)) ?_
    refine Y wn rfl (yFb FL_27_0 (et rfl rfl)) ?_
    refine Y wn rfl (yLb (u := h2.v) O_25 (et rfl rfl) hst mhR rfl) ?_
    refine Y wn rfl (yLen SL_25 (et rfl rfl) hst (rdI q1)) ?_
    refine Y wn rfl (yneq (et rfl rfl) (et rfl rfl)) ?_
    refine wpList_nil ?_
    refine k6 _ _ ?_
    rcases iteS hM with ⟨c8, hM⟩ | ⟨c8, hM⟩
    · refine condF (et rfl rfl) (nF (decide_eq_true c8)) ?_
      refine wp_skip ?_
      refine k5 _ _ ?_
      refine seqQ fun Q7 k7 z7 => ?_
      refine seqQ fun Q8 k8 z8 => ?_
      refine wp_region_lit ?_
      refine Y wn rfl (ym (v := h4.v) (et rfl rfl)) ?_
      refine Y wn rfl (yFb FL_27_0 (et rfl rfl)) ?_
      refine Y wn rfl (yLb (u := h2.v) O_25 (et rfl rfl) hst mhR rfl) ?_
      refine Y wn rfl (yLen SL_25 (et rfl rfl) hst (rdI q1)) ?_
      obtain ⟨r9, gr9, hM⟩ := bs hM
      refine Yc wn rfl (yCall FN_26 (a2 (et rfl rfl) (et rfl rfl))) (sparsekit_Perm_ok (hM := gr9) (hst := hst) (q1 := q2)) ?_
      clear hst
      rintro _ w ⟨rfl, hst⟩
      refine ⟨_, rfl, ?_⟩
      refine Y wn rfl (ynot (et rfl rfl)) ?_
      refine wpList_nil ?_
      refine k8 _ _ ?_
      rcases iteS hM with ⟨c10, hM⟩ | ⟨c10, hM⟩
      · refine condF (et rfl rfl) (nF c10) ?_
        refine wp_skip ?_
        refine k7 _ _ ?_
        refine seqQ fun Q9 k9 z9 => ?_
        refine wp_region_lit ?_
        refine Y wn rfl (yLbs (us := [h2.v]) ST_27 (et rfl rfl) hst mhR rfl rfl) ?_
        obtain ⟨r11, gr11, hM⟩ := bs hM
        refine Yc wn rfl (yCall FN_44 (a1 (et rfl rfl))) (sparseref16_Begin_ok (hM := gr11) (hst := hst) (q1 := q1)) ?_
        clear hst
        rintro _ w ⟨b12, h13, y14, h15, rfl, hst⟩
        refine ⟨_, rfl, ?_⟩
        refine Y wn rfl (ya (v := .pointer (some ⟨b12, 0, none⟩)) (et rfl rfl)) ?_
        refine wpList_nil ?_
        refine k9 _ _ ?_
        refine seqQ fun Q10 k10 z10 => ?_
        refine wp_region_lit ?_
        refine Y wn rfl (ya (v := hnil.v) rfl) ?_
        refine wpList_nil ?_
        refine k10 _ _ ?_
        refine seqQ fun Q11 k11 z11 => ?_
        refine seqQ fun Q12 k12 z12 => ?_
        refine wp_region_lit ?_
        refine Y wn rfl (ya (v := .int .i64 0) rfl) ?_
        refine wpList_nil ?_
        refine k12 _ _ ?_
        refine blockQ fun Q13 qb13 => ?_
        obtain ⟨o1, go1, hM⟩ := bs hM
        have je1_0 : ∀ (x45 : List Int) (h44 : Hdr) (f : Nat → Value) (w : World), f 8 = h44.v → St w0 (ros) (row 3 (rI .i64) h44.v x45 :: rs) w → x45 = o1 → Q13 (.exit 0) (fr 52 f) w := by
          intro x45 h44 f w eje1_0_8 hst ho
          subst ho
          refine qb13 _ _ _ ?_
          refine k11 _ _ ?_
          refine seqQ fun Q24 k24 z24 => ?_
          refine wp_region_lit ?_
          refine Y wn rfl (ym (v := h44.v) (et rfl eje1_0_8)) ?_
          refine Y wn rfl (ya (v := h44.v) (et rfl rfl)) ?_
          refine Y wn rfl (ya (v := .int .i64 0) rfl) ?_
          refine wpList_nil ?_
          refine k24 _ _ ?_
          refine wp_ret ?_
          obtain rfl := someI hM
          exact hQ _ _ _ (fin2r Try.results58 ⟨rfl, rfl⟩ ⟨rfl, rfl⟩ ⟨_, rfl, hst⟩)
        replace hst := hst.rowNh 3 (rI .i64)
        refine loopQ (fun s a w => ∃ (x25 : List (List Bool)) (x26 : List Bool) (x28 : List Int) (x29 : Int) (f : Nat → Value) (h27 : Hdr), (x25, x26, x28, x29) = s ∧ a = fr 52 f ∧ f 1 = h4.v ∧ f 7 = .pointer (some ⟨b12, 0, none⟩) ∧ f 8 = h27.v ∧ f 9 = .int .i64 x29 ∧ St w0 (ros) (row 54 rH h13.v y14 :: fam 4 rB y14 x25 :: row 4 rB h15.v x26 :: box b12 89 [h13.v, h15.v] :: row 3 (rI .i64) h27.v x28 :: rs) w) go1 ⟨_, _, _, _, _, _, rfl, rfl, rfl, rfl, rfl, rfl, (hst.pk 6 [1, 1, 1, 1, 0] rfl)⟩ ?_
        clear hst
        rintro _ _ w r1_ ⟨x25, x26, x28, x29, f, h27, rfl, rfl, e1_1, e1_7, e1_8, e1_9, hst⟩ hM1 ho1 Q100001 n1 zz1
        refine seqQ fun Q25 k25 z25 => ?_
        refine seqQ fun Q26 k26 z26 => ?_
        refine wp_region_lit ?_
        refine Y wn rfl (ym (v := .int .i64 x29) (et rfl e1_9)) ?_
        refine Y wn rfl (ym (v := h4.v) (et rfl e1_1)) ?_
        refine Y wn rfl (yLen SL_22 (et rfl rfl) hst (rdI q2)) ?_
        refine Y wn rfl (ylss (et rfl rfl) (et rfl rfl)) ?_
        refine wpList_nil ?_
        refine k26 _ _ ?_
        rcases iteS hM1 with ⟨c46, hM1⟩ | ⟨c46, hM1⟩
        · refine condT (et rfl rfl) (decide_eq_true c46) ?_
          refine wp_skip ?_
          refine k25 _ _ ?_
          refine seqQ fun Q27 k27 z27 => ?_
          refine blockQ fun Q28 qb28 => ?_
          refine seqQ fun Q29 k29 z29 => ?_
          refine wp_region_lit ?_
          refine Y wn rfl (ym (v := h27.v) (et rfl e1_8)) ?_
          refine Y wn rfl (ym (v := .pointer (some ⟨b12, 0, none⟩)) (et rfl e1_7)) ?_
          refine Y wn rfl (ym (v := h4.v) (et rfl e1_1)) ?_
          refine Y wn rfl (ym (v := .int .i64 x29) (et rfl e1_9)) ?_
          obtain ⟨x47, gx47, hM1⟩ := bs hM1
          refine Y wn rfl (yIa SL_22 (et rfl rfl) (et rfl rfl) hst (rdI q2) gx47) ?_
          refine Y wn rfl (yI O_3 (et rfl rfl) hst (rdI q2) gx47) ?_
          obtain ⟨r48, gr48, hM1⟩ := bs hM1
          replace hst := hst.pk 4 [3, 0, 0, 0] rfl
          refine Yc wn rfl (yCall FN_45 (a2 (et rfl rfl) (et rfl rfl))) (sparseref16_Elimination_Neighbours_ok (hM := gr48) (hst := hst) ) ?_
          clear hst
          rintro _ w ⟨h49, rfl, hst⟩
          refine ⟨_, rfl, ?_⟩
          refine Y wn rfl (yLen SL_22 (et rfl rfl) hst (rdO (mtR (mtR (mtR (mtR mhR)))))) ?_
          refine YH wn rfl (rLt (n := 1) (l := [(r48.length : Int)]) hst SL_22 [.int .i64 (r48.length : Int)] (bp1 (et rfl rfl)) rfl rfl (mks1 (cs := [.int .i64 (r48.length : Int)]) rfl mkI mks0)) ?_
          clear hst
          intro h50 w hst
          obtain ⟨x52, gx52, hM1⟩ := bs hM1
          replace hst := hst.pk 7 [6, 0, 0, 0, 0, 0, 0] rfl
          refine YH wn rfl (rAp hst SL_22 (et rfl rfl) (et rfl rfl) (rdO (mtR mhR)) gx52) ?_
          clear hst
          intro h51 w hst
          refine Y wn rfl (ya (v := h51.v) (et rfl rfl)) ?_
          refine wpList_nil ?_
          refine k29 _ _ ?_
          refine wp_region_lit ?_
          refine Y wn rfl (ym (v := .pointer (some ⟨b12, 0, none⟩)) (et rfl e1_7)) ?_
          refine Y wn rfl (ym (v := h4.v) (et rfl e1_1)) ?_
          refine Y wn rfl (ym (v := .int .i64 x29) (et rfl e1_9)) ?_
          obtain ⟨x53, gx53, hM1⟩ := bs hM1
          refine Y wn rfl (yIa SL_22 (et rfl rfl) (et rfl rfl) hst (rdI q2) gx53) ?_
          refine Y wn rfl (yI O_3 (et rfl rfl) hst (rdI q2) gx53) ?_
          obtain ⟨r54, gr54, hM1⟩ := bs hM1
          replace hst := hst.pk 6 [5, 2, 2, 2, 0, 0] rfl
          refine Yc wn rfl (yCall FN_46 (a2 (et rfl rfl) (et rfl rfl))) (sparseref16_Elimination_Eliminate_ok (hM := gr54) (hst := hst) ) ?_
          clear hst
          rintro _ w ⟨rfl, hst⟩
          refine ⟨_, rfl, ?_⟩
          refine wpList_nil ?_
          refine qb28 _ _ _ ?_
          refine k27 _ _ ?_
          refine wp_region_lit ?_
          refine Y wn rfl (ym (v := .int .i64 x29) (et rfl e1_9)) ?_
          refine Y wn rfl (yadd (et rfl rfl) rfl) ?_
          refine Y wn rfl (ya (v := .int .i64 (wa .i64 x29 1)) (et rfl rfl)) ?_
          refine wpList_nil ?_
          obtain rfl := someI hM1
          exact n1 _ _ _ rfl ⟨_, _, _, _, _, _, rfl, rfl, e1_1, e1_7, rfl, rfl, (hst.pk 7 [0, 0, 0, 0, 0] rfl)⟩
        · refine condF (et rfl rfl) (decide_eq_false c46) ?_
          refine wp_exit ?_
          refine z25 _ _ _ rfl ?_
          obtain rfl := someI hM1
          refine zz1 _ _ _ _ rfl rfl ?_
          exact je1_0 _ _ _ _ e1_8 (hst.pk 5 [4] rfl) (ho1 _ rfl)
      · refine condT (et rfl rfl) (nT (bfalse c10)) ?_
        refine seqQ fun Q30 k30 z30 => ?_
        refine wp_region_lit ?_
        refine Y wn rfl (ya (v := hnil.v) rfl) ?_
        refine Y wn rfl (ya (v := .int .i64 90) rfl) ?_
        refine wpList_nil ?_
        refine k30 _ _ ?_
        refine wp_ret ?_
        refine z7 _ _ _ rfl ?_
        obtain rfl := someI hM
        replace hst := hst.rowNh 3 (rI .i64)
        exact hQ _ _ _ (fin2r Try.results58 ⟨rfl, rfl⟩ ⟨rfl, rfl⟩ ⟨_, rfl, (hst.pk 2 [0] rfl)⟩)
    · refine condT (et rfl rfl) (nT (decide_eq_false c8)) ?_
      refine seqQ fun Q31 k31 z31 => ?_
      refine wp_region_lit ?_
      refine Y wn rfl (ya (v := hnil.v) rfl) ?_
      refine Y wn rfl (ya (v := .int .i64 2) rfl) ?_
      refine wpList_nil ?_
      refine k31 _ _ ?_
      refine wp_ret ?_
      refine z5 _ _ _ rfl ?_
      obtain rfl := someI hM
      replace hst := hst.rowNh 3 (rI .i64)
      exact hQ _ _ _ (fin2r Try.results58 ⟨rfl, rfl⟩ ⟨rfl, rfl⟩ ⟨_, rfl, (hst.pk 2 [0] rfl)⟩)
  · refine condT (et rfl rfl) (nT (decide_eq_false c7)) ?_
    refine seqQ fun Q32 k32 z32 => ?_
    refine wp_region_lit ?_
    refine Y wn rfl (ym (v := .int .i64 r6) (et rfl rfl)) ?_
    refine Y wn rfl (ya (v := hnil.v) rfl) ?_
    refine Y wn rfl (ya (v := .int .i64 r6) (et rfl rfl)) ?_
    refine wpList_nil ?_
    refine k32 _ _ ?_
    refine wp_ret ?_
    refine z2 _ _ _ rfl ?_
    obtain rfl := someI hM
    replace hst := hst.rowNh 3 (rI .i64)
    exact hQ _ _ _ (fin2r Try.results58 ⟨rfl, rfl⟩ ⟨rfl, rfl⟩ ⟨_, rfl, (hst.pk 2 [0] rfl)⟩)

theorem sparselaw19_fill_ok {w0 : World} {ros : List Fact} {rs : List Res} {w : World} {x1 : List (List Int)} {x3 : List Int} {h2 : Hdr} {h4 : Hdr} {out : Int} (hM : sparselaw19_fill x1 x3 = some out) (q1 : imm (rS (rI .i64)) h2.v x1 ∈ ros) (q2 : imm (rI .i64) h4.v x3 ∈ ros) (hst : St w0 ros (rs) w) :
    Calls Try.prog 35 #[.agg #[h2.v], h4.v] w (fun e w => e = .returned (.int .i64 out) ∧ St w0 (ros) (rs) w) := by
  refine enterQ Try.func35 rfl Try.ntmps35 rfl fun Q hQ => ?_
  refine seqQ fun Q1 k1 z1 => ?_
  refine wp_region_lit ?_
  refine YB wn rfl (r_box (vals := [h2.v]) hst (et rfl rfl) rfl) ?_
  clear hst
  intro b5 w hst
  refine Y wn rfl (ya (v := .int .i64 0) rfl) ?_
  refine wpList_nil ?_
  refine k1 _ _ ?_
  refine seqQ fun Q2 k2 z2 => ?_
  refine wp_region_lit ?_
  refine Y wn rfl (yLbs (us := [h2.v]) ST_27 (et rfl rfl) hst mhR rfl rfl) ?_
  refine Y wn rfl (ym (v := h4.v) (et rfl rfl)) ?_
  obtain ⟨r6, gr6, hM⟩ := bs hM
  refine Yc wn rfl (yCall FN_58 (a2 (et rfl rfl) (et rfl rfl))) (sparseref16_Degrees_ok (hM := gr6) (hst := hst) (q1 := q1) (q2 := q2)) ?_
  clear hst
  rintro _ w ⟨h7, rfl, hst⟩
  refine ⟨_, rfl, ?_⟩
  refine Y wn rfl (ym (v := .tuple #[h7.v, .int .i64 r6.2]) (et rfl rfl)) ?_
  refine Y wn rfl (yx (v := h7.v) (et rfl rfl) rfl) ?_
  refine Y wn rfl (yx (v := .int .i64 r6.2) (et rfl rfl) rfl) ?_
  refine Y wn rfl (ya (v := h7.v) (et rfl rfl)) ?_
  refine Y wn rfl (ya (v := .int .i64 r6.2) (et rfl rfl)) ?_
  refine wpList_nil ?_
  refine k2 _ _ ?_
  refine seqQ fun Q3 k3 z3 => ?_
  refine wp_region_lit ?_
  refine Y wn rfl (ya (v := .int .i64 0) rfl) ?_
  refine wpList_nil ?_
  refine k3 _ _ ?_
  refine seqQ fun Q4 k4 z4 => ?_
  refine seqQ fun Q5 k5 z5 => ?_
  refine wp_region_lit ?_
  refine Y wn rfl (ya (v := .int .i64 0) rfl) ?_
  refine wpList_nil ?_
  refine k5 _ _ ?_
  refine blockQ fun Q6 qb6 => ?_
  obtain ⟨o1, go1, hM⟩ := bs hM
  have je1_0 : ∀ (x16 : Int) (f : Nat → Value) (w : World), f 7 = .int .i64 x16 → St w0 (ros) (rs) w → x16 = o1 → Q6 (.exit 0) (fr 28 f) w := by
    intro x16 f w eje1_0_7 hst ho
    subst ho
    refine qb6 _ _ _ ?_
    refine k4 _ _ ?_
    refine seqQ fun Q15 k15 z15 => ?_
    refine wp_region_lit ?_
    refine Y wn rfl (ym (v := .int .i64 x16) (et rfl eje1_0_7)) ?_
    refine Y wn rfl (ya (v := .int .i64 x16) (et rfl rfl)) ?_
    refine wpList_nil ?_
    refine k15 _ _ ?_
    refine wp_ret ?_
    obtain rfl := someI hM
    exact hQ _ _ _ (fin1r Try.results35 ⟨rfl, rfl⟩ ⟨rfl, hst⟩)
  refine loopQ (fun s a w => ∃ (x10 : Int) (x11 : Int) (f : Nat → Value), (x10, x11) = s ∧ a = fr 28 f ∧ f 5 = h7.v ∧ f 7 = .int .i64 x10 ∧ f 8 = .int .i64 x11 ∧ St w0 (ros) (row 3 (rI .i64) h7.v r6.1 :: rs) w) go1 ⟨_, _, _, rfl, rfl, rfl, rfl, rfl, (hst.pk 2 [0] rfl)⟩ ?_
  clear hst
  rintro _ _ w r1_ ⟨x10, x11, f, rfl, rfl, e1_5, e1_7, e1_8, hst⟩ hM1 ho1 Q100001 n1 zz1
  refine seqQ fun Q16 k16 z16 => ?_
  refine seqQ fun Q17 k17 z17 => ?_
  refine wp_region_lit ?_
  refine Y wn rfl (ym (v := .int .i64 x11) (et rfl e1_8)) ?_
  refine Y wn rfl (ym (v := h7.v) (et rfl e1_5)) ?_
  refine Y wn rfl (yLen SL_22 (et rfl rfl) hst (rdO mhR)) ?_
  refine Y wn rfl (ylss (et rfl rfl) (et rfl rfl)) ?_
  refine wpList_nil ?_
  refine k17 _ _ ?_
  rcases iteS hM1 with ⟨c17, hM1⟩ | ⟨c17, hM1⟩
  · refine condT (et rfl rfl) (decide_eq_true c17) ?_
    refine wp_skip ?_
    refine k16 _ _ ?_
    refine seqQ fun Q18 k18 z18 => ?_
    refine blockQ fun Q19 qb19 => ?_
    refine wp_region_lit ?_
    refine Y wn rfl (ym (v := .int .i64 x10) (et rfl e1_7)) ?_
    refine Y wn rfl (ym (v := h7.v) (et rfl e1_5)) ?_
    refine Y wn rfl (ym (v := .int .i64 x11) (et rfl e1_8)) ?_
    obtain ⟨x18, gx18, hM1⟩ := bs hM1
    refine Y wn rfl (yIa SL_22 (et rfl rfl) (et rfl rfl) hst (rdO mhR) gx18) ?_
    refine Y wn rfl (yI O_3 (et rfl rfl) hst (rdO mhR) gx18) ?_
    refine Y wn rfl (yadd (et rfl rfl) (et rfl rfl)) ?_
    refine Y wn rfl (ya (v := .int .i64 (wa .i64 x10 x18)) (et rfl rfl)) ?_
    refine wpList_nil ?_
    refine qb19 _ _ _ ?_
    refine k18 _ _ ?_
    refine wp_region_lit ?_
    refine Y wn rfl (ym (v := .int .i64 x11) (et rfl e1_8)) ?_
    refine Y wn rfl (yadd (et rfl rfl) rfl) ?_
    refine Y wn rfl (ya (v := .int .i64 (wa .i64 x11 1)) (et rfl rfl)) ?_
    refine wpList_nil ?_
    obtain rfl := someI hM1
    exact n1 _ _ _ rfl ⟨_, _, _, rfl, rfl, e1_5, rfl, rfl, hst⟩
  · refine condF (et rfl rfl) (decide_eq_false c17) ?_
    refine wp_exit ?_
    refine z16 _ _ _ rfl ?_
    obtain rfl := someI hM1
    refine zz1 _ _ _ _ rfl rfl ?_
    exact je1_0 _ _ _ e1_7 (hst.pk 1 [] rfl) (ho1 _ rfl)

theorem sparselaw19_EtreePostorder_ok {w0 : World} {ros : List Fact} {rs : List Res} {w : World} {x1 : Int} {x2 : List Int} {h3 : Hdr} {out : Bool} (hM : sparselaw19_EtreePostorder x1 x2 = some out) (q1 : imm (rI .i64) h3.v x2 ∈ ros) (hst : St w0 ros (rs) w) :
    Calls Try.prog 9 #[.int .i64 x1, h3.v] w (fun e w => e = .returned (.bool out) ∧ St w0 (ros) (rs) w) := by
  refine enterQ Try.func9 rfl Try.ntmps9 rfl fun Q hQ => ?_
  refine seqQ fun Q1 k1 z1 => ?_
  refine wp_region_lit ?_
  refine Y wn rfl (ya (v := .bool false) rfl) ?_
  refine wpList_nil ?_
  refine k1 _ _ ?_
  refine seqQ fun Q2 k2 z2 => ?_
  refine seqQ fun Q3 k3 z3 => ?_
  refine wp_region_lit ?_
  refine Y wn rfl (ym (v := h3.v) (et rfl rfl)) ?_
  refine Y wn rfl (yLen SL_22 (et rfl rfl) hst (rdI q1)) ?_
  refine Y wn rfl (ygtr (et rfl rfl) rfl) ?_
  refine wpList_nil ?_
  refine k3 _ _ ?_
  rcases iteS hM with ⟨c4, hM⟩ | ⟨c4, hM⟩
  · refine condT (et rfl rfl) (decide_eq_true c4) ?_
    refine seqQ fun Q4 k4 z4 => ?_
    refine wp_region_lit ?_
    obtain ⟨r5, gr5, hM⟩ := bs hM
    refine Yc wn rfl (yCall FN_10 a0) (sparselaw19_awake_ok (hM := gr5) (hst := hst) ) ?_
    clear hst
    rintro _ w ⟨rfl, hst⟩
    refine ⟨_, rfl, ?_⟩
    refine Y wn rfl (ya (v := .bool r5) (et rfl rfl)) ?_
    refine wpList_nil ?_
    refine k4 _ _ ?_
    refine wp_ret ?_
    refine z2 _ _ _ rfl ?_
    obtain rfl := someI hM
    exact hQ _ _ _ (fin1r Try.results9 ⟨rfl, rfl⟩ ⟨rfl, hst⟩)
  · refine condF (et rfl rfl) (decide_eq_false c4) ?_
    refine wp_skip ?_
    refine k2 _ _ ?_
    refine seqQ fun Q5 k5 z5 => ?_
    refine wp_region_lit ?_
    refine Y wn rfl (ym (v := .int .i64 x1) (et rfl rfl)) ?_
    obtain ⟨r6, gr6, hM⟩ := bs hM
    refine Yc wn rfl (yCall FN_11 (a2 (et rfl rfl) rfl)) (sparsekit_Place_ok (hM := gr6) (hst := hst) ) ?_
    clear hst
    rintro _ w ⟨rfl, hst⟩
    refine ⟨_, rfl, ?_⟩
    refine Y wn rfl (ya (v := .int .i64 r6) (et rfl rfl)) ?_
    refine wpList_nil ?_
    refine k5 _ _ ?_
    refine seqQ fun Q6 k6 z6 => ?_
    refine wp_region_lit ?_
    refine Y wn rfl (ym (v := .int .i64 r6) (et rfl rfl)) ?_
    refine Y wn rfl (ym (v := h3.v) (et rfl rfl)) ?_
    obtain ⟨r7, gr7, hM⟩ := bs hM
    refine Yc wn rfl (yCall FN_12 (a2 (et rfl rfl) (et rfl rfl))) (sparsemake_Graph_ok (hM := gr7) (hst := hst) (q1 := q1)) ?_
    clear hst
    rintro _ w ⟨h8, rfl, hst⟩
    refine ⟨_, rfl, ?_⟩
    refine YB wn rfl (rAl hst ZT_27) ?_
    clear hst
    intro b9 w hst
    refine YT wn rfl (r_stbn (vals' := [h8.v]) (us := [h8.v]) hst ST_27 (et rfl rfl) (et rfl rfl) rfl rfl (one_of rfl) rfl) ?_
    clear hst
    intro w hst
    refine wpList_nil ?_
    refine k6 _ _ ?_
    refine seqQ fun Q7 k7 z7 => ?_
    refine wp_region_lit ?_
    refine Y wn rfl (yLbs (us := [h8.v]) ST_27 (et rfl rfl) hst mhR rfl rfl) ?_
    obtain ⟨r10, gr10, hM⟩ := bs hM
    replace hst := hst.pk 2 [1, 0] rfl
    replace hst := hst.fz
    refine Yc wn rfl (yCall FN_13 (a1 (et rfl rfl))) (etree_Parent_ok (hM := gr10) (hst := hst) (q1 := mhF)) ?_
    clear hst
    rintro _ w ⟨h11, rfl, hst⟩
    refine ⟨_, rfl, ?_⟩
    refine Y wn rfl (ym (v := .tuple #[h11.v, .int .i64 r10.2]) (et rfl rfl)) ?_
    refine Y wn rfl (yx (v := h11.v) (et rfl rfl) rfl) ?_
    refine Y wn rfl (yx (v := .int .i64 r10.2) (et rfl rfl) rfl) ?_
    refine Y wn rfl (ya (v := h11.v) (et rfl rfl)) ?_
    refine Y wn rfl (ya (v := .int .i64 r10.2) (et rfl rfl)) ?_
    refine wpList_nil ?_
    refine k7 _ _ ?_
    refine seqQ fun Q8 k8 z8 => ?_
    refine wp_region_lit ?_
    refine Y wn rfl (ym (v := h11.v) (et rfl rfl)) ?_
    obtain ⟨r12, gr12, hM⟩ := bs hM
    replace hst := hst.fz
    refine Yc wn rfl (yCall FN_17 (a1 (et rfl rfl))) (etree_Postorder_ok (hM := gr12) (hst := hst) (q1 := mhF)) ?_
    clear hst
    rintro _ w ⟨h13, rfl, hst⟩
    refine ⟨_, rfl, ?_⟩
    refine Y wn rfl (ym (v := .tuple #[h13.v, .int .i64 r12.2]) (et rfl rfl)) ?_
    refine Y wn rfl (yx (v := h13.v) (et rfl rfl) rfl) ?_
    refine Y wn rfl (yx (v := .int .i64 r12.2) (et rfl rfl) rfl) ?_
    refine Y wn rfl (ya (v := h13.v) (et rfl rfl)) ?_
    refine Y wn rfl (ya (v := .int .i64 r12.2) (et rfl rfl)) ?_
    refine wpList_nil ?_
    refine k8 _ _ ?_
    refine seqQ fun Q9 k9 z9 => ?_
    refine wp_region_lit ?_
    refine Y wn rfl (yLbs (us := [h8.v]) ST_27 (et rfl rfl) hst (mtR mhR) rfl rfl) ?_
    refine Y wn rfl (ym (v := h13.v) (et rfl rfl)) ?_
    obtain ⟨r14, gr14, hM⟩ := bs hM
    replace hst := hst.fz
    refine Yc wn rfl (yCall FN_34 (a2 (et rfl rfl) (et rfl rfl))) (graph_Relabel_ok (hM := gr14) (hst := hst) (q1 := (mtF (mtF mhF))) (q2 := mhF)) ?_
    clear hst
    rintro _ w ⟨h15, rfl, hst⟩
    refine ⟨_, rfl, ?_⟩
    refine Y wn rfl (ym (v := .tuple #[.agg #[h15.v], .int .i64 r14.2]) (et rfl rfl)) ?_
    refine Y wn rfl (yx (v := .agg #[h15.v]) (et rfl rfl) rfl) ?_
    refine Y wn rfl (yx (v := .int .i64 r14.2) (et rfl rfl) rfl) ?_
    refine YB wn rfl (rAl hst ZT_27) ?_
    clear hst
    intro b16 w hst
    refine YT wn rfl (r_stbn (vals' := [h15.v]) (us := [h15.v]) hst ST_27 (et rfl rfl) (et rfl rfl) rfl rfl (one_of rfl) rfl) ?_
    clear hst
    intro w hst
    refine Y wn rfl (ya (v := .int .i64 r14.2) (et rfl rfl)) ?_
    refine wpList_nil ?_
    refine k9 _ _ ?_
    refine seqQ fun Q10 k10 z10 => ?_
    refine wp_region_lit ?_
    refine Y wn rfl (yLbs (us := [h15.v]) ST_27 (et rfl rfl) hst mhR rfl rfl) ?_
    obtain ⟨r17, gr17, hM⟩ := bs hM
    replace hst := hst.pk 2 [1, 0] rfl
    replace hst := hst.fz
    refine Yc wn rfl (yCall FN_13 (a1 (et rfl rfl))) (etree_Parent_ok (hM := gr17) (hst := hst) (q1 := mhF)) ?_
    clear hst
    rintro _ w ⟨h18, rfl, hst⟩
    refine ⟨_, rfl, ?_⟩
    refine Y wn rfl (ym (v := .tuple #[h18.v, .int .i64 r17.2]) (et rfl rfl)) ?_
    refine Y wn rfl (yx (v := h18.v) (et rfl rfl) rfl) ?_
    refine Y wn rfl (yx (v := .int .i64 r17.2) (et rfl rfl) rfl) ?_
    refine Y wn rfl (ya (v := h18.v) (et rfl rfl)) ?_
    refine Y wn rfl (ya (v := .int .i64 r17.2) (et rfl rfl)) ?_
    refine wpList_nil ?_
    refine k10 _ _ ?_
    refine seqQ fun Q11 k11 z11 => ?_
    refine wp_region_lit ?_
    refine Y wn rfl (ym (v := h18.v) (et rfl rfl)) ?_
    obtain ⟨r19, gr19, hM⟩ := bs hM
    replace hst := hst.fz
    refine Yc wn rfl (yCall FN_17 (a1 (et rfl rfl))) (etree_Postorder_ok (hM := gr19) (hst := hst) (q1 := mhF)) ?_
    clear hst
    rintro _ w ⟨h20, rfl, hst⟩
    refine ⟨_, rfl, ?_⟩
    refine Y wn rfl (ym (v := .tuple #[h20.v, .int .i64 r19.2]) (et rfl rfl)) ?_
    refine Y wn rfl (yx (v := h20.v) (et rfl rfl) rfl) ?_
    refine Y wn rfl (yx (v := .int .i64 r19.2) (et rfl rfl) rfl) ?_
    refine Y wn rfl (ya (v := h20.v) (et rfl rfl)) ?_
    refine Y wn rfl (ya (v := .int .i64 r19.2) (et rfl rfl)) ?_
    refine wpList_nil ?_
    refine k11 _ _ ?_
    refine seqQ fun Q12 k12 z12 => ?_
    refine seqQ fun Q13 k13 z13 => ?_
    refine wp_region_lit ?_
    refine Y wn rfl (ym (v := .int .i64 r10.2) (et rfl rfl)) ?_
    refine Y wn rfl (yneq (et rfl rfl) rfl) ?_
    refine Y wn rfl (ym (v := .bool (!(decide (r10.2 = 0)))) (et rfl rfl)) ?_
    refine joinW 3 (fun f w => f 0 = .int .i64 r6 ∧ f 5 = .pointer (some ⟨b9, 0, none⟩) ∧ f 6 = h11.v ∧ f 8 = h13.v ∧ f 11 = .int .i64 r14.2 ∧ f 12 = h18.v ∧ f 13 = .int .i64 r17.2 ∧ f 14 = h20.v ∧ f 15 = .int .i64 r19.2 ∧ f 60 = .bool ((!(decide (r10.2 = 0))) || (!(decide (r12.2 = 0)))) ∧ St w0 (imm (rS (rI .i64)) h8.v r7 :: imm (rI .i64) h11.v r10.1 :: imm (rI .i64) h13.v r12.1 :: imm (rI .i64) h18.v r17.1 :: ros) (box b9 27 [h8.v] :: row 3 (rI .i64) h20.v r19.1 :: rs) w) (fun j1 => ?_) ?_
    · rcases Bool.eq_false_or_eq_true (!(decide (r10.2 = 0))) with c22 | c22
      · refine Gn (wx rfl rfl rfl c22) rfl ?_
        refine Gn (wx rfl rfl rfl c22) rfl ?_
        refine Y wn rfl (ypt (v := .bool true) (et rfl rfl) c22 rfl) ?_
        exact j1 _ _ ⟨rfl, rfl, rfl, rfl, rfl, rfl, rfl, rfl, rfl, (congrArg Value.bool (orT c22)), ((hst.pk 3 [2, 0] rfl).facts (allC (mtF (mtF (mtF (mtF mhF)))) (allC (mtF (mtF (mtF mhF))) (allC (mtF (mtF mhF)) (allC mhF (allT (allT (allT (allT (allT allI))))))))))⟩
      · refine Y (wg rfl rfl rfl c22) rfl (ym (v := .int .i64 r12.2) (et rfl rfl)) ?_
        refine Y (wg rfl rfl rfl c22) rfl (yneq (et rfl rfl) rfl) ?_
        refine Y wn rfl (ypf (v := .bool (!(decide (r12.2 = 0)))) (et rfl rfl) c22 (et rfl rfl)) ?_
        exact j1 _ _ ⟨rfl, rfl, rfl, rfl, rfl, rfl, rfl, rfl, rfl, (congrArg Value.bool (orF c22)), ((hst.pk 3 [2, 0] rfl).facts (allC (mtF (mtF (mtF (mtF mhF)))) (allC (mtF (mtF (mtF mhF))) (allC (mtF (mtF mhF)) (allC mhF (allT (allT (allT (allT (allT allI))))))))))⟩
    clear hst
    rintro f w ⟨e21_0, e21_5, e21_6, e21_8, e21_11, e21_12, e21_13, e21_14, e21_15, e21_60, hst⟩
    refine Y wn rfl (ym (v := .bool ((!(decide (r10.2 = 0))) || (!(decide (r12.2 = 0))))) (et rfl e21_60)) ?_
    refine joinW 3 (fun f w => f 0 = .int .i64 r6 ∧ f 5 = .pointer (some ⟨b9, 0, none⟩) ∧ f 6 = h11.v ∧ f 8 = h13.v ∧ f 12 = h18.v ∧ f 13 = .int .i64 r17.2 ∧ f 14 = h20.v ∧ f 15 = .int .i64 r19.2 ∧ f 64 = .bool (((!(decide (r10.2 = 0))) || (!(decide (r12.2 = 0)))) || (!(decide (r14.2 = 0)))) ∧ St w0 (imm (rS (rI .i64)) h8.v r7 :: imm (rI .i64) h11.v r10.1 :: imm (rI .i64) h13.v r12.1 :: imm (rI .i64) h18.v r17.1 :: ros) (box b9 27 [h8.v] :: row 3 (rI .i64) h20.v r19.1 :: rs) w) (fun j2 => ?_) ?_
    · rcases Bool.eq_false_or_eq_true (((!(decide (r10.2 = 0))) || (!(decide (r12.2 = 0))))) with c24 | c24
      · refine Gn (wx rfl rfl rfl c24) rfl ?_
        refine Gn (wx rfl rfl rfl c24) rfl ?_
        refine Y wn rfl (ypt (v := .bool true) (et rfl rfl) c24 rfl) ?_
        exact j2 _ _ ⟨e21_0, e21_5, e21_6, e21_8, e21_12, e21_13, e21_14, e21_15, (congrArg Value.bool (orT c24)), hst⟩
      · refine Y (wg rfl rfl rfl c24) rfl (ym (v := .int .i64 r14.2) (et rfl e21_11)) ?_
        refine Y (wg rfl rfl rfl c24) rfl (yneq (et rfl rfl) rfl) ?_
        refine Y wn rfl (ypf (v := .bool (!(decide (r14.2 = 0)))) (et rfl rfl) c24 (et rfl rfl)) ?_
        exact j2 _ _ ⟨e21_0, e21_5, e21_6, e21_8, e21_12, e21_13, e21_14, e21_15, (congrArg Value.bool (orF c24)), hst⟩
    clear hst
    rintro f w ⟨e23_0, e23_5, e23_6, e23_8, e23_12, e23_13, e23_14, e23_15, e23_64, hst⟩
    refine Y wn rfl (ym (v := .bool (((!(decide (r10.2 = 0))) || (!(decide (r12.2 = 0)))) || (!(decide (r14.2 = 0))))) (et rfl e23_64)) ?_
    refine joinW 3 (fun f w => f 0 = .int .i64 r6 ∧ f 5 = .pointer (some ⟨b9, 0, none⟩) ∧ f 6 = h11.v ∧ f 8 = h13.v ∧ f 12 = h18.v ∧ f 14 = h20.v ∧ f 15 = .int .i64 r19.2 ∧ f 68 = .bool ((((!(decide (r10.2 = 0))) || (!(decide (r12.2 = 0)))) || (!(decide (r14.2 = 0)))) || (!(decide (r17.2 = 0)))) ∧ St w0 (imm (rS (rI .i64)) h8.v r7 :: imm (rI .i64) h11.v r10.1 :: imm (rI .i64) h13.v r12.1 :: imm (rI .i64) h18.v r17.1 :: ros) (box b9 27 [h8.v] :: row 3 (rI .i64) h20.v r19.1 :: rs) w) (fun j3 => ?_) ?_
    · rcases Bool.eq_false_or_eq_true ((((!(decide (r10.2 = 0))) || (!(decide (r12.2 = 0)))) || (!(decide (r14.2 = 0))))) with c26 | c26
      · refine Gn (wx rfl rfl rfl c26) rfl ?_
        refine Gn (wx rfl rfl rfl c26) rfl ?_
        refine Y wn rfl (ypt (v := .bool true) (et rfl rfl) c26 rfl) ?_
        exact j3 _ _ ⟨e23_0, e23_5, e23_6, e23_8, e23_12, e23_14, e23_15, (congrArg Value.bool (orT c26)), hst⟩
      · refine Y (wg rfl rfl rfl c26) rfl (ym (v := .int .i64 r17.2) (et rfl e23_13)) ?_
        refine Y (wg rfl rfl rfl c26) rfl (yneq (et rfl rfl) rfl) ?_
        refine Y wn rfl (ypf (v := .bool (!(decide (r17.2 = 0)))) (et rfl rfl) c26 (et rfl rfl)) ?_
        exact j3 _ _ ⟨e23_0, e23_5, e23_6, e23_8, e23_12, e23_14, e23_15, (congrArg Value.bool (orF c26)), hst⟩
    clear hst
    rintro f w ⟨e25_0, e25_5, e25_6, e25_8, e25_12, e25_14, e25_15, e25_68, hst⟩
    refine Y wn rfl (ym (v := .bool ((((!(decide (r10.2 = 0))) || (!(decide (r12.2 = 0)))) || (!(decide (r14.2 = 0)))) || (!(decide (r17.2 = 0))))) (et rfl e25_68)) ?_
    refine joinW 3 (fun f w => f 0 = .int .i64 r6 ∧ f 5 = .pointer (some ⟨b9, 0, none⟩) ∧ f 6 = h11.v ∧ f 8 = h13.v ∧ f 12 = h18.v ∧ f 14 = h20.v ∧ f 72 = .bool (((((!(decide (r10.2 = 0))) || (!(decide (r12.2 = 0)))) || (!(decide (r14.2 = 0)))) || (!(decide (r17.2 = 0)))) || (!(decide (r19.2 = 0)))) ∧ St w0 (imm (rS (rI .i64)) h8.v r7 :: imm (rI .i64) h11.v r10.1 :: imm (rI .i64) h13.v r12.1 :: imm (rI .i64) h18.v r17.1 :: ros) (box b9 27 [h8.v] :: row 3 (rI .i64) h20.v r19.1 :: rs) w) (fun j4 => ?_) ?_
    · rcases Bool.eq_false_or_eq_true (((((!(decide (r10.2 = 0))) || (!(decide (r12.2 = 0)))) || (!(decide (r14.2 = 0)))) || (!(decide (r17.2 = 0))))) with c28 | c28
      · refine Gn (wx rfl rfl rfl c28) rfl ?_
        refine Gn (wx rfl rfl rfl c28) rfl ?_
        refine Y wn rfl (ypt (v := .bool true) (et rfl rfl) c28 rfl) ?_
        exact j4 _ _ ⟨e25_0, e25_5, e25_6, e25_8, e25_12, e25_14, (congrArg Value.bool (orT c28)), hst⟩
      · refine Y (wg rfl rfl rfl c28) rfl (ym (v := .int .i64 r19.2) (et rfl e25_15)) ?_
        refine Y (wg rfl rfl rfl c28) rfl (yneq (et rfl rfl) rfl) ?_
        refine Y wn rfl (ypf (v := .bool (!(decide (r19.2 = 0)))) (et rfl rfl) c28 (et rfl rfl)) ?_
        exact j4 _ _ ⟨e25_0, e25_5, e25_6, e25_8, e25_12, e25_14, (congrArg Value.bool (orF c28)), hst⟩
    clear hst
    rintro f w ⟨e27_0, e27_5, e27_6, e27_8, e27_12, e27_14, e27_72, hst⟩
    refine Y wn rfl (ym (v := .bool (((((!(decide (r10.2 = 0))) || (!(decide (r12.2 = 0)))) || (!(decide (r14.2 = 0)))) || (!(decide (r17.2 = 0)))) || (!(decide (r19.2 = 0))))) (et rfl e27_72)) ?_
    obtain ⟨r30, gr30, hM⟩ := bs hM
    refine joinW 5 (fun f w => f 0 = .int .i64 r6 ∧ f 5 = .pointer (some ⟨b9, 0, none⟩) ∧ f 6 = h11.v ∧ f 8 = h13.v ∧ f 12 = h18.v ∧ f 14 = h20.v ∧ f 78 = .bool r30 ∧ St w0 (imm (rS (rI .i64)) h8.v r7 :: imm (rI .i64) h11.v r10.1 :: imm (rI .i64) h13.v r12.1 :: imm (rI .i64) h18.v r17.1 :: ros) (box b9 27 [h8.v] :: row 3 (rI .i64) h20.v r19.1 :: rs) w) (fun j5 => ?_) ?_
    · rcases iteS gr30 with ⟨c32, gr30⟩ | ⟨c32, gr30⟩
      · refine Gn (wx rfl rfl rfl c32) rfl ?_
        refine Gn (wx rfl rfl rfl c32) rfl ?_
        refine Gn (wx rfl rfl rfl c32) rfl ?_
        refine Gn (wx rfl rfl rfl c32) rfl ?_
        refine Y wn rfl (ypt (v := .bool true) (et rfl rfl) c32 rfl) ?_
        obtain rfl := someI gr30
        exact j5 _ _ ⟨e27_0, e27_5, e27_6, e27_8, e27_12, e27_14, rfl, hst⟩
      · refine Y (wg rfl rfl rfl (bfalse c32)) rfl (ym (v := h13.v) (et rfl e27_8)) ?_
        refine Y (wg rfl rfl rfl (bfalse c32)) rfl (ym (v := .int .i64 r6) (et rfl e27_0)) ?_
        obtain ⟨r33, gr33, gr30⟩ := bs gr30
        refine Yc (wg rfl rfl rfl (bfalse c32)) rfl (yCall FN_26 (a2 (et rfl rfl) (et rfl rfl))) (sparsekit_Perm_ok (hM := gr33) (hst := hst) (q1 := (mtF (mtF mhF)))) ?_
        clear hst
        rintro _ w ⟨rfl, hst⟩
        refine ⟨_, rfl, ?_⟩
        refine Y (wg rfl rfl rfl (bfalse c32)) rfl (ynot (et rfl rfl)) ?_
        refine Y wn rfl (ypf (v := .bool (!(r33))) (et rfl rfl) (bfalse c32) (et rfl rfl)) ?_
        obtain rfl := someI gr30
        exact j5 _ _ ⟨e27_0, e27_5, e27_6, e27_8, e27_12, e27_14, rfl, hst⟩
    clear hst
    rintro f w ⟨e31_0, e31_5, e31_6, e31_8, e31_12, e31_14, e31_78, hst⟩
    refine Y wn rfl (ym (v := .bool r30) (et rfl e31_78)) ?_
    refine joinW 5 (fun f w => f 0 = .int .i64 r6 ∧ f 5 = .pointer (some ⟨b9, 0, none⟩) ∧ f 6 = h11.v ∧ f 8 = h13.v ∧ f 12 = h18.v ∧ f 14 = h20.v ∧ f 84 = .bool (r30 || (!(decide ((r10.1.length : Int) = r6)))) ∧ St w0 (imm (rS (rI .i64)) h8.v r7 :: imm (rI .i64) h11.v r10.1 :: imm (rI .i64) h13.v r12.1 :: imm (rI .i64) h18.v r17.1 :: ros) (box b9 27 [h8.v] :: row 3 (rI .i64) h20.v r19.1 :: rs) w) (fun j6 => ?_) ?_
    · rcases Bool.eq_false_or_eq_true (r30) with c35 | c35
      · refine Gn (wx rfl rfl rfl c35) rfl ?_
        refine Gn (wx rfl rfl rfl c35) rfl ?_
        refine Gn (wx rfl rfl rfl c35) rfl ?_
        refine Gn (wx rfl rfl rfl c35) rfl ?_
        refine Y wn rfl (ypt (v := .bool true) (et rfl rfl) c35 rfl) ?_
        exact j6 _ _ ⟨e31_0, e31_5, e31_6, e31_8, e31_12, e31_14, (congrArg Value.bool (orT c35)), hst⟩
      · refine Y (wg rfl rfl rfl c35) rfl (ym (v := h11.v) (et rfl e31_6)) ?_
        refine Y (wg rfl rfl rfl c35) rfl (yLen SL_22 (et rfl rfl) hst (rdI (mtF mhF))) ?_
        refine Y (wg rfl rfl rfl c35) rfl (ym (v := .int .i64 r6) (et rfl e31_0)) ?_
        refine Y (wg rfl rfl rfl c35) rfl (yneq (et rfl rfl) (et rfl rfl)) ?_
        refine Y wn rfl (ypf (v := .bool (!(decide ((r10.1.length : Int) = r6)))) (et rfl rfl) c35 (et rfl rfl)) ?_
        exact j6 _ _ ⟨e31_0, e31_5, e31_6, e31_8, e31_12, e31_14, (congrArg Value.bool (orF c35)), hst⟩
    clear hst
    rintro f w ⟨e34_0, e34_5, e34_6, e34_8, e34_12, e34_14, e34_84, hst⟩
    refine Y wn rfl (ym (v := .bool (r30 || (!(decide ((r10.1.length : Int) = r6))))) (et rfl e34_84)) ?_
    refine joinW 5 (fun f w => f 0 = .int .i64 r6 ∧ f 5 = .pointer (some ⟨b9, 0, none⟩) ∧ f 6 = h11.v ∧ f 8 = h13.v ∧ f 12 = h18.v ∧ f 14 = h20.v ∧ f 90 = .bool ((r30 || (!(decide ((r10.1.length : Int) = r6)))) || (!(decide ((r17.1.length : Int) = r6)))) ∧ St w0 (imm (rS (rI .i64)) h8.v r7 :: imm (rI .i64) h11.v r10.1 :: imm (rI .i64) h13.v r12.1 :: imm (rI .i64) h18.v r17.1 :: ros) (box b9 27 [h8.v] :: row 3 (rI .i64) h20.v r19.1 :: rs) w) (fun j7 => ?_) ?_
    · rcases Bool.eq_false_or_eq_true ((r30 || (!(decide ((r10.1.length : Int) = r6))))) with c37 | c37
      · refine Gn (wx rfl rfl rfl c37) rfl ?_
        refine Gn (wx rfl rfl rfl c37) rfl ?_
        refine Gn (wx rfl rfl rfl c37) rfl ?_
        refine Gn (wx rfl rfl rfl c37) rfl ?_
        refine Y wn rfl (ypt (v := .bool true) (et rfl rfl) c37 rfl) ?_
        exact j7 _ _ ⟨e34_0, e34_5, e34_6, e34_8, e34_12, e34_14, (congrArg Value.bool (orT c37)), hst⟩
      · refine Y (wg rfl rfl rfl c37) rfl (ym (v := h18.v) (et rfl e34_12)) ?_
        refine Y (wg rfl rfl rfl c37) rfl (yLen SL_22 (et rfl rfl) hst (rdI (mtF (mtF (mtF mhF))))) ?_
        refine Y (wg rfl rfl rfl c37) rfl (ym (v := .int .i64 r6) (et rfl e34_0)) ?_
        refine Y (wg rfl rfl rfl c37) rfl (yneq (et rfl rfl) (et rfl rfl)) ?_
        refine Y wn rfl (ypf (v := .bool (!(decide ((r17.1.length : Int) = r6)))) (et rfl rfl) c37 (et rfl rfl)) ?_
        exact j7 _ _ ⟨e34_0, e34_5, e34_6, e34_8, e34_12, e34_14, (congrArg Value.bool (orF c37)), hst⟩
    clear hst
    rintro f w ⟨e36_0, e36_5, e36_6, e36_8, e36_12, e36_14, e36_90, hst⟩
    refine Y wn rfl (ym (v := .bool ((r30 || (!(decide ((r10.1.length : Int) = r6)))) || (!(decide ((r17.1.length : Int) = r6))))) (et rfl e36_90)) ?_
    refine joinW 5 (fun f w => f 0 = .int .i64 r6 ∧ f 5 = .pointer (some ⟨b9, 0, none⟩) ∧ f 6 = h11.v ∧ f 8 = h13.v ∧ f 12 = h18.v ∧ f 14 = h20.v ∧ f 96 = .bool (((r30 || (!(decide ((r10.1.length : Int) = r6)))) || (!(decide ((r17.1.length : Int) = r6)))) || (!(decide ((r19.1.length : Int) = r6)))) ∧ St w0 (imm (rS (rI .i64)) h8.v r7 :: imm (rI .i64) h11.v r10.1 :: imm (rI .i64) h13.v r12.1 :: imm (rI .i64) h18.v r17.1 :: ros) (box b9 27 [h8.v] :: row 3 (rI .i64) h20.v r19.1 :: rs) w) (fun j8 => ?_) ?_
    · rcases Bool.eq_false_or_eq_true (((r30 || (!(decide ((r10.1.length : Int) = r6)))) || (!(decide ((r17.1.length : Int) = r6))))) with c39 | c39
      · refine Gn (wx rfl rfl rfl c39) rfl ?_
        refine Gn (wx rfl rfl rfl c39) rfl ?_
        refine Gn (wx rfl rfl rfl c39) rfl ?_
        refine Gn (wx rfl rfl rfl c39) rfl ?_
        refine Y wn rfl (ypt (v := .bool true) (et rfl rfl) c39 rfl) ?_
        exact j8 _ _ ⟨e36_0, e36_5, e36_6, e36_8, e36_12, e36_14, (congrArg Value.bool (orT c39)), hst⟩
      · refine Y (wg rfl rfl rfl c39) rfl (ym (v := h20.v) (et rfl e36_14)) ?_
        refine Y (wg rfl rfl rfl c39) rfl (yLen SL_22 (et rfl rfl) hst (rdO (mtR mhR))) ?_
        refine Y (wg rfl rfl rfl c39) rfl (ym (v := .int .i64 r6) (et rfl e36_0)) ?_
        refine Y (wg rfl rfl rfl c39) rfl (yneq (et rfl rfl) (et rfl rfl)) ?_
        refine Y wn rfl (ypf (v := .bool (!(decide ((r19.1.length : Int) = r6)))) (et rfl rfl) c39 (et rfl rfl)) ?_
        exact j8 _ _ ⟨e36_0, e36_5, e36_6, e36_8, e36_12, e36_14, (congrArg Value.bool (orF c39)), hst⟩
    clear hst
    rintro f w ⟨e38_0, e38_5, e38_6, e38_8, e38_12, e38_14, e38_96, hst⟩
    refine wpList_nil ?_
    refine k13 _ _ ?_
    rcases iteS hM with ⟨c40, hM⟩ | ⟨c40, hM⟩
    · refine condT (et rfl e38_96) c40 ?_
      refine seqQ fun Q14 k14 z14 => ?_
      refine wp_region_lit ?_
      refine Y wn rfl (ya (v := .bool false) rfl) ?_
      refine wpList_nil ?_
      refine k14 _ _ ?_
      refine wp_ret ?_
      refine z12 _ _ _ rfl ?_
      obtain rfl := someI hM
      exact hQ _ _ _ (fin1r Try.results9 ⟨rfl, rfl⟩ ⟨rfl, ((hst.pk 2 [] rfl).facts (allT (allT (allT (allT allI)))))⟩)
    · refine condF (et rfl e38_96) (bfalse c40) ?_
      refine wp_skip ?_
      refine k12 _ _ ?_
      refine seqQ fun Q15 k15 z15 => ?_
      refine wp_region_lit ?_
      refine Y wn rfl (ym (v := h13.v) (et rfl e38_8)) ?_
      obtain ⟨r41, gr41, hM⟩ := bs hM
      refine Yc wn rfl (yCall FN_27 (a1 (et rfl rfl))) (sparsekit_Invert_ok (hM := gr41) (hst := hst) (q1 := (mtF (mtF mhF)))) ?_
      clear hst
      rintro _ w ⟨h42, rfl, hst⟩
      refine ⟨_, rfl, ?_⟩
      refine Y wn rfl (ya (v := h42.v) (et rfl rfl)) ?_
      refine wpList_nil ?_
      refine k15 _ _ ?_
      refine seqQ fun Q16 k16 z16 => ?_
      refine wp_region_lit ?_
      refine Y wn rfl (ya (v := hnil.v) rfl) ?_
      refine wpList_nil ?_
      refine k16 _ _ ?_
      refine seqQ fun Q17 k17 z17 => ?_
      refine seqQ fun Q18 k18 z18 => ?_
      refine wp_region_lit ?_
      refine Y wn rfl (ya (v := .int .i64 0) rfl) ?_
      refine wpList_nil ?_
      refine k18 _ _ ?_
      refine blockQ fun Q19 qb19 => ?_
      obtain ⟨o15, go15, hM⟩ := bs hM
      have je15_0 : ∀ (x106 : List Int) (h105 : Hdr) (f : Nat → Value) (w : World), f 5 = .pointer (some ⟨b9, 0, none⟩) → f 8 = h13.v → f 17 = h105.v → St w0 (imm (rS (rI .i64)) h8.v r7 :: imm (rI .i64) h13.v r12.1 :: ros) (box b9 27 [h8.v] :: row 3 (rI .i64) h105.v x106 :: rs) w → .inl x106 = o15 → Q19 (.exit 0) (fr 161 f) w := by
        intro x106 h105 f w eje15_0_5 eje15_0_8 eje15_0_17 hst ho
        subst ho
        refine qb19 _ _ _ ?_
        refine k17 _ _ ?_
        refine seqQ fun Q40 k40 z40 => ?_
        obtain ⟨r107, gr107, hM⟩ := bs hM
        obtain ⟨r108, gr108, hM⟩ := bs hM
        obtain ⟨r109, gr109, hM⟩ := bs hM
        refine joinN (n := 161) (fun f w => f 4 = .bool r109 ∧ St w0 (ros) (rs) w) (fun j16 => ?_) ?_
        · rcases iteS gr109 with ⟨c111, gr109⟩ | ⟨c111, gr109⟩
          · obtain ⟨r112, gr112, gr109⟩ := bs gr109
            have hr17 := someI gr109
            refine wp_drawR [0, 0, 3, 0, 0, 31, 63, 127, 255, 511, 1023] [2, 5, 8, 10] 4 folM (by kernel_rfl) (by kernel_rfl) (by kernel_rfl) ?_
            replace hst := hst.drew
            refine DRn (l1 := [0, 1, 3, 4]) (l2 := []) (lc := [2]) (by kernel_rfl) (by kernel_rfl) (by kernel_rfl) ?_
            refine Ry rfl rfl wn (yLbs (us := [h8.v]) ST_27 (et rfl eje15_0_5) hst mhR rfl rfl) ?_
            refine Ry rfl rfl wn (ym (v := h105.v) (et rfl eje15_0_17)) ?_
            refine Ry rfl rfl wn (yLbs (us := [h8.v]) ST_27 (et rfl eje15_0_5) hst mhR rfl rfl) ?_
            refine Ry rfl rfl wn (ym (v := h13.v) (et rfl eje15_0_8)) ?_
            refine Rn QSn ?_
            refine Lc rfl ?_ LAn
            replace hst := hst.pk 2 [1, 0] rfl
            replace hst := hst.fz
            refine Lk wn (yCall FN_35 (a2 (et rfl rfl) (et rfl rfl))) (sparselaw19_fill_ok (hM := gr107) (hst := hst) (q1 := (mtF mhF)) (q2 := mhF)) ?_
            clear hst
            rintro _ w ⟨rfl, hst⟩
            refine ⟨_, rfl, ?_⟩
            refine DRn (l1 := []) (l2 := [3, 4]) (lc := [5]) (by kernel_rfl) (by kernel_rfl) (by kernel_rfl) ?_
            refine Rn (Sy rfl rfl wn (yLbs (us := [h8.v]) ST_27 (et rfl eje15_0_5) hst mhR rfl rfl) rfl (Sy rfl rfl wn (ym (v := h13.v) (et rfl eje15_0_8)) rfl QSn)) ?_
            refine Lc rfl ?_ LAn
            refine Lk wn (yCall FN_35 (a2 (et rfl rfl) (et rfl rfl))) (sparselaw19_fill_ok (hM := gr108) (hst := hst) (q1 := (mtF mhF)) (q2 := (mtF (mtF mhF)))) ?_
            clear hst
            rintro _ w ⟨rfl, hst⟩
            refine ⟨_, rfl, ?_⟩
            refine DRn (l1 := [6, 7]) (l2 := []) (lc := [8]) (by kernel_rfl) (by kernel_rfl) (by kernel_rfl) ?_
            refine Ry rfl rfl wn (yeql (et rfl rfl) (et rfl rfl)) ?_
            refine Ry rfl rfl wn (ym (v := .bool (decide (r107 = r108))) (et rfl rfl)) ?_
            refine Rn QSn ?_
            refine Lc rfl ?_ LAn
            refine Lk (wg rfl rfl rfl (decide_eq_true c111)) (yCall FN_10 a0) (sparselaw19_awake_ok (hM := gr112) (hst := hst) ) ?_
            clear hst
            rintro _ w ⟨rfl, hst⟩
            refine ⟨_, rfl, ?_⟩
            refine DRn (l1 := [9]) (l2 := []) (lc := [10]) (by kernel_rfl) (by kernel_rfl) (by kernel_rfl) ?_
            refine Ry rfl rfl wn (ypt (v := .bool r109) (et rfl rfl) (decide_eq_true c111) (eqv hr17 (et rfl rfl))) ?_
            refine Rn QSn ?_
            refine Lc rfl ?_ LAn
            refine Ly wn (ya (v := .bool r109) (et rfl rfl)) ?_
            refine DRz (l1 := []) (l2 := []) (by kernel_rfl) (by kernel_rfl) ?_
            refine Rn QSn ?_
            exact j16 _ _ ⟨rfl, ((hst.pk 1 [] rfl).facts (allT (allT (allT allI))))⟩
          · have hr18 := someI gr109
            refine wp_drawR [0, 0, 3, 0, 0, 31, 63, 127, 255, 511, 1023] [2, 5, 8, 10] 4 folM (by kernel_rfl) (by kernel_rfl) (by kernel_rfl) ?_
            replace hst := hst.drew
            refine DRn (l1 := [0, 1, 3, 4]) (l2 := []) (lc := [2]) (by kernel_rfl) (by kernel_rfl) (by kernel_rfl) ?_
            refine Ry rfl rfl wn (yLbs (us := [h8.v]) ST_27 (et rfl eje15_0_5) hst mhR rfl rfl) ?_
            refine Ry rfl rfl wn (ym (v := h105.v) (et rfl eje15_0_17)) ?_
            refine Ry rfl rfl wn (yLbs (us := [h8.v]) ST_27 (et rfl eje15_0_5) hst mhR rfl rfl) ?_
            refine Ry rfl rfl wn (ym (v := h13.v) (et rfl eje15_0_8)) ?_
            refine Rn QSn ?_
            refine Lc rfl ?_ LAn
            replace hst := hst.pk 2 [1, 0] rfl
            replace hst := hst.fz
            refine Lk wn (yCall FN_35 (a2 (et rfl rfl) (et rfl rfl))) (sparselaw19_fill_ok (hM := gr107) (hst := hst) (q1 := (mtF mhF)) (q2 := mhF)) ?_
            clear hst
            rintro _ w ⟨rfl, hst⟩
            refine ⟨_, rfl, ?_⟩
            refine DRn (l1 := []) (l2 := [3, 4]) (lc := [5]) (by kernel_rfl) (by kernel_rfl) (by kernel_rfl) ?_
            refine Rn (Sy rfl rfl wn (yLbs (us := [h8.v]) ST_27 (et rfl eje15_0_5) hst mhR rfl rfl) rfl (Sy rfl rfl wn (ym (v := h13.v) (et rfl eje15_0_8)) rfl QSn)) ?_
            refine Lc rfl ?_ LAn
            refine Lk wn (yCall FN_35 (a2 (et rfl rfl) (et rfl rfl))) (sparselaw19_fill_ok (hM := gr108) (hst := hst) (q1 := (mtF mhF)) (q2 := (mtF (mtF mhF)))) ?_
            clear hst
            rintro _ w ⟨rfl, hst⟩
            refine ⟨_, rfl, ?_⟩
            refine DRn (l1 := [6, 7]) (l2 := []) (lc := [8]) (by kernel_rfl) (by kernel_rfl) (by kernel_rfl) ?_
            refine Ry rfl rfl wn (yeql (et rfl rfl) (et rfl rfl)) ?_
            refine Ry rfl rfl wn (ym (v := .bool (decide (r107 = r108))) (et rfl rfl)) ?_
            refine Rn QSn ?_
            refine Lc rfl ?_ LAn
            refine Lx (wx rfl rfl rfl (decide_eq_false c111)) ?_
            refine DRn (l1 := [9]) (l2 := []) (lc := [10]) (by kernel_rfl) (by kernel_rfl) (by kernel_rfl) ?_
            refine Ry rfl rfl wn (ypf (v := .bool r109) (et rfl rfl) (decide_eq_false c111) (eqv hr18 rfl)) ?_
            refine Rn QSn ?_
            refine Lc rfl ?_ LAn
            refine Ly wn (ya (v := .bool r109) (et rfl rfl)) ?_
            refine DRz (l1 := []) (l2 := []) (by kernel_rfl) (by kernel_rfl) ?_
            refine Rn QSn ?_
            exact j16 _ _ ⟨rfl, ((hst.pk 1 [] rfl).facts (allT (allT (allT allI))))⟩
        clear hst
        rintro f w ⟨e110_4, hst⟩
        refine k40 _ _ ?_
        refine wp_ret ?_
        obtain rfl := someI hM
        exact hQ _ _ _ (fin1r Try.results9 ⟨rfl, e110_4⟩ ⟨rfl, hst⟩)
      have je15_1 : ∀ (f : Nat → Value) (w : World), f 4 = .bool false → St w0 (ros) (rs) w → .inr () = o15 → Q19 .ret (fr 161 f) w := by
        intro f w eje15_1_4 hst ho
        subst ho
        refine qb19 _ _ _ ?_
        refine z17 _ _ _ rfl ?_
        obtain rfl := someI hM
        exact hQ _ _ _ (fin1r Try.results9 ⟨rfl, eje15_1_4⟩ ⟨rfl, hst⟩)
      replace hst := hst.rowNh 3 (rI .i64)
      refine loopQ (fun s a w => ∃ (x72 : List Int) (x73 : Int) (f : Nat → Value) (h71 : Hdr), (x72, x73) = s ∧ a = fr 161 f ∧ f 0 = .int .i64 r6 ∧ f 5 = .pointer (some ⟨b9, 0, none⟩) ∧ f 6 = h11.v ∧ f 8 = h13.v ∧ f 12 = h18.v ∧ f 14 = h20.v ∧ f 16 = h42.v ∧ f 17 = h71.v ∧ f 18 = .int .i64 x73 ∧ St w0 (imm (rS (rI .i64)) h8.v r7 :: imm (rI .i64) h11.v r10.1 :: imm (rI .i64) h13.v r12.1 :: imm (rI .i64) h18.v r17.1 :: ros) (box b9 27 [h8.v] :: row 3 (rI .i64) h20.v r19.1 :: row 3 (rI .i64) h42.v r41 :: row 3 (rI .i64) h71.v x72 :: rs) w) go15 ⟨_, _, _, _, rfl, rfl, e38_0, e38_5, e38_6, e38_8, e38_12, e38_14, rfl, rfl, rfl, (hst.pk 4 [2, 2, 1, 0] rfl)⟩ ?_
      clear hst
      rintro _ _ w r15_ ⟨x72, x73, f, h71, rfl, rfl, e15_0, e15_5, e15_6, e15_8, e15_12, e15_14, e15_16, e15_17, e15_18, hst⟩ hM15 ho15 Q100015 n15 zz15
      refine seqQ fun Q41 k41 z41 => ?_
      refine seqQ fun Q42 k42 z42 => ?_
      refine wp_region_lit ?_
      refine Y wn rfl (ym (v := .int .i64 x73) (et rfl e15_18)) ?_
      refine Y wn rfl (ym (v := .int .i64 r6) (et rfl e15_0)) ?_
      refine Y wn rfl (ylss (et rfl rfl) (et rfl rfl)) ?_
      refine wpList_nil ?_
      refine k42 _ _ ?_
      rcases iteS hM15 with ⟨c113, hM15⟩ | ⟨c113, hM15⟩
      · refine condT (et rfl rfl) (decide_eq_true c113) ?_
        refine wp_skip ?_
        refine k41 _ _ ?_
        refine seqQ fun Q43 k43 z43 => ?_
        refine blockQ fun Q44 qb44 => ?_
        refine seqQ fun Q45 k45 z45 => ?_
        refine wp_region_lit ?_
        refine Y wn rfl (ya (v := .int .i64 (-1)) rfl) ?_
        refine wpList_nil ?_
        refine k45 _ _ ?_
        refine seqQ fun Q46 k46 z46 => ?_
        refine seqQ fun Q47 k47 z47 => ?_
        refine wp_region_lit ?_
        refine Y wn rfl (ym (v := h11.v) (et rfl e15_6)) ?_
        refine Y wn rfl (ym (v := h13.v) (et rfl e15_8)) ?_
        refine Y wn rfl (ym (v := .int .i64 x73) (et rfl e15_18)) ?_
        obtain ⟨x114, gx114, hM15⟩ := bs hM15
        refine Y wn rfl (yIa SL_22 (et rfl rfl) (et rfl rfl) hst (rdI (mtF (mtF mhF))) gx114) ?_
        refine Y wn rfl (yI O_3 (et rfl rfl) hst (rdI (mtF (mtF mhF))) gx114) ?_
        obtain ⟨x115, gx115, hM15⟩ := bs hM15
        refine Y wn rfl (yIa SL_22 (et rfl rfl) (et rfl rfl) hst (rdI (mtF mhF)) gx115) ?_
        refine Y wn rfl (yI O_3 (et rfl rfl) hst (rdI (mtF mhF)) gx115) ?_
        refine Y wn rfl (ygeq (et rfl rfl) rfl) ?_
        refine Y wn rfl (ym (v := .bool (decide ((0 : Int) ≤ x115))) (et rfl rfl)) ?_
        obtain ⟨r118, gr118, hM15⟩ := bs hM15
        refine joinW 10 (fun f w => f 0 = .int .i64 r6 ∧ f 5 = .pointer (some ⟨b9, 0, none⟩) ∧ f 6 = h11.v ∧ f 8 = h13.v ∧ f 12 = h18.v ∧ f 14 = h20.v ∧ f 16 = h42.v ∧ f 17 = h71.v ∧ f 18 = .int .i64 x73 ∧ f 19 = .int .i64 (-1) ∧ f 122 = .bool r118 ∧ St w0 (imm (rS (rI .i64)) h8.v r7 :: imm (rI .i64) h11.v r10.1 :: imm (rI .i64) h13.v r12.1 :: imm (rI .i64) h18.v r17.1 :: ros) (box b9 27 [h8.v] :: row 3 (rI .i64) h20.v r19.1 :: row 3 (rI .i64) h42.v r41 :: row 3 (rI .i64) h71.v x72 :: rs) w) (fun j19 => ?_) ?_
        · rcases iteS gr118 with ⟨c120, gr118⟩ | ⟨c120, gr118⟩
          · refine Y (wg rfl rfl rfl (decide_eq_true c120)) rfl (ym (v := h11.v) (et rfl e15_6)) ?_
            refine Y (wg rfl rfl rfl (decide_eq_true c120)) rfl (ym (v := h13.v) (et rfl e15_8)) ?_
            refine Y (wg rfl rfl rfl (decide_eq_true c120)) rfl (ym (v := .int .i64 x73) (et rfl e15_18)) ?_
            obtain ⟨x121, gx121, gr118⟩ := bs gr118
            refine Y (wg rfl rfl rfl (decide_eq_true c120)) rfl (yIa SL_22 (et rfl rfl) (et rfl rfl) hst (rdI (mtF (mtF mhF))) gx121) ?_
            refine Y (wg rfl rfl rfl (decide_eq_true c120)) rfl (yI O_3 (et rfl rfl) hst (rdI (mtF (mtF mhF))) gx121) ?_
            obtain ⟨x122, gx122, gr118⟩ := bs gr118
            refine Y (wg rfl rfl rfl (decide_eq_true c120)) rfl (yIa SL_22 (et rfl rfl) (et rfl rfl) hst (rdI (mtF mhF)) gx122) ?_
            refine Y (wg rfl rfl rfl (decide_eq_true c120)) rfl (yI O_3 (et rfl rfl) hst (rdI (mtF mhF)) gx122) ?_
            refine Y (wg rfl rfl rfl (decide_eq_true c120)) rfl (ym (v := .int .i64 r6) (et rfl e15_0)) ?_
            refine Y (wg rfl rfl rfl (decide_eq_true c120)) rfl (ylss (et rfl rfl) (et rfl rfl)) ?_
            refine Y wn rfl (ypt (v := .bool (decide (x122 < r6))) (et rfl rfl) (decide_eq_true c120) (et rfl rfl)) ?_
            obtain rfl := someI gr118
            exact j19 _ _ ⟨e15_0, e15_5, e15_6, e15_8, e15_12, e15_14, e15_16, e15_17, e15_18, rfl, rfl, hst⟩
          · refine Gn (wx rfl rfl rfl (decide_eq_false c120)) rfl ?_
            refine Gn (wx rfl rfl rfl (decide_eq_false c120)) rfl ?_
            refine Gn (wx rfl rfl rfl (decide_eq_false c120)) rfl ?_
            refine Gn (wx rfl rfl rfl (decide_eq_false c120)) rfl ?_
            refine Gn (wx rfl rfl rfl (decide_eq_false c120)) rfl ?_
            refine Gn (wx rfl rfl rfl (decide_eq_false c120)) rfl ?_
            refine Gn (wx rfl rfl rfl (decide_eq_false c120)) rfl ?_
            refine Gn (wx rfl rfl rfl (decide_eq_false c120)) rfl ?_
            refine Gn (wx rfl rfl rfl (decide_eq_false c120)) rfl ?_
            refine Y wn rfl (ypf (v := .bool false) (et rfl rfl) (decide_eq_false c120) rfl) ?_
            obtain rfl := someI gr118
            exact j19 _ _ ⟨e15_0, e15_5, e15_6, e15_8, e15_12, e15_14, e15_16, e15_17, e15_18, rfl, rfl, hst⟩
        clear hst
        rintro f w ⟨e119_0, e119_5, e119_6, e119_8, e119_12, e119_14, e119_16, e119_17, e119_18, e119_19, e119_122, hst⟩
        refine wpList_nil ?_
        refine k47 _ _ ?_
        have j20 : ∀ (x126 : Int) (f : Nat → Value) (w : World), f 0 = .int .i64 r6 → f 5 = .pointer (some ⟨b9, 0, none⟩) → f 6 = h11.v → f 8 = h13.v → f 12 = h18.v → f 14 = h20.v → f 16 = h42.v → f 17 = h71.v → f 18 = .int .i64 x73 → f 19 = .int .i64 x126 → St w0 (imm (rS (rI .i64)) h8.v r7 :: imm (rI .i64) h11.v r10.1 :: imm (rI .i64) h13.v r12.1 :: imm (rI .i64) h18.v r17.1 :: ros) (box b9 27 [h8.v] :: row 3 (rI .i64) h20.v r19.1 :: row 3 (rI .i64) h42.v r41 :: row 3 (rI .i64) h71.v x72 :: rs) w → sparselaw19_EtreePostorder_j20 r17 x73 r19 x72 x126 = some r15_ → Q46 .normal (fr 161 f) w := by
          intro x126 f w ej20_0 ej20_5 ej20_6 ej20_8 ej20_12 ej20_14 ej20_16 ej20_17 ej20_18 ej20_19 hst hM
          refine k46 _ _ ?_
          refine seqQ fun Q48 k48 z48 => ?_
          refine seqQ fun Q49 k49 z49 => ?_
          refine wp_region_lit ?_
          refine Y wn rfl (ym (v := h18.v) (et rfl ej20_12)) ?_
          refine Y wn rfl (ym (v := .int .i64 x73) (et rfl ej20_18)) ?_
          obtain ⟨x127, gx127, hM⟩ := bs hM
          refine Y wn rfl (yIa SL_22 (et rfl rfl) (et rfl rfl) hst (rdI (mtF (mtF (mtF mhF)))) gx127) ?_
          refine Y wn rfl (yI O_3 (et rfl rfl) hst (rdI (mtF (mtF (mtF mhF)))) gx127) ?_
          refine Y wn rfl (ym (v := .int .i64 x126) (et rfl ej20_19)) ?_
          refine Y wn rfl (yneq (et rfl rfl) (et rfl rfl)) ?_
          refine Y wn rfl (ym (v := .bool (!(decide (x127 = x126)))) (et rfl rfl)) ?_
          obtain ⟨r129, gr129, hM⟩ := bs hM
          refine joinW 7 (fun f w => f 0 = .int .i64 r6 ∧ f 5 = .pointer (some ⟨b9, 0, none⟩) ∧ f 6 = h11.v ∧ f 8 = h13.v ∧ f 12 = h18.v ∧ f 14 = h20.v ∧ f 16 = h42.v ∧ f 17 = h71.v ∧ f 18 = .int .i64 x73 ∧ f 146 = .bool r129 ∧ St w0 (imm (rS (rI .i64)) h8.v r7 :: imm (rI .i64) h11.v r10.1 :: imm (rI .i64) h13.v r12.1 :: imm (rI .i64) h18.v r17.1 :: ros) (box b9 27 [h8.v] :: row 3 (rI .i64) h20.v r19.1 :: row 3 (rI .i64) h42.v r41 :: row 3 (rI .i64) h71.v x72 :: rs) w) (fun j21 => ?_) ?_
          · rcases iteS gr129 with ⟨c131, gr129⟩ | ⟨c131, gr129⟩
            · refine Y (wg rfl rfl rfl (nF (decide_eq_true c131))) rfl (ym (v := h20.v) (et rfl ej20_14)) ?_
              refine Y (wg rfl rfl rfl (nF (decide_eq_true c131))) rfl (ym (v := .int .i64 x73) (et rfl ej20_18)) ?_
              obtain ⟨x132, gx132, gr129⟩ := bs gr129
              refine Y (wg rfl rfl rfl (nF (decide_eq_true c131))) rfl (yIa SL_22 (et rfl rfl) (et rfl rfl) hst (rdO (mtR mhR)) gx132) ?_
              refine Y (wg rfl rfl rfl (nF (decide_eq_true c131))) rfl (yI O_3 (et rfl rfl) hst (rdO (mtR mhR)) gx132) ?_
              refine Y (wg rfl rfl rfl (nF (decide_eq_true c131))) rfl (ym (v := .int .i64 x73) (et rfl ej20_18)) ?_
              refine Y (wg rfl rfl rfl (nF (decide_eq_true c131))) rfl (yneq (et rfl rfl) (et rfl rfl)) ?_
              refine Y wn rfl (ypf (v := .bool (!(decide (x132 = x73)))) (et rfl rfl) (nF (decide_eq_true c131)) (et rfl rfl)) ?_
              obtain rfl := someI gr129
              exact j21 _ _ ⟨ej20_0, ej20_5, ej20_6, ej20_8, ej20_12, ej20_14, ej20_16, ej20_17, ej20_18, rfl, hst⟩
            · refine Gn (wx rfl rfl rfl (nT (decide_eq_false c131))) rfl ?_
              refine Gn (wx rfl rfl rfl (nT (decide_eq_false c131))) rfl ?_
              refine Gn (wx rfl rfl rfl (nT (decide_eq_false c131))) rfl ?_
              refine Gn (wx rfl rfl rfl (nT (decide_eq_false c131))) rfl ?_
              refine Gn (wx rfl rfl rfl (nT (decide_eq_false c131))) rfl ?_
              refine Gn (wx rfl rfl rfl (nT (decide_eq_false c131))) rfl ?_
              refine Y wn rfl (ypt (v := .bool true) (et rfl rfl) (nT (decide_eq_false c131)) rfl) ?_
              obtain rfl := someI gr129
              exact j21 _ _ ⟨ej20_0, ej20_5, ej20_6, ej20_8, ej20_12, ej20_14, ej20_16, ej20_17, ej20_18, rfl, hst⟩
          clear hst
          rintro f w ⟨e130_0, e130_5, e130_6, e130_8, e130_12, e130_14, e130_16, e130_17, e130_18, e130_146, hst⟩
          refine wpList_nil ?_
          refine k49 _ _ ?_
          rcases iteS hM with ⟨c133, hM⟩ | ⟨c133, hM⟩
          · refine condT (et rfl e130_146) c133 ?_
            refine seqQ fun Q50 k50 z50 => ?_
            refine wp_region_lit ?_
            refine Y wn rfl (ya (v := .bool false) rfl) ?_
            refine wpList_nil ?_
            refine k50 _ _ ?_
            refine wp_ret ?_
            refine z48 _ _ _ rfl ?_
            refine qb44 _ _ _ ?_
            refine z43 _ _ _ rfl ?_
            obtain rfl := someI hM
            refine zz15 _ _ _ _ rfl rfl ?_
            exact je15_1 _ _ rfl ((hst.pk 4 [] rfl).facts (allT (allT (allT (allT allI))))) (ho15 _ rfl)
          · refine condF (et rfl e130_146) (bfalse c133) ?_
            refine wp_skip ?_
            refine k48 _ _ ?_
            refine wp_region_lit ?_
            refine Y wn rfl (ym (v := h71.v) (et rfl e130_17)) ?_
            refine Y wn rfl (ym (v := .int .i64 x73) (et rfl e130_18)) ?_
            refine YH wn rfl (rLt (n := 1) (l := [x73]) hst SL_22 [.int .i64 x73] (bp1 (et rfl rfl)) rfl rfl (mks1 (cs := [.int .i64 x73]) rfl mkI mks0)) ?_
            clear hst
            intro h134 w hst
            obtain ⟨x136, gx136, hM⟩ := bs hM
            replace hst := hst.pk 5 [4, 0, 0, 0, 0] rfl
            refine YH wn rfl (rAp hst SL_22 (et rfl rfl) (et rfl rfl) (rdO (mtR mhR)) gx136) ?_
            clear hst
            intro h135 w hst
            refine Y wn rfl (ya (v := h135.v) (et rfl rfl)) ?_
            refine wpList_nil ?_
            refine qb44 _ _ _ ?_
            refine k43 _ _ ?_
            refine wp_region_lit ?_
            refine Y wn rfl (ym (v := .int .i64 x73) (et rfl e130_18)) ?_
            refine Y wn rfl (yadd (et rfl rfl) rfl) ?_
            refine Y wn rfl (ya (v := .int .i64 (wa .i64 x73 1)) (et rfl rfl)) ?_
            refine wpList_nil ?_
            obtain rfl := someI hM
            exact n15 _ _ _ rfl ⟨_, _, _, _, rfl, rfl, e130_0, e130_5, e130_6, e130_8, e130_12, e130_14, e130_16, rfl, rfl, (hst.pk 5 [2, 2, 2, 0] rfl)⟩
        rcases iteS hM15 with ⟨c137, hM15⟩ | ⟨c137, hM15⟩
        · refine condT (et rfl e119_122) c137 ?_
          refine wp_region_lit ?_
          refine Y wn rfl (ym (v := h42.v) (et rfl e119_16)) ?_
          refine Y wn rfl (ym (v := h11.v) (et rfl e119_6)) ?_
          refine Y wn rfl (ym (v := h13.v) (et rfl e119_8)) ?_
          refine Y wn rfl (ym (v := .int .i64 x73) (et rfl e119_18)) ?_
          obtain ⟨x138, gx138, hM15⟩ := bs hM15
          refine Y wn rfl (yIa SL_22 (et rfl rfl) (et rfl rfl) hst (rdI (mtF (mtF mhF))) gx138) ?_
          refine Y wn rfl (yI O_3 (et rfl rfl) hst (rdI (mtF (mtF mhF))) gx138) ?_
          obtain ⟨x139, gx139, hM15⟩ := bs hM15
          refine Y wn rfl (yIa SL_22 (et rfl rfl) (et rfl rfl) hst (rdI (mtF mhF)) gx139) ?_
          refine Y wn rfl (yI O_3 (et rfl rfl) hst (rdI (mtF mhF)) gx139) ?_
          obtain ⟨x140, gx140, hM15⟩ := bs hM15
          refine Y wn rfl (yIa SL_22 (et rfl rfl) (et rfl rfl) hst (rdO (mtR (mtR mhR))) gx140) ?_
          refine Y wn rfl (yI O_3 (et rfl rfl) hst (rdO (mtR (mtR mhR))) gx140) ?_
          refine Y wn rfl (ya (v := .int .i64 x140) (et rfl rfl)) ?_
          refine wpList_nil ?_
          exact j20 _ _ _ e119_0 e119_5 e119_6 e119_8 e119_12 e119_14 e119_16 e119_17 e119_18 rfl hst hM15
        · refine condF (et rfl e119_122) (bfalse c137) ?_
          refine wp_skip ?_
          exact j20 _ _ _ e119_0 e119_5 e119_6 e119_8 e119_12 e119_14 e119_16 e119_17 e119_18 e119_19 hst hM15
      · refine condF (et rfl rfl) (decide_eq_false c113) ?_
        refine wp_exit ?_
        refine z41 _ _ _ rfl ?_
        obtain rfl := someI hM15
        refine zz15 _ _ _ _ rfl rfl ?_
        exact je15_0 _ _ _ _ e15_5 e15_8 e15_17 ((hst.pk 4 [0, 2] rfl).facts (allC mhF (allC (mtF (mtF mhF)) (allT (allT (allT (allT allI))))))) (ho15 _ rfl)
end Go.Proofs.Ytoelidgkfpmgnaa
